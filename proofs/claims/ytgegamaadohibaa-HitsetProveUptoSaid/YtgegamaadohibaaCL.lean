/- The statements of this chapter, as code that is run (written by program). No condition. -/
import Derived.Test.YtgegamaadohibaaCb
import Derived.Test.YtgegamaadohibaaX
import Derived.KernelRfl
namespace Go.Abs
open Go
/-! 391 dross/drosslaw39.HitsetValid (pf true): 1 parameters, 0 captured; names [0=in, 1=in] -/
def x391 : XCode :=
 (.seq
 (.reg [⟨some 1, .box (.t 0), none, false, false, []⟩,
 ⟨some 2, .mv (.c (.v (.bool false))), none, false, false, []⟩])
 (.seq
 (.seq
 (.reg [⟨some 3, .call 400 [], none, false, false, []⟩,
 ⟨some 4, .not (.t 3), none, false, false, []⟩,
 ⟨some 5, .mv (.t 4), none, false, false, []⟩,
 ⟨some 6, .fad 0 (.t 1), some (5, false), false, false, []⟩,
 ⟨some 7, .load false 1 (.t 6), some (5, false), false, false, []⟩,
 ⟨some 8, .len (.t 7), some (5, false), false, false, []⟩,
 ⟨some 9, .bin .gtr (.t 8) (.c (.v (.int .i64 210))), some (5, false), false, false, []⟩,
 ⟨some 10, .pick (.t 5) (.c (.v (.bool true))) (.t 9), none, false, false, []⟩,
 ⟨some 11, .mv (.t 10), none, false, false, []⟩,
 ⟨some 12, .fad 1 (.t 1), some (11, false), false, false, []⟩,
 ⟨some 13, .load false 1 (.t 12), some (11, false), false, false, []⟩,
 ⟨some 14, .len (.t 13), some (11, false), false, false, []⟩,
 ⟨some 15, .bin .gtr (.t 14) (.c (.v (.int .i64 2010))), some (11, false), false, false, []⟩,
 ⟨some 16, .pick (.t 11) (.c (.v (.bool true))) (.t 15), none, false, false, []⟩])
 (.cond (.t 16)
 (.seq
 (.reg [⟨some 17, .call 400 [], none, false, false, []⟩,
 ⟨some 2, .mv (.t 17), none, false, false, []⟩])
 (.norm [(2, .fz .k)] .ret)
 )
 .skip
 )
 )
 (.seq
 (.reg [⟨some 18, .load true 2 (.t 1), none, false, false, []⟩,
 ⟨some 19, .call 401 [(.t 18)], none, false, false, [(.ag [(.sl 1 []), (.sl 1 [(.sl 1 [])])])]⟩,
 ⟨some 20, .load true 2 (.t 1), none, false, false, []⟩,
 ⟨some 21, .call 402 [(.t 20)], none, false, false, [(.ag [(.sl 1 []), (.sl 1 [(.sl 1 [])])])]⟩,
 ⟨some 22, .bin .eql (.t 19) (.t 21), none, false, false, []⟩,
 ⟨some 2, .mv (.t 22), none, false, false, []⟩])
 (.norm [(2, .fz .k)] .ret)
 )
 )
 )
def f391 : XFn := ⟨true, 23, [.t 2], .k, x391⟩
/-! 394 dross/drosslaw39.HitsetSound (pf true): 3 parameters, 0 captured; names [0=d, 1=bound, 2=l, 3=d, 4=bound, 5=l, 7=in, 8=ok, 9=got] -/
def x394 : XCode :=
 (.seq
 (.reg [⟨some 3, .box (.t 0), none, false, false, []⟩,
 ⟨some 6, .mv (.c (.v (.bool false))), none, false, false, []⟩])
 (.seq
 (.reg [⟨some 11, .load true 2 (.t 3), none, false, false, []⟩,
 ⟨some 12, .call 403 [(.t 11)], none, false, false, [(.ag [(.sl 1 []), (.sl 1 [])])]⟩,
 ⟨some 10, .mv (.t 12), none, false, false, []⟩,
 ⟨some 13, .ext (.t 10) 0, none, false, false, []⟩,
 ⟨some 14, .ext (.t 10) 1, none, false, false, []⟩,
 ⟨some 7, .alloc [(.slice none 0 0), (.slice none 0 0)], none, false, false, []⟩,
 ⟨none, .store 2 (.t 7) (.t 13), none, false, false, []⟩,
 ⟨some 8, .mv (.t 14), none, false, false, []⟩])
 (.seq
 (.seq
 (.reg [⟨some 15, .call 400 [], none, false, false, []⟩,
 ⟨some 16, .not (.t 15), none, false, false, []⟩,
 ⟨some 17, .mv (.t 16), none, false, false, []⟩,
 ⟨some 18, .mv (.t 8), some (17, false), false, false, []⟩,
 ⟨some 19, .not (.t 18), some (17, false), false, false, []⟩,
 ⟨some 20, .pick (.t 17) (.c (.v (.bool true))) (.t 19), none, false, false, []⟩,
 ⟨some 21, .mv (.t 20), none, false, false, []⟩,
 ⟨some 22, .mv (.t 2), some (21, false), false, false, []⟩,
 ⟨some 23, .len (.t 22), some (21, false), false, false, []⟩,
 ⟨some 24, .bin .gtr (.t 23) (.c (.v (.int .i64 40))), some (21, false), false, false, []⟩,
 ⟨some 25, .pick (.t 21) (.c (.v (.bool true))) (.t 24), none, false, false, []⟩])
 (.cond (.t 25)
 (.seq
 (.reg [⟨some 26, .call 400 [], none, false, false, []⟩,
 ⟨some 6, .mv (.t 26), none, false, false, []⟩])
 (.norm [(6, .fz .k)] .ret)
 )
 .skip
 )
 )
 (.seq
 (.reg [⟨some 27, .load true 2 (.t 7), none, false, false, []⟩,
 ⟨some 28, .mv (.t 1), none, false, false, []⟩,
 ⟨some 29, .mv (.t 2), none, false, false, []⟩,
 ⟨some 30, .call 411 [(.t 27), (.t 28), (.t 29)], none, false, false, [(.ag [(.sl 1 []), (.sl 1 [(.sl 1 [])])]), .k, (.sl 2 [.k, (.sl 2 [])])]⟩,
 ⟨some 9, .mv (.t 30), none, false, false, []⟩])
 (.seq
 (.reg [⟨some 31, .mv (.t 9), none, false, false, []⟩,
 ⟨some 32, .load true 2 (.t 7), none, false, false, []⟩,
 ⟨some 33, .mv (.t 1), none, false, false, []⟩,
 ⟨some 34, .mv (.t 2), none, false, false, []⟩,
 ⟨some 35, .call 412 [(.t 32), (.t 33), (.t 34)], none, false, false, [(.ag [(.sl 1 []), (.sl 1 [(.sl 1 [])])]), .k, (.sl 2 [.k, (.sl 2 [])])]⟩,
 ⟨some 36, .beq false (.t 31) (.t 35), none, false, false, []⟩,
 ⟨some 37, .mv (.t 36), none, false, false, []⟩,
 ⟨some 38, .mv (.t 9), some (37, true), false, false, []⟩,
 ⟨some 39, .not (.t 38), some (37, true), false, false, []⟩,
 ⟨some 40, .mv (.t 39), some (37, true), false, false, []⟩,
 ⟨some 41, .mv (.t 1), some (40, false), false, false, []⟩,
 ⟨some 42, .load true 2 (.t 7), some (40, false), false, false, []⟩,
 ⟨some 43, .call 408 [(.t 42)], some (40, false), false, false, [(.ag [(.sl 1 []), (.sl 1 [(.sl 1 [])])])]⟩,
 ⟨some 44, .bin .leq (.t 41) (.t 43), some (40, false), false, false, []⟩,
 ⟨some 45, .pick (.t 40) (.c (.v (.bool true))) (.t 44), some (37, true), false, false, []⟩,
 ⟨some 46, .pick (.t 37) (.t 45) (.c (.v (.bool false))), none, false, false, []⟩,
 ⟨some 6, .mv (.t 46), none, false, false, []⟩])
 (.norm [(6, .fz .k)] .ret)
 )
 )
 )
 )
 )
def f394 : XFn := ⟨true, 47, [.t 6], .k, x394⟩
/-! 395 dross/drosslaw39.HitsetHits (pf true): 2 parameters, 0 captured; names [0=in, 1=l, 2=in, 3=l, 5=w, 6=e, 7=x, 8=f] -/
def x395 : XCode :=
 (.seq
 (.reg [⟨some 2, .box (.t 0), none, false, false, []⟩,
 ⟨some 4, .mv (.c (.v (.bool false))), none, false, false, []⟩])
 (.seq
 (.seq
 (.reg [⟨some 9, .call 400 [], none, false, false, []⟩,
 ⟨some 10, .not (.t 9), none, false, false, []⟩,
 ⟨some 11, .mv (.t 10), none, false, false, []⟩,
 ⟨some 12, .fad 0 (.t 2), some (11, false), false, false, []⟩,
 ⟨some 13, .load false 1 (.t 12), some (11, false), false, false, []⟩,
 ⟨some 14, .len (.t 13), some (11, false), false, false, []⟩,
 ⟨some 15, .bin .gtr (.t 14) (.c (.v (.int .i64 12))), some (11, false), false, false, []⟩,
 ⟨some 16, .pick (.t 11) (.c (.v (.bool true))) (.t 15), none, false, false, []⟩,
 ⟨some 17, .mv (.t 16), none, false, false, []⟩,
 ⟨some 18, .fad 1 (.t 2), some (17, false), false, false, []⟩,
 ⟨some 19, .load false 1 (.t 18), some (17, false), false, false, []⟩,
 ⟨some 20, .len (.t 19), some (17, false), false, false, []⟩,
 ⟨some 21, .bin .gtr (.t 20) (.c (.v (.int .i64 12))), some (17, false), false, false, []⟩,
 ⟨some 22, .pick (.t 17) (.c (.v (.bool true))) (.t 21), none, false, false, []⟩,
 ⟨some 23, .mv (.t 22), none, false, false, []⟩,
 ⟨some 24, .mv (.t 1), some (23, false), false, false, []⟩,
 ⟨some 25, .len (.t 24), some (23, false), false, false, []⟩,
 ⟨some 26, .bin .gtr (.t 25) (.c (.v (.int .i64 12))), some (23, false), false, false, []⟩,
 ⟨some 27, .pick (.t 23) (.c (.v (.bool true))) (.t 26), none, false, false, []⟩])
 (.cond (.t 27)
 (.seq
 (.reg [⟨some 28, .call 400 [], none, false, false, []⟩,
 ⟨some 4, .mv (.t 28), none, false, false, []⟩])
 (.norm [(4, .fz .k)] .ret)
 )
 .skip
 )
 )
 (.seq
 (.reg [⟨some 30, .load true 2 (.t 2), none, false, false, []⟩,
 ⟨some 31, .mv (.t 1), none, false, false, []⟩,
 ⟨some 32, .call 143 [(.t 31)], none, false, false, [(.sl 1 [])]⟩,
 ⟨some 33, .call 413 [(.t 30), (.t 32)], none, false, false, [(.ag [(.sl 1 []), (.sl 1 [(.sl 1 [])])]), (.sl 1 [])]⟩,
 ⟨some 29, .mv (.t 33), none, false, false, []⟩,
 ⟨some 34, .ext (.t 29) 0, none, false, false, []⟩,
 ⟨some 35, .ext (.t 29) 1, none, false, false, []⟩,
 ⟨some 5, .mv (.t 34), none, false, false, []⟩,
 ⟨some 6, .mv (.t 35), none, false, false, []⟩])
 (.seq
 (.reg [⟨some 37, .load true 2 (.t 2), none, false, false, []⟩,
 ⟨some 38, .mv (.t 1), none, false, false, []⟩,
 ⟨some 39, .call 405 [(.t 37), (.t 38)], none, false, false, [(.ag [(.sl 1 []), (.sl 1 [(.sl 1 [])])]), (.sl 1 [])]⟩,
 ⟨some 36, .mv (.t 39), none, false, false, []⟩,
 ⟨some 40, .ext (.t 36) 0, none, false, false, []⟩,
 ⟨some 41, .ext (.t 36) 1, none, false, false, []⟩,
 ⟨some 7, .mv (.t 40), none, false, false, []⟩,
 ⟨some 8, .mv (.t 41), none, false, false, []⟩])
 (.seq
 (.reg [⟨some 42, .load true 2 (.t 2), none, false, false, []⟩,
 ⟨some 43, .mv (.t 1), none, false, false, []⟩,
 ⟨some 44, .call 143 [(.t 43)], none, false, false, [(.sl 1 [])]⟩,
 ⟨some 45, .call 414 [(.t 42), (.t 44)], none, false, false, [(.ag [(.sl 1 []), (.sl 1 [(.sl 1 [])])]), (.sl 1 [])]⟩,
 ⟨some 46, .load true 2 (.t 2), none, false, false, []⟩,
 ⟨some 47, .mv (.t 1), none, false, false, []⟩,
 ⟨some 48, .call 410 [(.t 46), (.t 47)], none, false, false, [(.ag [(.sl 1 []), (.sl 1 [(.sl 1 [])])]), (.sl 1 [])]⟩,
 ⟨some 49, .beq false (.t 45) (.t 48), none, false, false, []⟩,
 ⟨some 50, .mv (.t 49), none, false, false, []⟩,
 ⟨some 51, .mv (.t 5), some (50, true), false, false, []⟩,
 ⟨some 52, .mv (.t 7), some (50, true), false, false, []⟩,
 ⟨some 53, .bin .eql (.t 51) (.t 52), some (50, true), false, false, []⟩,
 ⟨some 54, .pick (.t 50) (.t 53) (.c (.v (.bool false))), none, false, false, []⟩,
 ⟨some 55, .mv (.t 54), none, false, false, []⟩,
 ⟨some 56, .mv (.t 6), some (55, true), false, false, []⟩,
 ⟨some 57, .mv (.t 8), some (55, true), false, false, []⟩,
 ⟨some 58, .bin .eql (.t 56) (.t 57), some (55, true), false, false, []⟩,
 ⟨some 59, .pick (.t 55) (.t 58) (.c (.v (.bool false))), none, false, false, []⟩,
 ⟨some 4, .mv (.t 59), none, false, false, []⟩])
 (.norm [(4, .fz .k)] .ret)
 )
 )
 )
 )
 )
def f395 : XFn := ⟨true, 60, [.t 4], .k, x395⟩
/-! 396 dross/drosslaw39.HitsetPacking (pf true): 1 parameters, 0 captured; names [0=d, 1=d, 3=in, 4=ok, 5=l, 6=sum, 7=e, 8=total, 9=_, 10=s] -/
/-- alive: 3 in; 5 l; 6 sum; 7 e; 8 total; 29 ; 30 ; 31  -/
def x396a1 : List (Nat × Nk) := [(3, .k), (5, .co (.sl 2 [])), (6, .k), (7, .k), (8, .k), (29, .co (.sl 2 [])), (30, .k), (31, .k)]
theorem x396a1n (s : XSt) : norm x396a1 s = norm [(3, .k), (5, .co (.sl 2 [])), (6, .k), (7, .k), (8, .k), (29, .co (.sl 2 [])), (30, .k), (31, .k)] s := rfl
def x396b1 : XCode :=
 (.seq
 (.reg [⟨some 32, .bin .lss (.t 31) (.t 30), none, false, false, []⟩])
 (.seq
 (.cond (.t 32)
 .skip
 (.norm [(3, .k), (5, .co (.sl 2 [])), (6, .k), (7, .k), (8, .k)] (.exit 0))
 )
 (.seq
 (.blk 1
 (.seq
 (.reg [⟨some 33, .iad 2 (.t 29) (.t 31), none, false, false, []⟩,
 ⟨some 34, .load true 2 (.t 33), none, false, false, []⟩,
 ⟨some 10, .alloc [(.int .i64 0), (.int .i64 0)], none, false, false, []⟩,
 ⟨none, .store 2 (.t 10) (.t 34), none, false, false, []⟩])
 (.reg [⟨some 35, .mv (.t 8), none, false, false, []⟩,
 ⟨some 36, .fad 1 (.t 10), none, false, false, []⟩,
 ⟨some 37, .load false 1 (.t 36), none, false, false, []⟩,
 ⟨some 38, .bin .add (.t 35) (.t 37), none, false, false, []⟩,
 ⟨some 8, .mv (.t 38), none, false, false, []⟩])
 )
 )
 (.reg [⟨some 39, .bin .add (.t 31) (.c (.v (.int .i64 1))), none, false, false, []⟩,
 ⟨some 31, .mv (.t 39), none, false, false, []⟩])
 )
 )
 )

def x396 : XCode :=
 (.seq
 (.reg [⟨some 1, .box (.t 0), none, false, false, []⟩,
 ⟨some 2, .mv (.c (.v (.bool false))), none, false, false, []⟩])
 (.seq
 (.reg [⟨some 12, .load true 2 (.t 1), none, false, false, []⟩,
 ⟨some 13, .call 403 [(.t 12)], none, false, false, [(.ag [(.sl 1 []), (.sl 1 [])])]⟩,
 ⟨some 11, .mv (.t 13), none, false, false, []⟩,
 ⟨some 14, .ext (.t 11) 0, none, false, false, []⟩,
 ⟨some 15, .ext (.t 11) 1, none, false, false, []⟩,
 ⟨some 3, .alloc [(.slice none 0 0), (.slice none 0 0)], none, false, false, []⟩,
 ⟨none, .store 2 (.t 3) (.t 14), none, false, false, []⟩,
 ⟨some 4, .mv (.t 15), none, false, false, []⟩])
 (.seq
 (.seq
 (.reg [⟨some 16, .call 400 [], none, false, false, []⟩,
 ⟨some 17, .not (.t 16), none, false, false, []⟩,
 ⟨some 18, .mv (.t 17), none, false, false, []⟩,
 ⟨some 19, .mv (.t 4), some (18, false), false, false, []⟩,
 ⟨some 20, .not (.t 19), some (18, false), false, false, []⟩,
 ⟨some 21, .pick (.t 18) (.c (.v (.bool true))) (.t 20), none, false, false, []⟩])
 (.cond (.t 21)
 (.seq
 (.reg [⟨some 22, .call 400 [], none, false, false, []⟩,
 ⟨some 2, .mv (.t 22), none, false, false, []⟩])
 (.norm [(2, .fz .k)] .ret)
 )
 .skip
 )
 )
 (.seq
 (.reg [⟨some 24, .load true 2 (.t 3), none, false, false, []⟩,
 ⟨some 25, .call 415 [(.t 24)], none, false, false, [(.ag [(.sl 1 []), (.sl 1 [(.sl 1 [])])])]⟩,
 ⟨some 23, .mv (.t 25), none, false, false, []⟩,
 ⟨some 26, .ext (.t 23) 0, none, false, false, []⟩,
 ⟨some 27, .ext (.t 23) 1, none, false, false, []⟩,
 ⟨some 28, .ext (.t 23) 2, none, false, false, []⟩,
 ⟨some 5, .mv (.t 26), none, false, false, []⟩,
 ⟨some 6, .mv (.t 27), none, false, false, []⟩,
 ⟨some 7, .mv (.t 28), none, false, false, []⟩])
 (.seq
 (.reg [⟨some 8, .mv (.c (.v (.int .i64 0))), none, false, false, []⟩])
 (.seq
 (.seq
 (.reg [⟨some 29, .mv (.t 5), none, false, false, []⟩,
 ⟨some 30, .len (.t 29), none, false, false, []⟩,
 ⟨some 31, .mv (.c (.v (.int .i64 0))), none, false, false, []⟩])
 (.blk 0
 (.loop x396a1 x396b1)
 )
 )
 (.seq
 (.reg [⟨some 40, .mv (.t 7), none, false, false, []⟩,
 ⟨some 41, .bin .eql (.t 40) (.c (.v (.int .i64 0))), none, false, false, []⟩,
 ⟨some 42, .mv (.t 41), none, false, false, []⟩,
 ⟨some 43, .mv (.t 8), some (42, true), false, false, []⟩,
 ⟨some 44, .mv (.t 6), some (42, true), false, false, []⟩,
 ⟨some 45, .bin .eql (.t 43) (.t 44), some (42, true), false, false, []⟩,
 ⟨some 46, .pick (.t 42) (.t 45) (.c (.v (.bool false))), none, false, false, []⟩,
 ⟨some 47, .mv (.t 46), none, false, false, []⟩,
 ⟨some 48, .load true 2 (.t 3), some (47, true), false, false, []⟩,
 ⟨some 49, .mv (.t 6), some (47, true), false, false, []⟩,
 ⟨some 50, .build [(.slice none 0 0), (.slice none 0 0), (.int .i64 0)] [(2, 1, (.t 49))], some (47, true), false, false, []⟩,
 ⟨some 51, .mv (.t 5), some (47, true), false, false, []⟩,
 ⟨some 52, .call 416 [(.t 48), (.t 50), (.t 51)], some (47, true), false, false, [(.ag [(.sl 1 []), (.sl 1 [(.sl 1 [])])]), (.ag [(.sl 1 []), (.sl 1 []), .k]), (.sl 2 [])]⟩,
 ⟨some 53, .pick (.t 47) (.t 52) (.c (.v (.bool false))), none, false, false, []⟩,
 ⟨some 54, .mv (.t 53), none, false, false, []⟩,
 ⟨some 55, .mv (.t 6), some (54, true), false, false, []⟩,
 ⟨some 56, .load true 2 (.t 3), some (54, true), false, false, []⟩,
 ⟨some 57, .call 408 [(.t 56)], some (54, true), false, false, [(.ag [(.sl 1 []), (.sl 1 [(.sl 1 [])])])]⟩,
 ⟨some 58, .bin .leq (.t 55) (.t 57), some (54, true), false, false, []⟩,
 ⟨some 59, .pick (.t 54) (.t 58) (.c (.v (.bool false))), none, false, false, []⟩,
 ⟨some 60, .mv (.t 59), none, false, false, []⟩,
 ⟨some 61, .mv (.t 6), some (60, true), false, false, []⟩,
 ⟨some 62, .bin .gtr (.t 61) (.c (.v (.int .i64 0))), some (60, true), false, false, []⟩,
 ⟨some 63, .fad 1 (.t 3), some (60, true), false, false, []⟩,
 ⟨some 64, .load false 1 (.t 63), some (60, true), false, false, []⟩,
 ⟨some 65, .len (.t 64), some (60, true), false, false, []⟩,
 ⟨some 66, .bin .gtr (.t 65) (.c (.v (.int .i64 0))), some (60, true), false, false, []⟩,
 ⟨some 67, .beq false (.t 62) (.t 66), some (60, true), false, false, []⟩,
 ⟨some 68, .pick (.t 60) (.t 67) (.c (.v (.bool false))), none, false, false, []⟩,
 ⟨some 2, .mv (.t 68), none, false, false, []⟩])
 (.norm [(2, .fz .k)] .ret)
 )
 )
 )
 )
 )
 )
 )
def f396 : XFn := ⟨true, 69, [.t 2], .k, x396⟩
/-! 397 dross/drosslaw39.HitsetProve (pf true): 3 parameters, 0 captured; names [0=d, 1=bound, 2=budget, 3=d, 4=bound, 5=budget, 7=in, 8=ok, 9=l, 10=e, 11=least] -/
def x397 : XCode :=
 (.seq
 (.reg [⟨some 3, .box (.t 0), none, false, false, []⟩,
 ⟨some 6, .mv (.c (.v (.bool false))), none, false, false, []⟩])
 (.seq
 (.reg [⟨some 13, .load true 2 (.t 3), none, false, false, []⟩,
 ⟨some 14, .call 403 [(.t 13)], none, false, false, [(.ag [(.sl 1 []), (.sl 1 [])])]⟩,
 ⟨some 12, .mv (.t 14), none, false, false, []⟩,
 ⟨some 15, .ext (.t 12) 0, none, false, false, []⟩,
 ⟨some 16, .ext (.t 12) 1, none, false, false, []⟩,
 ⟨some 7, .alloc [(.slice none 0 0), (.slice none 0 0)], none, false, false, []⟩,
 ⟨none, .store 2 (.t 7) (.t 15), none, false, false, []⟩,
 ⟨some 8, .mv (.t 16), none, false, false, []⟩])
 (.seq
 (.seq
 (.reg [⟨some 17, .call 400 [], none, false, false, []⟩,
 ⟨some 18, .not (.t 17), none, false, false, []⟩,
 ⟨some 19, .mv (.t 18), none, false, false, []⟩,
 ⟨some 20, .mv (.t 8), some (19, false), false, false, []⟩,
 ⟨some 21, .not (.t 20), some (19, false), false, false, []⟩,
 ⟨some 22, .pick (.t 19) (.c (.v (.bool true))) (.t 21), none, false, false, []⟩])
 (.cond (.t 22)
 (.seq
 (.reg [⟨some 23, .call 400 [], none, false, false, []⟩,
 ⟨some 6, .mv (.t 23), none, false, false, []⟩])
 (.norm [(6, .fz .k)] .ret)
 )
 .skip
 )
 )
 (.seq
 (.reg [⟨some 25, .load true 2 (.t 7), none, false, false, []⟩,
 ⟨some 26, .mv (.t 1), none, false, false, []⟩,
 ⟨some 27, .mv (.t 2), none, false, false, []⟩,
 ⟨some 28, .call 417 [(.t 25), (.t 26), (.t 27)], none, false, false, [(.ag [(.sl 1 []), (.sl 1 [(.sl 1 [])])]), .k, .k]⟩,
 ⟨some 24, .mv (.t 28), none, false, false, []⟩,
 ⟨some 29, .ext (.t 24) 0, none, false, false, []⟩,
 ⟨some 30, .ext (.t 24) 1, none, false, false, []⟩,
 ⟨some 9, .mv (.t 29), none, false, false, []⟩,
 ⟨some 10, .mv (.t 30), none, false, false, []⟩])
 (.seq
 (.reg [⟨some 31, .load true 2 (.t 7), none, false, false, []⟩,
 ⟨some 32, .call 408 [(.t 31)], none, false, false, [(.ag [(.sl 1 []), (.sl 1 [(.sl 1 [])])])]⟩,
 ⟨some 11, .mv (.t 32), none, false, false, []⟩])
 (.seq
 (.blk 0
 (.seq
 (.reg [⟨some 34, .mv (.t 2), none, false, false, []⟩,
 ⟨some 35, .bin .lss (.t 34) (.c (.v (.int .i64 1))), none, false, false, []⟩,
 ⟨some 33, .mv (.t 35), none, false, false, []⟩])
 (.cond (.t 33)
 (.seq
 (.reg [⟨some 36, .mv (.t 10), none, false, false, []⟩,
 ⟨some 37, .bin .eql (.t 36) (.c (.v (.int .i64 1))), none, false, false, []⟩,
 ⟨some 38, .mv (.t 37), none, false, false, []⟩,
 ⟨some 39, .mv (.t 9), some (38, true), false, false, []⟩,
 ⟨some 40, .len (.t 39), some (38, true), false, false, []⟩,
 ⟨some 41, .bin .eql (.t 40) (.c (.v (.int .i64 0))), some (38, true), false, false, []⟩,
 ⟨some 42, .pick (.t 38) (.t 41) (.c (.v (.bool false))), none, false, false, []⟩,
 ⟨some 6, .mv (.t 42), none, false, false, []⟩])
 (.norm [(6, .fz .k)] .ret)
 )
 (.seq
 (.reg [⟨some 44, .mv (.t 1), none, false, false, []⟩,
 ⟨some 45, .call 418 [(.t 44)], none, false, false, []⟩,
 ⟨some 46, .not (.t 45), none, false, false, []⟩,
 ⟨some 43, .mv (.t 46), none, false, false, []⟩])
 (.cond (.t 43)
 (.seq
 (.reg [⟨some 47, .mv (.t 10), none, false, false, []⟩,
 ⟨some 48, .bin .eql (.t 47) (.c (.v (.int .i64 7))), none, false, false, []⟩,
 ⟨some 49, .mv (.t 48), none, false, false, []⟩,
 ⟨some 50, .mv (.t 9), some (49, true), false, false, []⟩,
 ⟨some 51, .len (.t 50), some (49, true), false, false, []⟩,
 ⟨some 52, .bin .eql (.t 51) (.c (.v (.int .i64 0))), some (49, true), false, false, []⟩,
 ⟨some 53, .pick (.t 49) (.t 52) (.c (.v (.bool false))), none, false, false, []⟩,
 ⟨some 6, .mv (.t 53), none, false, false, []⟩])
 (.norm [(6, .fz .k)] .ret)
 )
 (.seq
 (.reg [⟨some 55, .mv (.t 10), none, false, false, []⟩,
 ⟨some 56, .bin .eql (.t 55) (.c (.v (.int .i64 13))), none, false, false, []⟩,
 ⟨some 54, .mv (.t 56), none, false, false, []⟩])
 (.cond (.t 54)
 (.seq
 (.reg [⟨some 57, .mv (.t 2), none, false, false, []⟩,
 ⟨some 58, .bin .lss (.t 57) (.c (.v (.int .i64 10000))), none, false, false, []⟩,
 ⟨some 59, .mv (.t 58), none, false, false, []⟩,
 ⟨some 60, .mv (.t 9), some (59, true), false, false, []⟩,
 ⟨some 61, .len (.t 60), some (59, true), false, false, []⟩,
 ⟨some 62, .bin .eql (.t 61) (.c (.v (.int .i64 0))), some (59, true), false, false, []⟩,
 ⟨some 63, .pick (.t 59) (.t 62) (.c (.v (.bool false))), none, false, false, []⟩,
 ⟨some 6, .mv (.t 63), none, false, false, []⟩])
 (.norm [(6, .fz .k)] .ret)
 )
 (.seq
 (.reg [⟨some 65, .mv (.t 1), none, false, false, []⟩,
 ⟨some 66, .mv (.t 11), none, false, false, []⟩,
 ⟨some 67, .bin .gtr (.t 65) (.t 66), none, false, false, []⟩,
 ⟨some 64, .mv (.t 67), none, false, false, []⟩])
 (.cond (.t 64)
 (.seq
 (.reg [⟨some 68, .mv (.t 10), none, false, false, []⟩,
 ⟨some 69, .bin .eql (.t 68) (.c (.v (.int .i64 11))), none, false, false, []⟩,
 ⟨some 70, .mv (.t 69), none, false, false, []⟩,
 ⟨some 71, .mv (.t 9), some (70, true), false, false, []⟩,
 ⟨some 72, .len (.t 71), some (70, true), false, false, []⟩,
 ⟨some 73, .bin .eql (.t 72) (.c (.v (.int .i64 0))), some (70, true), false, false, []⟩,
 ⟨some 74, .pick (.t 70) (.t 73) (.c (.v (.bool false))), none, false, false, []⟩,
 ⟨some 6, .mv (.t 74), none, false, false, []⟩])
 (.norm [(6, .fz .k)] .ret)
 )
 .skip
 )
 )
 )
 )
 )
 )
 )
 )
 )
 (.seq
 (.reg [⟨some 75, .mv (.t 10), none, false, false, []⟩,
 ⟨some 76, .bin .eql (.t 75) (.c (.v (.int .i64 0))), none, false, false, []⟩,
 ⟨some 77, .mv (.t 76), none, false, false, []⟩,
 ⟨some 78, .mv (.t 9), some (77, true), false, false, []⟩,
 ⟨some 79, .len (.t 78), some (77, true), false, false, []⟩,
 ⟨some 80, .mv (.t 2), some (77, true), false, false, []⟩,
 ⟨some 81, .bin .leq (.t 79) (.t 80), some (77, true), false, false, []⟩,
 ⟨some 82, .pick (.t 77) (.t 81) (.c (.v (.bool false))), none, false, false, []⟩,
 ⟨some 83, .mv (.t 82), none, false, false, []⟩,
 ⟨some 84, .load true 2 (.t 7), some (83, true), false, false, []⟩,
 ⟨some 85, .mv (.t 1), some (83, true), false, false, []⟩,
 ⟨some 86, .mv (.t 9), some (83, true), false, false, []⟩,
 ⟨some 87, .call 412 [(.t 84), (.t 85), (.t 86)], some (83, true), false, false, [(.ag [(.sl 1 []), (.sl 1 [(.sl 1 [])])]), .k, (.sl 2 [.k, (.sl 2 [])])]⟩,
 ⟨some 88, .pick (.t 83) (.t 87) (.c (.v (.bool false))), none, false, false, []⟩,
 ⟨some 89, .mv (.t 88), none, false, false, []⟩,
 ⟨some 90, .load true 2 (.t 7), some (89, true), false, false, []⟩,
 ⟨some 91, .mv (.t 1), some (89, true), false, false, []⟩,
 ⟨some 92, .mv (.t 9), some (89, true), false, false, []⟩,
 ⟨some 93, .call 411 [(.t 90), (.t 91), (.t 92)], some (89, true), false, false, [(.ag [(.sl 1 []), (.sl 1 [(.sl 1 [])])]), .k, (.sl 2 [.k, (.sl 2 [])])]⟩,
 ⟨some 94, .pick (.t 89) (.t 93) (.c (.v (.bool false))), none, false, false, []⟩,
 ⟨some 6, .mv (.t 94), none, false, false, []⟩])
 (.norm [(6, .fz .k)] .ret)
 )
 )
 )
 )
 )
 )
 )
def f397 : XFn := ⟨true, 95, [.t 6], .k, x397⟩
end Go.Abs

namespace Go.Abs
open Go

def xtab : List (Nat × XDef) := [(143, .prim (cloneP 1)),
  (245, .primN (cloneN 1)),
  (456, .primN (growN 2)),
  (400, .fn f400),
  (401, .fn f401),
  (402, .fn f402),
  (403, .fn f403),
  (404, .fn f404),
  (405, .fn f405),
  (408, .fn f408),
  (409, .fn f409),
  (410, .fn f410),
  (411, .fn f411),
  (412, .fn f412),
  (413, .fn f413),
  (414, .fn f414),
  (415, .fn f415),
  (416, .fn f416),
  (417, .fn f417),
  (418, .fn f418),
  (420, .fn f420),
  (421, .fn f421),
  (422, .fn f422),
  (423, .fn f423),
  (424, .fn f424),
  (425, .fn f425),
  (426, .fn f426),
  (427, .fn f427),
  (147, .fn f147),
  (428, .fn f428),
  (429, .fn f429),
  (430, .fn f430),
  (431, .fn f431),
  (432, .fn f432),
  (433, .fn f433),
  (434, .fn f434),
  (435, .fn f435),
  (436, .fn f436),
  (437, .fn f437),
  (438, .fn f438),
  (439, .fn f439),
  (441, .fn f441),
  (442, .fn f442),
  (162, .fn f162),
  (163, .fn f163),
  (443, .fn f443),
  (444, .fn f444),
  (445, .fn f445),
  (446, .fn f446),
  (447, .fn f447),
  (448, .fn f448),
  (449, .fn f449),
  (450, .fn f450),
  (451, .fn f451),
  (452, .fn f452),
  (453, .fn f453),
  (177, .fn f177),
  (178, .fn f178),
  (179, .fn f179),
  (180, .fn f180),
  (181, .fn f181),
  (182, .fn f182),
  (183, .fn f183),
  (184, .fn f184),
  (185, .fn f185),
  (186, .fn f186),
  (187, .fn f187),
  (454, .fn f454),
  (455, .fn f455),
  (457, .fn f457),
  (194, .fn f194),
  (195, .fn f195),
  (196, .fn f196),
  (197, .fn f197),
  (198, .fn f198),
  (199, .fn f199),
  (458, .fn f458),
  (208, .fn f208),
  (391, .fn f391),
  (394, .fn f394),
  (395, .fn f395),
  (396, .fn f396),
  (397, .fn f397)]

def XT : XTab := lookX xtab

theorem T400 : XT 400 = some (.fn f400) := by kernel_rfl
theorem P400 : pfT XT 400 = true := by kernel_rfl
theorem T401 : XT 401 = some (.fn f401) := by kernel_rfl
theorem P401 : pfT XT 401 = true := by kernel_rfl
theorem T402 : XT 402 = some (.fn f402) := by kernel_rfl
theorem P402 : pfT XT 402 = true := by kernel_rfl
theorem T403 : XT 403 = some (.fn f403) := by kernel_rfl
theorem P403 : pfT XT 403 = true := by kernel_rfl
theorem T404 : XT 404 = some (.fn f404) := by kernel_rfl
theorem P404 : pfT XT 404 = true := by kernel_rfl
theorem T405 : XT 405 = some (.fn f405) := by kernel_rfl
theorem P405 : pfT XT 405 = true := by kernel_rfl
theorem T408 : XT 408 = some (.fn f408) := by kernel_rfl
theorem P408 : pfT XT 408 = true := by kernel_rfl
theorem T409 : XT 409 = some (.fn f409) := by kernel_rfl
theorem P409 : pfT XT 409 = true := by kernel_rfl
theorem T410 : XT 410 = some (.fn f410) := by kernel_rfl
theorem P410 : pfT XT 410 = true := by kernel_rfl
theorem T411 : XT 411 = some (.fn f411) := by kernel_rfl
theorem P411 : pfT XT 411 = true := by kernel_rfl
theorem T412 : XT 412 = some (.fn f412) := by kernel_rfl
theorem P412 : pfT XT 412 = true := by kernel_rfl
theorem T413 : XT 413 = some (.fn f413) := by kernel_rfl
theorem P413 : pfT XT 413 = true := by kernel_rfl
theorem T414 : XT 414 = some (.fn f414) := by kernel_rfl
theorem P414 : pfT XT 414 = true := by kernel_rfl
theorem T415 : XT 415 = some (.fn f415) := by kernel_rfl
theorem P415 : pfT XT 415 = true := by kernel_rfl
theorem T416 : XT 416 = some (.fn f416) := by kernel_rfl
theorem P416 : pfT XT 416 = true := by kernel_rfl
theorem T417 : XT 417 = some (.fn f417) := by kernel_rfl
theorem P417 : pfT XT 417 = true := by kernel_rfl
theorem T418 : XT 418 = some (.fn f418) := by kernel_rfl
theorem P418 : pfT XT 418 = true := by kernel_rfl
theorem T420 : XT 420 = some (.fn f420) := by kernel_rfl
theorem P420 : pfT XT 420 = true := by kernel_rfl
theorem T421 : XT 421 = some (.fn f421) := by kernel_rfl
theorem P421 : pfT XT 421 = true := by kernel_rfl
theorem T422 : XT 422 = some (.fn f422) := by kernel_rfl
theorem P422 : pfT XT 422 = true := by kernel_rfl
theorem T423 : XT 423 = some (.fn f423) := by kernel_rfl
theorem P423 : pfT XT 423 = true := by kernel_rfl
theorem T424 : XT 424 = some (.fn f424) := by kernel_rfl
theorem P424 : pfT XT 424 = false := by kernel_rfl
theorem T425 : XT 425 = some (.fn f425) := by kernel_rfl
theorem P425 : pfT XT 425 = false := by kernel_rfl
theorem T426 : XT 426 = some (.fn f426) := by kernel_rfl
theorem P426 : pfT XT 426 = false := by kernel_rfl
theorem T427 : XT 427 = some (.fn f427) := by kernel_rfl
theorem P427 : pfT XT 427 = false := by kernel_rfl
theorem T147 : XT 147 = some (.fn f147) := by kernel_rfl
theorem P147 : pfT XT 147 = false := by kernel_rfl
theorem T428 : XT 428 = some (.fn f428) := by kernel_rfl
theorem P428 : pfT XT 428 = true := by kernel_rfl
theorem T429 : XT 429 = some (.fn f429) := by kernel_rfl
theorem P429 : pfT XT 429 = false := by kernel_rfl
theorem T430 : XT 430 = some (.fn f430) := by kernel_rfl
theorem P430 : pfT XT 430 = false := by kernel_rfl
theorem T431 : XT 431 = some (.fn f431) := by kernel_rfl
theorem P431 : pfT XT 431 = true := by kernel_rfl
theorem T432 : XT 432 = some (.fn f432) := by kernel_rfl
theorem P432 : pfT XT 432 = false := by kernel_rfl
theorem T433 : XT 433 = some (.fn f433) := by kernel_rfl
theorem P433 : pfT XT 433 = true := by kernel_rfl
theorem T434 : XT 434 = some (.fn f434) := by kernel_rfl
theorem P434 : pfT XT 434 = true := by kernel_rfl
theorem T435 : XT 435 = some (.fn f435) := by kernel_rfl
theorem P435 : pfT XT 435 = false := by kernel_rfl
theorem T436 : XT 436 = some (.fn f436) := by kernel_rfl
theorem P436 : pfT XT 436 = false := by kernel_rfl
theorem T437 : XT 437 = some (.fn f437) := by kernel_rfl
theorem P437 : pfT XT 437 = false := by kernel_rfl
theorem T438 : XT 438 = some (.fn f438) := by kernel_rfl
theorem P438 : pfT XT 438 = false := by kernel_rfl
theorem T439 : XT 439 = some (.fn f439) := by kernel_rfl
theorem P439 : pfT XT 439 = false := by kernel_rfl
theorem T441 : XT 441 = some (.fn f441) := by kernel_rfl
theorem P441 : pfT XT 441 = false := by kernel_rfl
theorem T442 : XT 442 = some (.fn f442) := by kernel_rfl
theorem P442 : pfT XT 442 = false := by kernel_rfl
theorem T162 : XT 162 = some (.fn f162) := by kernel_rfl
theorem P162 : pfT XT 162 = false := by kernel_rfl
theorem T163 : XT 163 = some (.fn f163) := by kernel_rfl
theorem P163 : pfT XT 163 = true := by kernel_rfl
theorem T443 : XT 443 = some (.fn f443) := by kernel_rfl
theorem P443 : pfT XT 443 = false := by kernel_rfl
theorem T444 : XT 444 = some (.fn f444) := by kernel_rfl
theorem P444 : pfT XT 444 = false := by kernel_rfl
theorem T445 : XT 445 = some (.fn f445) := by kernel_rfl
theorem P445 : pfT XT 445 = false := by kernel_rfl
theorem T446 : XT 446 = some (.fn f446) := by kernel_rfl
theorem P446 : pfT XT 446 = false := by kernel_rfl
theorem T447 : XT 447 = some (.fn f447) := by kernel_rfl
theorem P447 : pfT XT 447 = true := by kernel_rfl
theorem T448 : XT 448 = some (.fn f448) := by kernel_rfl
theorem P448 : pfT XT 448 = true := by kernel_rfl
theorem T449 : XT 449 = some (.fn f449) := by kernel_rfl
theorem P449 : pfT XT 449 = false := by kernel_rfl
theorem T450 : XT 450 = some (.fn f450) := by kernel_rfl
theorem P450 : pfT XT 450 = false := by kernel_rfl
theorem T451 : XT 451 = some (.fn f451) := by kernel_rfl
theorem P451 : pfT XT 451 = true := by kernel_rfl
theorem T452 : XT 452 = some (.fn f452) := by kernel_rfl
theorem P452 : pfT XT 452 = false := by kernel_rfl
theorem T453 : XT 453 = some (.fn f453) := by kernel_rfl
theorem P453 : pfT XT 453 = false := by kernel_rfl
theorem T177 : XT 177 = some (.fn f177) := by kernel_rfl
theorem P177 : pfT XT 177 = false := by kernel_rfl
theorem T178 : XT 178 = some (.fn f178) := by kernel_rfl
theorem P178 : pfT XT 178 = false := by kernel_rfl
theorem T179 : XT 179 = some (.fn f179) := by kernel_rfl
theorem P179 : pfT XT 179 = false := by kernel_rfl
theorem T180 : XT 180 = some (.fn f180) := by kernel_rfl
theorem P180 : pfT XT 180 = true := by kernel_rfl
theorem T181 : XT 181 = some (.fn f181) := by kernel_rfl
theorem P181 : pfT XT 181 = false := by kernel_rfl
theorem T182 : XT 182 = some (.fn f182) := by kernel_rfl
theorem P182 : pfT XT 182 = false := by kernel_rfl
theorem T183 : XT 183 = some (.fn f183) := by kernel_rfl
theorem P183 : pfT XT 183 = true := by kernel_rfl
theorem T184 : XT 184 = some (.fn f184) := by kernel_rfl
theorem P184 : pfT XT 184 = false := by kernel_rfl
theorem T185 : XT 185 = some (.fn f185) := by kernel_rfl
theorem P185 : pfT XT 185 = false := by kernel_rfl
theorem T186 : XT 186 = some (.fn f186) := by kernel_rfl
theorem P186 : pfT XT 186 = true := by kernel_rfl
theorem T187 : XT 187 = some (.fn f187) := by kernel_rfl
theorem P187 : pfT XT 187 = true := by kernel_rfl
theorem T454 : XT 454 = some (.fn f454) := by kernel_rfl
theorem P454 : pfT XT 454 = false := by kernel_rfl
theorem T455 : XT 455 = some (.fn f455) := by kernel_rfl
theorem P455 : pfT XT 455 = false := by kernel_rfl
theorem T457 : XT 457 = some (.fn f457) := by kernel_rfl
theorem P457 : pfT XT 457 = false := by kernel_rfl
theorem T194 : XT 194 = some (.fn f194) := by kernel_rfl
theorem P194 : pfT XT 194 = false := by kernel_rfl
theorem T195 : XT 195 = some (.fn f195) := by kernel_rfl
theorem P195 : pfT XT 195 = true := by kernel_rfl
theorem T196 : XT 196 = some (.fn f196) := by kernel_rfl
theorem P196 : pfT XT 196 = false := by kernel_rfl
theorem T197 : XT 197 = some (.fn f197) := by kernel_rfl
theorem P197 : pfT XT 197 = false := by kernel_rfl
theorem T198 : XT 198 = some (.fn f198) := by kernel_rfl
theorem P198 : pfT XT 198 = false := by kernel_rfl
theorem T199 : XT 199 = some (.fn f199) := by kernel_rfl
theorem P199 : pfT XT 199 = true := by kernel_rfl
theorem T458 : XT 458 = some (.fn f458) := by kernel_rfl
theorem P458 : pfT XT 458 = false := by kernel_rfl
theorem T208 : XT 208 = some (.fn f208) := by kernel_rfl
theorem P208 : pfT XT 208 = false := by kernel_rfl
theorem T391 : XT 391 = some (.fn f391) := by kernel_rfl
theorem P391 : pfT XT 391 = true := by kernel_rfl
theorem T394 : XT 394 = some (.fn f394) := by kernel_rfl
theorem P394 : pfT XT 394 = true := by kernel_rfl
theorem T395 : XT 395 = some (.fn f395) := by kernel_rfl
theorem P395 : pfT XT 395 = true := by kernel_rfl
theorem T396 : XT 396 = some (.fn f396) := by kernel_rfl
theorem P396 : pfT XT 396 = true := by kernel_rfl
theorem T397 : XT 397 = some (.fn f397) := by kernel_rfl
theorem P397 : pfT XT 397 = true := by kernel_rfl
theorem T143 : XT 143 = some (.prim (cloneP 1)) := by kernel_rfl
theorem P143 : pfT XT 143 = true := by kernel_rfl
theorem T245 : XT 245 = some (.primN (cloneN 1)) := by kernel_rfl
theorem P245 : pfT XT 245 = false := by kernel_rfl
theorem T456 : XT 456 = some (.primN (growN 2)) := by kernel_rfl
theorem P456 : pfT XT 456 = false := by kernel_rfl
end Go.Abs
