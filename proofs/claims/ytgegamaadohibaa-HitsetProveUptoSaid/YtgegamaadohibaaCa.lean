/- Functions that the statements of this chapter reach, as code that is run (written by program). No condition. -/
import Derived.Test.YtgegamaadohibaaX
namespace Go.Abs
open Go
/-! 400 dross/drosslaw39.awake (pf true): 0 parameters, 0 captured; names [1=l, 2=w, 3=e, 4=four] -/
def x400 : XCode :=
 (.seq
 (.reg [⟨some 0, .mv (.c (.v (.bool false))), none, false, false, []⟩])
 (.seq
 (.reg [⟨some 6, .call 420 [], none, false, false, []⟩,
 ⟨some 7, .call 409 [(.t 6), (.c (.v (.int .i64 10000)))], none, false, false, [(.ag [(.sl 1 []), (.sl 1 [(.sl 1 [])])]), .k]⟩,
 ⟨some 5, .mv (.t 7), none, false, false, []⟩,
 ⟨some 8, .ext (.t 5) 0, none, false, false, []⟩,
 ⟨some 9, .ext (.t 5) 1, none, false, false, []⟩,
 ⟨some 10, .ext (.t 5) 2, none, false, false, []⟩,
 ⟨some 1, .mv (.t 8), none, false, false, []⟩,
 ⟨some 2, .mv (.t 9), none, false, false, []⟩,
 ⟨some 3, .mv (.t 10), none, false, false, []⟩])
 (.seq
 (.reg [⟨some 11, .build [(.int .i64 0), (.int .i64 0)] [(0, 1, (.c (.v (.int .i64 0)))), (1, 1, (.c (.v (.int .i64 1))))], none, false, false, []⟩,
 ⟨some 12, .build [(.int .i64 0), (.int .i64 0)] [(0, 1, (.c (.v (.int .i64 1)))), (1, 1, (.c (.v (.int .i64 2))))], none, false, false, []⟩,
 ⟨some 13, .build [(.int .i64 0), (.int .i64 0)] [(0, 1, (.c (.v (.int .i64 2)))), (1, 1, (.c (.v (.int .i64 1))))], none, false, false, []⟩,
 ⟨some 14, .bsl 2 [(.int .i64 0), (.int .i64 0)] 3 [(0, (.t 11)), (1, (.t 12)), (2, (.t 13))], none, false, false, []⟩,
 ⟨some 15, .build [(.int .i64 0), (.slice none 0 0)] [(0, 1, (.c (.v (.int .i64 (-1))))), (1, 1, (.t 14))], none, false, false, []⟩,
 ⟨some 16, .bsl 2 [(.int .i64 0), (.slice none 0 0)] 1 [(0, (.t 15))], none, false, false, []⟩,
 ⟨some 4, .mv (.t 16), none, false, false, []⟩])
 (.seq
 (.reg [⟨some 17, .mv (.t 3), none, false, false, []⟩,
 ⟨some 18, .bin .eql (.t 17) (.c (.v (.int .i64 0))), none, false, false, []⟩,
 ⟨some 19, .mv (.t 18), none, false, false, []⟩,
 ⟨some 20, .mv (.t 2), some (19, true), false, false, []⟩,
 ⟨some 21, .bin .eql (.t 20) (.c (.v (.int .i64 5))), some (19, true), false, false, []⟩,
 ⟨some 22, .pick (.t 19) (.t 21) (.c (.v (.bool false))), none, false, false, []⟩,
 ⟨some 23, .mv (.t 22), none, false, false, []⟩,
 ⟨some 24, .mv (.t 1), some (23, true), false, false, []⟩,
 ⟨some 25, .bsl 1 [(.int .i64 0)] 2 [(0, (.c (.v (.int .i64 0)))), (1, (.c (.v (.int .i64 1))))], some (23, true), false, false, []⟩,
 ⟨some 26, .call 421 [(.t 24), (.t 25)], some (23, true), false, false, [(.sl 1 []), (.sl 1 [])]⟩,
 ⟨some 27, .pick (.t 23) (.t 26) (.c (.v (.bool false))), none, false, false, []⟩,
 ⟨some 28, .mv (.t 27), none, false, false, []⟩,
 ⟨some 29, .call 420 [], some (28, true), false, false, []⟩,
 ⟨some 30, .call 422 [], some (28, true), false, false, []⟩,
 ⟨some 31, .call 411 [(.t 29), (.c (.v (.int .i64 5))), (.t 30)], some (28, true), false, false, [(.ag [(.sl 1 []), (.sl 1 [(.sl 1 [])])]), .k, (.sl 2 [.k, (.sl 2 [])])]⟩,
 ⟨some 32, .pick (.t 28) (.t 31) (.c (.v (.bool false))), none, false, false, []⟩,
 ⟨some 33, .mv (.t 32), none, false, false, []⟩,
 ⟨some 34, .call 420 [], some (33, true), false, false, []⟩,
 ⟨some 35, .call 422 [], some (33, true), false, false, []⟩,
 ⟨some 36, .call 411 [(.t 34), (.c (.v (.int .i64 6))), (.t 35)], some (33, true), false, false, [(.ag [(.sl 1 []), (.sl 1 [(.sl 1 [])])]), .k, (.sl 2 [.k, (.sl 2 [])])]⟩,
 ⟨some 37, .not (.t 36), some (33, true), false, false, []⟩,
 ⟨some 38, .pick (.t 33) (.t 37) (.c (.v (.bool false))), none, false, false, []⟩,
 ⟨some 39, .mv (.t 38), none, false, false, []⟩,
 ⟨some 40, .call 420 [], some (39, true), false, false, []⟩,
 ⟨some 41, .mv (.t 4), some (39, true), false, false, []⟩,
 ⟨some 42, .call 411 [(.t 40), (.c (.v (.int .i64 4))), (.t 41)], some (39, true), false, false, [(.ag [(.sl 1 []), (.sl 1 [(.sl 1 [])])]), .k, (.sl 2 [.k, (.sl 2 [])])]⟩,
 ⟨some 43, .pick (.t 39) (.t 42) (.c (.v (.bool false))), none, false, false, []⟩,
 ⟨some 44, .mv (.t 43), none, false, false, []⟩,
 ⟨some 45, .call 420 [], some (44, true), false, false, []⟩,
 ⟨some 46, .mv (.t 4), some (44, true), false, false, []⟩,
 ⟨some 47, .call 411 [(.t 45), (.c (.v (.int .i64 5))), (.t 46)], some (44, true), false, false, [(.ag [(.sl 1 []), (.sl 1 [(.sl 1 [])])]), .k, (.sl 2 [.k, (.sl 2 [])])]⟩,
 ⟨some 48, .not (.t 47), some (44, true), false, false, []⟩,
 ⟨some 49, .pick (.t 44) (.t 48) (.c (.v (.bool false))), none, false, false, []⟩,
 ⟨some 0, .mv (.t 49), none, false, false, []⟩])
 (.norm [(0, .fz .k)] .ret)
 )
 )
 )
 )
def f400 : XFn := ⟨true, 50, [.t 0], .k, x400⟩
/-! 401 dross/hitset.Valid (pf true): 1 parameters, 0 captured; names [0=in, 1=in, 3=_, 4=w, 5=_, 6=e, 7=last, 8=_, 9=v] -/
/-- alive: 1 in; 21 ; 22 ; 23  -/
def x401a1 : List (Nat × Nk) := [(1, .k), (21, .co (.sl 1 [])), (22, .k), (23, .k)]
theorem x401a1n (s : XSt) : norm x401a1 s = norm [(1, .k), (21, .co (.sl 1 [])), (22, .k), (23, .k)] s := rfl
def x401b1 : XCode :=
 (.seq
 (.reg [⟨some 24, .bin .lss (.t 23) (.t 22), none, false, false, []⟩])
 (.seq
 (.cond (.t 24)
 .skip
 (.norm [(1, .k)] (.exit 0))
 )
 (.seq
 (.blk 1
 (.seq
 (.reg [⟨some 25, .iad 1 (.t 21) (.t 23), none, false, false, []⟩,
 ⟨some 26, .load false 1 (.t 25), none, false, false, []⟩,
 ⟨some 4, .mv (.t 26), none, false, false, []⟩])
 (.seq
 (.reg [⟨some 27, .mv (.t 4), none, false, false, []⟩,
 ⟨some 28, .bin .lss (.t 27) (.c (.v (.int .i64 1))), none, false, false, []⟩,
 ⟨some 29, .mv (.t 28), none, false, false, []⟩,
 ⟨some 30, .mv (.t 4), some (29, false), false, false, []⟩,
 ⟨some 31, .bin .gtr (.t 30) (.c (.v (.int .i64 1000000))), some (29, false), false, false, []⟩,
 ⟨some 32, .pick (.t 29) (.c (.v (.bool true))) (.t 31), none, false, false, []⟩])
 (.cond (.t 32)
 (.seq
 (.reg [⟨some 2, .mv (.c (.v (.int .i64 1))), none, false, false, []⟩])
 (.norm [(2, .fz .k)] .ret)
 )
 .skip
 )
 )
 )
 )
 (.reg [⟨some 33, .bin .add (.t 23) (.c (.v (.int .i64 1))), none, false, false, []⟩,
 ⟨some 23, .mv (.t 33), none, false, false, []⟩])
 )
 )
 )

/-- alive: 1 in; 6 e; 7 last; 35 ; 36 ; 37 ; 41 ; 42 ; 43  -/
def x401a2 : List (Nat × Nk) := [(1, .k), (6, .co (.sl 1 [])), (7, .k), (35, .co (.sl 1 [(.sl 1 [])])), (36, .k), (37, .k), (41, .co (.sl 1 [])), (42, .k), (43, .k)]
theorem x401a2n (s : XSt) : norm x401a2 s = norm [(1, .k), (6, .co (.sl 1 [])), (7, .k), (35, .co (.sl 1 [(.sl 1 [])])), (36, .k), (37, .k), (41, .co (.sl 1 [])), (42, .k), (43, .k)] s := rfl
def x401b2 : XCode :=
 (.seq
 (.reg [⟨some 44, .bin .lss (.t 43) (.t 42), none, false, false, []⟩])
 (.seq
 (.cond (.t 44)
 .skip
 (.norm [(1, .k), (6, .co (.sl 1 [])), (35, .co (.sl 1 [(.sl 1 [])])), (36, .k), (37, .k)] (.exit 4))
 )
 (.seq
 (.blk 5
 (.seq
 (.reg [⟨some 45, .iad 1 (.t 41) (.t 43), none, false, false, []⟩,
 ⟨some 46, .load false 1 (.t 45), none, false, false, []⟩,
 ⟨some 9, .mv (.t 46), none, false, false, []⟩])
 (.seq
 (.seq
 (.reg [⟨some 47, .mv (.t 9), none, false, false, []⟩,
 ⟨some 48, .mv (.t 7), none, false, false, []⟩,
 ⟨some 49, .bin .leq (.t 47) (.t 48), none, false, false, []⟩,
 ⟨some 50, .mv (.t 49), none, false, false, []⟩,
 ⟨some 51, .mv (.t 9), some (50, false), false, false, []⟩,
 ⟨some 52, .fad 0 (.t 1), some (50, false), false, false, []⟩,
 ⟨some 53, .load false 1 (.t 52), some (50, false), false, false, []⟩,
 ⟨some 54, .len (.t 53), some (50, false), false, false, []⟩,
 ⟨some 55, .bin .geq (.t 51) (.t 54), some (50, false), false, false, []⟩,
 ⟨some 56, .pick (.t 50) (.c (.v (.bool true))) (.t 55), none, false, false, []⟩])
 (.cond (.t 56)
 (.seq
 (.reg [⟨some 2, .mv (.c (.v (.int .i64 1))), none, false, false, []⟩])
 (.norm [(2, .fz .k)] .ret)
 )
 .skip
 )
 )
 (.reg [⟨some 57, .mv (.t 9), none, false, false, []⟩,
 ⟨some 7, .mv (.t 57), none, false, false, []⟩])
 )
 )
 )
 (.reg [⟨some 58, .bin .add (.t 43) (.c (.v (.int .i64 1))), none, false, false, []⟩,
 ⟨some 43, .mv (.t 58), none, false, false, []⟩])
 )
 )
 )

/-- alive: 1 in; 35 ; 36 ; 37  -/
def x401a3 : List (Nat × Nk) := [(1, .k), (35, .co (.sl 1 [(.sl 1 [])])), (36, .k), (37, .k)]
theorem x401a3n (s : XSt) : norm x401a3 s = norm [(1, .k), (35, .co (.sl 1 [(.sl 1 [])])), (36, .k), (37, .k)] s := rfl
def x401b3 : XCode :=
 (.seq
 (.reg [⟨some 38, .bin .lss (.t 37) (.t 36), none, false, false, []⟩])
 (.seq
 (.cond (.t 38)
 .skip
 (.norm [] (.exit 2))
 )
 (.seq
 (.blk 3
 (.seq
 (.reg [⟨some 39, .iad 1 (.t 35) (.t 37), none, false, false, []⟩,
 ⟨some 40, .load false 1 (.t 39), none, false, false, []⟩,
 ⟨some 6, .mv (.t 40), none, false, false, []⟩])
 (.seq
 (.reg [⟨some 7, .mv (.c (.v (.int .i64 (-1)))), none, false, false, []⟩])
 (.seq
 (.seq
 (.reg [⟨some 41, .mv (.t 6), none, false, false, []⟩,
 ⟨some 42, .len (.t 41), none, false, false, []⟩,
 ⟨some 43, .mv (.c (.v (.int .i64 0))), none, false, false, []⟩])
 (.blk 4
 (.loop x401a2 x401b2)
 )
 )
 (.seq
 (.reg [⟨some 59, .mv (.t 6), none, false, false, []⟩,
 ⟨some 60, .len (.t 59), none, false, false, []⟩,
 ⟨some 61, .bin .eql (.t 60) (.c (.v (.int .i64 0))), none, false, false, []⟩])
 (.cond (.t 61)
 (.seq
 (.reg [⟨some 2, .mv (.c (.v (.int .i64 1))), none, false, false, []⟩])
 (.norm [(2, .fz .k)] .ret)
 )
 .skip
 )
 )
 )
 )
 )
 )
 (.reg [⟨some 62, .bin .add (.t 37) (.c (.v (.int .i64 1))), none, false, false, []⟩,
 ⟨some 37, .mv (.t 62), none, false, false, []⟩])
 )
 )
 )

def x401 : XCode :=
 (.seq
 (.reg [⟨some 1, .box (.t 0), none, false, false, []⟩,
 ⟨some 2, .mv (.c (.v (.int .i64 0))), none, false, false, []⟩])
 (.seq
 (.seq
 (.reg [⟨some 10, .fad 0 (.t 1), none, false, false, []⟩,
 ⟨some 11, .load false 1 (.t 10), none, false, false, []⟩,
 ⟨some 12, .len (.t 11), none, false, false, []⟩,
 ⟨some 13, .bin .gtr (.t 12) (.c (.v (.int .i64 200))), none, false, false, []⟩,
 ⟨some 14, .mv (.t 13), none, false, false, []⟩,
 ⟨some 15, .fad 1 (.t 1), some (14, false), false, false, []⟩,
 ⟨some 16, .load false 1 (.t 15), some (14, false), false, false, []⟩,
 ⟨some 17, .len (.t 16), some (14, false), false, false, []⟩,
 ⟨some 18, .bin .gtr (.t 17) (.c (.v (.int .i64 2000))), some (14, false), false, false, []⟩,
 ⟨some 19, .pick (.t 14) (.c (.v (.bool true))) (.t 18), none, false, false, []⟩])
 (.cond (.t 19)
 (.seq
 (.reg [⟨some 2, .mv (.c (.v (.int .i64 3))), none, false, false, []⟩])
 (.norm [(2, .fz .k)] .ret)
 )
 .skip
 )
 )
 (.seq
 (.seq
 (.reg [⟨some 20, .fad 0 (.t 1), none, false, false, []⟩,
 ⟨some 21, .load false 1 (.t 20), none, false, false, []⟩,
 ⟨some 22, .len (.t 21), none, false, false, []⟩,
 ⟨some 23, .mv (.c (.v (.int .i64 0))), none, false, false, []⟩])
 (.blk 0
 (.loop x401a1 x401b1)
 )
 )
 (.seq
 (.seq
 (.reg [⟨some 34, .fad 1 (.t 1), none, false, false, []⟩,
 ⟨some 35, .load false 1 (.t 34), none, false, false, []⟩,
 ⟨some 36, .len (.t 35), none, false, false, []⟩,
 ⟨some 37, .mv (.c (.v (.int .i64 0))), none, false, false, []⟩])
 (.blk 2
 (.loop x401a3 x401b3)
 )
 )
 (.seq
 (.reg [⟨some 2, .mv (.c (.v (.int .i64 0))), none, false, false, []⟩])
 (.norm [(2, .fz .k)] .ret)
 )
 )
 )
 )
 )
def f401 : XFn := ⟨true, 63, [.t 2], .k, x401⟩
/-! 402 dross/drossref39.Valid (pf true): 1 parameters, 0 captured; names [0=in, 1=in, 3=i, 4=i, 5=before, 6=k, 7=v] -/
/-- alive: 1 in; 3 i -/
def x402a1 : List (Nat × Nk) := [(1, .k), (3, .k)]
theorem x402a1n (s : XSt) : norm x402a1 s = norm [(1, .k), (3, .k)] s := rfl
def x402b1 : XCode :=
 (.seq
 (.seq
 (.reg [⟨some 18, .mv (.t 3), none, false, false, []⟩,
 ⟨some 19, .fad 0 (.t 1), none, false, false, []⟩,
 ⟨some 20, .load false 1 (.t 19), none, false, false, []⟩,
 ⟨some 21, .len (.t 20), none, false, false, []⟩,
 ⟨some 22, .bin .lss (.t 18) (.t 21), none, false, false, []⟩])
 (.cond (.t 22)
 .skip
 (.norm [(1, .k)] (.exit 0))
 )
 )
 (.seq
 (.blk 1
 (.seq
 (.reg [⟨some 25, .fad 0 (.t 1), none, false, false, []⟩,
 ⟨some 26, .load false 1 (.t 25), none, false, false, []⟩,
 ⟨some 27, .mv (.t 3), none, false, false, []⟩,
 ⟨some 28, .iad 1 (.t 26) (.t 27), none, false, false, []⟩,
 ⟨some 29, .load false 1 (.t 28), none, false, false, []⟩,
 ⟨some 30, .bin .lss (.t 29) (.c (.v (.int .i64 1))), none, false, false, []⟩,
 ⟨some 31, .mv (.t 30), none, false, false, []⟩,
 ⟨some 32, .fad 0 (.t 1), some (31, false), false, false, []⟩,
 ⟨some 33, .load false 1 (.t 32), some (31, false), false, false, []⟩,
 ⟨some 34, .mv (.t 3), some (31, false), false, false, []⟩,
 ⟨some 35, .iad 1 (.t 33) (.t 34), some (31, false), false, false, []⟩,
 ⟨some 36, .load false 1 (.t 35), some (31, false), false, false, []⟩,
 ⟨some 37, .bin .gtr (.t 36) (.c (.v (.int .i64 1000000))), some (31, false), false, false, []⟩,
 ⟨some 38, .pick (.t 31) (.c (.v (.bool true))) (.t 37), none, false, false, []⟩])
 (.cond (.t 38)
 (.seq
 (.reg [⟨some 2, .mv (.c (.v (.int .i64 1))), none, false, false, []⟩])
 (.norm [(2, .fz .k)] .ret)
 )
 .skip
 )
 )
 )
 (.reg [⟨some 23, .mv (.t 3), none, false, false, []⟩,
 ⟨some 24, .bin .add (.t 23) (.c (.v (.int .i64 1))), none, false, false, []⟩,
 ⟨some 3, .mv (.t 24), none, false, false, []⟩])
 )
 )

/-- alive: 1 in; 4 i; 5 before; 6 k -/
def x402a2 : List (Nat × Nk) := [(1, .k), (4, .k), (5, .k), (6, .k)]
theorem x402a2n (s : XSt) : norm x402a2 s = norm [(1, .k), (4, .k), (5, .k), (6, .k)] s := rfl
def x402b2 : XCode :=
 (.seq
 (.seq
 (.reg [⟨some 46, .mv (.t 6), none, false, false, []⟩,
 ⟨some 47, .fad 1 (.t 1), none, false, false, []⟩,
 ⟨some 48, .load false 1 (.t 47), none, false, false, []⟩,
 ⟨some 49, .mv (.t 4), none, false, false, []⟩,
 ⟨some 50, .iad 1 (.t 48) (.t 49), none, false, false, []⟩,
 ⟨some 51, .load false 1 (.t 50), none, false, false, []⟩,
 ⟨some 52, .len (.t 51), none, false, false, []⟩,
 ⟨some 53, .bin .lss (.t 46) (.t 52), none, false, false, []⟩])
 (.cond (.t 53)
 .skip
 (.norm [(1, .k), (4, .k), (5, .k)] (.exit 4))
 )
 )
 (.seq
 (.blk 5
 (.seq
 (.reg [⟨some 56, .fad 1 (.t 1), none, false, false, []⟩,
 ⟨some 57, .load false 1 (.t 56), none, false, false, []⟩,
 ⟨some 58, .mv (.t 4), none, false, false, []⟩,
 ⟨some 59, .iad 1 (.t 57) (.t 58), none, false, false, []⟩,
 ⟨some 60, .load false 1 (.t 59), none, false, false, []⟩,
 ⟨some 61, .mv (.t 6), none, false, false, []⟩,
 ⟨some 62, .iad 1 (.t 60) (.t 61), none, false, false, []⟩,
 ⟨some 63, .load false 1 (.t 62), none, false, false, []⟩,
 ⟨some 7, .mv (.t 63), none, false, false, []⟩])
 (.seq
 (.seq
 (.reg [⟨some 64, .mv (.t 7), none, false, false, []⟩,
 ⟨some 65, .mv (.t 5), none, false, false, []⟩,
 ⟨some 66, .bin .leq (.t 64) (.t 65), none, false, false, []⟩,
 ⟨some 67, .mv (.t 66), none, false, false, []⟩,
 ⟨some 68, .mv (.t 7), some (67, false), false, false, []⟩,
 ⟨some 69, .fad 0 (.t 1), some (67, false), false, false, []⟩,
 ⟨some 70, .load false 1 (.t 69), some (67, false), false, false, []⟩,
 ⟨some 71, .len (.t 70), some (67, false), false, false, []⟩,
 ⟨some 72, .bin .geq (.t 68) (.t 71), some (67, false), false, false, []⟩,
 ⟨some 73, .pick (.t 67) (.c (.v (.bool true))) (.t 72), none, false, false, []⟩])
 (.cond (.t 73)
 (.seq
 (.reg [⟨some 2, .mv (.c (.v (.int .i64 1))), none, false, false, []⟩])
 (.norm [(2, .fz .k)] .ret)
 )
 .skip
 )
 )
 (.reg [⟨some 74, .mv (.t 7), none, false, false, []⟩,
 ⟨some 5, .mv (.t 74), none, false, false, []⟩])
 )
 )
 )
 (.reg [⟨some 54, .mv (.t 6), none, false, false, []⟩,
 ⟨some 55, .bin .add (.t 54) (.c (.v (.int .i64 1))), none, false, false, []⟩,
 ⟨some 6, .mv (.t 55), none, false, false, []⟩])
 )
 )

/-- alive: 1 in; 4 i -/
def x402a3 : List (Nat × Nk) := [(1, .k), (4, .k)]
theorem x402a3n (s : XSt) : norm x402a3 s = norm [(1, .k), (4, .k)] s := rfl
def x402b3 : XCode :=
 (.seq
 (.seq
 (.reg [⟨some 39, .mv (.t 4), none, false, false, []⟩,
 ⟨some 40, .fad 1 (.t 1), none, false, false, []⟩,
 ⟨some 41, .load false 1 (.t 40), none, false, false, []⟩,
 ⟨some 42, .len (.t 41), none, false, false, []⟩,
 ⟨some 43, .bin .lss (.t 39) (.t 42), none, false, false, []⟩])
 (.cond (.t 43)
 .skip
 (.norm [] (.exit 2))
 )
 )
 (.seq
 (.blk 3
 (.seq
 (.reg [⟨some 5, .mv (.c (.v (.int .i64 (-1)))), none, false, false, []⟩])
 (.seq
 (.seq
 (.reg [⟨some 6, .mv (.c (.v (.int .i64 0))), none, false, false, []⟩])
 (.blk 4
 (.loop x402a2 x402b2)
 )
 )
 (.seq
 (.reg [⟨some 75, .mv (.t 5), none, false, false, []⟩,
 ⟨some 76, .bin .lss (.t 75) (.c (.v (.int .i64 0))), none, false, false, []⟩])
 (.cond (.t 76)
 (.seq
 (.reg [⟨some 2, .mv (.c (.v (.int .i64 1))), none, false, false, []⟩])
 (.norm [(2, .fz .k)] .ret)
 )
 .skip
 )
 )
 )
 )
 )
 (.reg [⟨some 44, .mv (.t 4), none, false, false, []⟩,
 ⟨some 45, .bin .add (.t 44) (.c (.v (.int .i64 1))), none, false, false, []⟩,
 ⟨some 4, .mv (.t 45), none, false, false, []⟩])
 )
 )

def x402 : XCode :=
 (.seq
 (.reg [⟨some 1, .box (.t 0), none, false, false, []⟩,
 ⟨some 2, .mv (.c (.v (.int .i64 0))), none, false, false, []⟩])
 (.seq
 (.seq
 (.reg [⟨some 8, .fad 0 (.t 1), none, false, false, []⟩,
 ⟨some 9, .load false 1 (.t 8), none, false, false, []⟩,
 ⟨some 10, .len (.t 9), none, false, false, []⟩,
 ⟨some 11, .bin .gtr (.t 10) (.c (.v (.int .i64 200))), none, false, false, []⟩,
 ⟨some 12, .mv (.t 11), none, false, false, []⟩,
 ⟨some 13, .fad 1 (.t 1), some (12, false), false, false, []⟩,
 ⟨some 14, .load false 1 (.t 13), some (12, false), false, false, []⟩,
 ⟨some 15, .len (.t 14), some (12, false), false, false, []⟩,
 ⟨some 16, .bin .gtr (.t 15) (.c (.v (.int .i64 2000))), some (12, false), false, false, []⟩,
 ⟨some 17, .pick (.t 12) (.c (.v (.bool true))) (.t 16), none, false, false, []⟩])
 (.cond (.t 17)
 (.seq
 (.reg [⟨some 2, .mv (.c (.v (.int .i64 3))), none, false, false, []⟩])
 (.norm [(2, .fz .k)] .ret)
 )
 .skip
 )
 )
 (.seq
 (.seq
 (.reg [⟨some 3, .mv (.c (.v (.int .i64 0))), none, false, false, []⟩])
 (.blk 0
 (.loop x402a1 x402b1)
 )
 )
 (.seq
 (.seq
 (.reg [⟨some 4, .mv (.c (.v (.int .i64 0))), none, false, false, []⟩])
 (.blk 2
 (.loop x402a3 x402b3)
 )
 )
 (.seq
 (.reg [⟨some 2, .mv (.c (.v (.int .i64 0))), none, false, false, []⟩])
 (.norm [(2, .fz .k)] .ret)
 )
 )
 )
 )
 )
def f402 : XFn := ⟨true, 77, [.t 2], .k, x402⟩
/-! 403 dross/drossref39.Of (pf true): 1 parameters, 0 captured; names [0=d, 1=d, 4=in, 5=i, 6=i, 7=l] -/
/-- alive: 1 d; 2 ; 4 in; 5 i -/
def x403a1 : List (Nat × Nk) := [(1, .k), (2, .k), (4, .k), (5, .k)]
theorem x403a1n (s : XSt) : norm x403a1 s = norm [(1, .k), (2, .k), (4, .k), (5, .k)] s := rfl
def x403b1 : XCode :=
 (.seq
 (.seq
 (.reg [⟨some 19, .mv (.t 5), none, false, false, []⟩,
 ⟨some 20, .fad 0 (.t 1), none, false, false, []⟩,
 ⟨some 21, .load false 1 (.t 20), none, false, false, []⟩,
 ⟨some 22, .len (.t 21), none, false, false, []⟩,
 ⟨some 23, .bin .lss (.t 19) (.t 22), none, false, false, []⟩])
 (.cond (.t 23)
 .skip
 (.norm [(1, .k), (2, .k), (4, .k)] (.exit 0))
 )
 )
 (.seq
 (.blk 1
 (.reg [⟨some 26, .fad 0 (.t 4), none, false, false, []⟩,
 ⟨some 27, .load false 1 (.t 26), none, false, false, []⟩,
 ⟨some 28, .fad 0 (.t 1), none, false, false, []⟩,
 ⟨some 29, .load false 1 (.t 28), none, false, false, []⟩,
 ⟨some 30, .mv (.t 5), none, false, false, []⟩,
 ⟨some 31, .iad 1 (.t 29) (.t 30), none, false, false, []⟩,
 ⟨some 32, .load false 1 (.t 31), none, false, false, []⟩,
 ⟨some 33, .bin .rem (.t 32) (.c (.v (.int .u8 20))), none, false, false, []⟩,
 ⟨some 34, .conv .i64 (.t 33), none, false, false, []⟩,
 ⟨some 35, .bin .add (.c (.v (.int .i64 1))) (.t 34), none, false, false, []⟩,
 ⟨some 36, .bsl 1 [(.int .i64 0)] 1 [(0, (.t 35))], none, false, false, []⟩,
 ⟨some 37, .app 1 (.t 27) (.t 36), none, false, false, []⟩,
 ⟨some 38, .fad 0 (.t 4), none, false, false, []⟩,
 ⟨none, .store 1 (.t 38) (.t 37), none, false, false, []⟩])
 )
 (.reg [⟨some 24, .mv (.t 5), none, false, false, []⟩,
 ⟨some 25, .bin .add (.t 24) (.c (.v (.int .i64 1))), none, false, false, []⟩,
 ⟨some 5, .mv (.t 25), none, false, false, []⟩])
 )
 )

/-- alive: 1 d; 2 ; 4 in; 6 i -/
def x403a2 : List (Nat × Nk) := [(1, .k), (2, .k), (4, .k), (6, .k)]
theorem x403a2n (s : XSt) : norm x403a2 s = norm [(1, .k), (2, .k), (4, .k), (6, .k)] s := rfl
def x403b2 : XCode :=
 (.seq
 (.seq
 (.reg [⟨some 39, .mv (.t 6), none, false, false, []⟩,
 ⟨some 40, .fad 1 (.t 1), none, false, false, []⟩,
 ⟨some 41, .load false 1 (.t 40), none, false, false, []⟩,
 ⟨some 42, .len (.t 41), none, false, false, []⟩,
 ⟨some 43, .bin .lss (.t 39) (.t 42), none, false, false, []⟩])
 (.cond (.t 43)
 .skip
 (.norm [(2, .k), (4, .k)] (.exit 2))
 )
 )
 (.seq
 (.blk 3
 (.seq
 (.reg [⟨some 46, .fad 1 (.t 1), none, false, false, []⟩,
 ⟨some 47, .load false 1 (.t 46), none, false, false, []⟩,
 ⟨some 48, .mv (.t 6), none, false, false, []⟩,
 ⟨some 49, .iad 1 (.t 47) (.t 48), none, false, false, []⟩,
 ⟨some 50, .load false 1 (.t 49), none, false, false, []⟩,
 ⟨some 51, .conv .i64 (.t 50), none, false, false, []⟩,
 ⟨some 52, .fad 0 (.t 1), none, false, false, []⟩,
 ⟨some 53, .load false 1 (.t 52), none, false, false, []⟩,
 ⟨some 54, .len (.t 53), none, false, false, []⟩,
 ⟨some 55, .call 423 [(.t 51), (.t 54)], none, false, false, []⟩,
 ⟨some 7, .mv (.t 55), none, false, false, []⟩])
 (.seq
 (.reg [⟨some 56, .mv (.t 7), none, false, false, []⟩,
 ⟨some 57, .len (.t 56), none, false, false, []⟩,
 ⟨some 58, .bin .gtr (.t 57) (.c (.v (.int .i64 0))), none, false, false, []⟩])
 (.cond (.t 58)
 (.reg [⟨some 59, .fad 1 (.t 4), none, false, false, []⟩,
 ⟨some 60, .load false 1 (.t 59), none, false, false, []⟩,
 ⟨some 61, .mv (.t 7), none, false, false, []⟩,
 ⟨some 62, .bsl 1 [(.slice none 0 0)] 1 [(0, (.t 61))], none, false, false, []⟩,
 ⟨some 63, .app 1 (.t 60) (.t 62), none, false, false, []⟩,
 ⟨some 64, .fad 1 (.t 4), none, false, false, []⟩,
 ⟨none, .store 1 (.t 64) (.t 63), none, false, false, []⟩])
 .skip
 )
 )
 )
 )
 (.reg [⟨some 44, .mv (.t 6), none, false, false, []⟩,
 ⟨some 45, .bin .add (.t 44) (.c (.v (.int .i64 1))), none, false, false, []⟩,
 ⟨some 6, .mv (.t 45), none, false, false, []⟩])
 )
 )

def x403 : XCode :=
 (.seq
 (.reg [⟨some 1, .box (.t 0), none, false, false, []⟩,
 ⟨some 2, .alloc [(.slice none 0 0), (.slice none 0 0)], none, false, false, []⟩,
 ⟨some 3, .mv (.c (.v (.bool false))), none, false, false, []⟩])
 (.seq
 (.seq
 (.reg [⟨some 8, .fad 0 (.t 1), none, false, false, []⟩,
 ⟨some 9, .load false 1 (.t 8), none, false, false, []⟩,
 ⟨some 10, .len (.t 9), none, false, false, []⟩,
 ⟨some 11, .bin .gtr (.t 10) (.c (.v (.int .i64 8))), none, false, false, []⟩,
 ⟨some 12, .mv (.t 11), none, false, false, []⟩,
 ⟨some 13, .fad 1 (.t 1), some (12, false), false, false, []⟩,
 ⟨some 14, .load false 1 (.t 13), some (12, false), false, false, []⟩,
 ⟨some 15, .len (.t 14), some (12, false), false, false, []⟩,
 ⟨some 16, .bin .gtr (.t 15) (.c (.v (.int .i64 12))), some (12, false), false, false, []⟩,
 ⟨some 17, .pick (.t 12) (.c (.v (.bool true))) (.t 16), none, false, false, []⟩])
 (.cond (.t 17)
 (.seq
 (.reg [⟨some 18, .build [(.slice none 0 0), (.slice none 0 0)] [], none, false, false, []⟩,
 ⟨none, .store 2 (.t 2) (.t 18), none, false, false, []⟩,
 ⟨some 3, .mv (.c (.v (.bool false))), none, false, false, []⟩])
 (.norm [(2, .k), (3, .k)] .ret)
 )
 .skip
 )
 )
 (.seq
 (.reg [⟨some 4, .alloc [(.slice none 0 0), (.slice none 0 0)], none, false, false, []⟩])
 (.seq
 (.seq
 (.reg [⟨some 5, .mv (.c (.v (.int .i64 0))), none, false, false, []⟩])
 (.blk 0
 (.loop x403a1 x403b1)
 )
 )
 (.seq
 (.seq
 (.reg [⟨some 6, .mv (.c (.v (.int .i64 0))), none, false, false, []⟩])
 (.blk 2
 (.loop x403a2 x403b2)
 )
 )
 (.seq
 (.reg [⟨some 65, .load true 2 (.t 4), none, false, false, []⟩,
 ⟨none, .store 2 (.t 2) (.t 65), none, false, false, []⟩,
 ⟨some 3, .mv (.c (.v (.bool true))), none, false, false, []⟩])
 (.norm [(2, .k), (3, .k)] .ret)
 )
 )
 )
 )
 )
 )
def f403 : XFn := ⟨true, 66, [.c 2 true 2, .t 3], (.ag [(.ag [(.sl 1 []), (.sl 1 [(.sl 1 [])])]), .k]), x403⟩
/-! 404 dross/hitset.Greedy (pf true): 1 parameters, 0 captured; names [0=in, 1=in, 4=err, 5=remain, 6=at, 7=i, 8=e, 9=_, 10=v, 11=order, 12=v, 13=out, 14=_, 15=v, 16=_, 17=i] -/
/-- alive: 1 in; 5 remain; 6 at; 7 i; 32 ; 33 ; 34 ; 44 ; 45 ; 46  -/
def x404a1 : List (Nat × Nk) := [(1, .k), (5, .k), (6, .own 1 []), (7, .k), (32, .co (.sl 1 [(.sl 1 [])])), (33, .k), (34, .k), (44, .co (.sl 1 [])), (45, .k), (46, .k)]
theorem x404a1n (s : XSt) : norm x404a1 s = norm [(1, .k), (5, .k), (6, .own 1 []), (7, .k), (32, .co (.sl 1 [(.sl 1 [])])), (33, .k), (34, .k), (44, .co (.sl 1 [])), (45, .k), (46, .k)] s := rfl
def x404b1 : XCode :=
 (.seq
 (.reg [⟨some 47, .bin .lss (.t 46) (.t 45), none, false, false, []⟩])
 (.seq
 (.cond (.t 47)
 .skip
 (.norm [(1, .k), (5, .k), (6, .own 1 []), (32, .co (.sl 1 [(.sl 1 [])])), (33, .k), (34, .k)] (.exit 2))
 )
 (.seq
 (.blk 3
 (.seq
 (.reg [⟨some 48, .iad 1 (.t 44) (.t 46), none, false, false, []⟩,
 ⟨some 49, .load false 1 (.t 48), none, false, false, []⟩,
 ⟨some 10, .mv (.t 49), none, false, false, []⟩])
 (.reg [⟨some 50, .mv (.t 6), none, false, false, []⟩,
 ⟨some 51, .mv (.t 10), none, false, false, []⟩,
 ⟨some 52, .mv (.t 6), none, false, false, []⟩,
 ⟨some 53, .mv (.t 10), none, false, false, []⟩,
 ⟨some 54, .iad 1 (.t 52) (.t 53), none, false, false, []⟩,
 ⟨some 55, .load false 1 (.t 54), none, false, false, []⟩,
 ⟨some 56, .mv (.t 7), none, false, false, []⟩,
 ⟨some 57, .bsl 1 [(.int .i64 0)] 1 [(0, (.t 56))], none, false, false, []⟩,
 ⟨some 58, .app 1 (.t 55) (.t 57), none, false, false, []⟩,
 ⟨some 59, .iad 1 (.t 50) (.t 51), none, false, false, []⟩,
 ⟨none, .store 1 (.t 59) (.t 58), none, false, false, []⟩])
 )
 )
 (.reg [⟨some 60, .bin .add (.t 46) (.c (.v (.int .i64 1))), none, false, false, []⟩,
 ⟨some 46, .mv (.t 60), none, false, false, []⟩])
 )
 )
 )

/-- alive: 1 in; 5 remain; 6 at; 32 ; 33 ; 34  -/
def x404a2 : List (Nat × Nk) := [(1, .k), (5, .k), (6, .own 1 []), (32, .co (.sl 1 [(.sl 1 [])])), (33, .k), (34, .k)]
theorem x404a2n (s : XSt) : norm x404a2 s = norm [(1, .k), (5, .k), (6, .own 1 []), (32, .co (.sl 1 [(.sl 1 [])])), (33, .k), (34, .k)] s := rfl
def x404b2 : XCode :=
 (.seq
 (.reg [⟨some 35, .bin .lss (.t 34) (.t 33), none, false, false, []⟩])
 (.seq
 (.cond (.t 35)
 .skip
 (.norm [(1, .k), (5, .k), (6, .own 1 [])] (.exit 0))
 )
 (.seq
 (.blk 1
 (.seq
 (.reg [⟨some 36, .mv (.t 34), none, false, false, []⟩,
 ⟨some 37, .iad 1 (.t 32) (.t 34), none, false, false, []⟩,
 ⟨some 38, .load false 1 (.t 37), none, false, false, []⟩,
 ⟨some 7, .mv (.t 36), none, false, false, []⟩,
 ⟨some 8, .mv (.t 38), none, false, false, []⟩])
 (.seq
 (.reg [⟨some 39, .load false 1 (.t 5), none, false, false, []⟩,
 ⟨some 40, .mv (.t 7), none, false, false, []⟩,
 ⟨some 41, .mv (.t 8), none, false, false, []⟩,
 ⟨some 42, .len (.t 41), none, false, false, []⟩,
 ⟨some 43, .iad 1 (.t 39) (.t 40), none, false, false, []⟩,
 ⟨none, .store 1 (.t 43) (.t 42), none, false, false, []⟩])
 (.seq
 (.reg [⟨some 44, .mv (.t 8), none, false, false, []⟩,
 ⟨some 45, .len (.t 44), none, false, false, []⟩,
 ⟨some 46, .mv (.c (.v (.int .i64 0))), none, false, false, []⟩])
 (.blk 2
 (.loop x404a1 x404b1)
 )
 )
 )
 )
 )
 (.reg [⟨some 61, .bin .add (.t 34) (.c (.v (.int .i64 1))), none, false, false, []⟩,
 ⟨some 34, .mv (.t 61), none, false, false, []⟩])
 )
 )
 )

/-- alive: 1 in; 5 remain; 6 at; 11 order; 67 ; 68  -/
def x404a3 : List (Nat × Nk) := [(1, .k), (5, .k), (6, .own 1 []), (11, .own 1 []), (67, .k), (68, .k)]
theorem x404a3n (s : XSt) : norm x404a3 s = norm [(1, .k), (5, .k), (6, .own 1 []), (11, .own 1 []), (67, .k), (68, .k)] s := rfl
def x404b3 : XCode :=
 (.seq
 (.reg [⟨some 69, .bin .lss (.t 68) (.t 67), none, false, false, []⟩])
 (.seq
 (.cond (.t 69)
 .skip
 (.norm [(1, .k), (5, .k), (6, .own 1 []), (11, .own 1 [])] (.exit 4))
 )
 (.seq
 (.blk 5
 (.seq
 (.reg [⟨some 70, .mv (.t 68), none, false, false, []⟩,
 ⟨some 12, .mv (.t 70), none, false, false, []⟩])
 (.reg [⟨some 71, .mv (.t 11), none, false, false, []⟩,
 ⟨some 72, .mv (.t 12), none, false, false, []⟩,
 ⟨some 73, .mv (.t 12), none, false, false, []⟩,
 ⟨some 74, .iad 1 (.t 71) (.t 72), none, false, false, []⟩,
 ⟨none, .store 1 (.t 74) (.t 73), none, false, false, []⟩])
 )
 )
 (.reg [⟨some 75, .bin .add (.t 68) (.c (.v (.int .i64 1))), none, false, false, []⟩,
 ⟨some 68, .mv (.t 75), none, false, false, []⟩])
 )
 )
 )

/-- alive: 5 remain; 6 at; 13 out; 79 ; 80 ; 81 ; 98 ; 99 ; 100  -/
def x404a4 : List (Nat × Nk) := [(5, .k), (6, .own 1 []), (13, .own 1 []), (79, .own 1 []), (80, .k), (81, .k), (98, .co (.sl 1 [])), (99, .k), (100, .k)]
theorem x404a4n (s : XSt) : norm x404a4 s = norm [(5, .k), (6, .own 1 []), (13, .own 1 []), (79, .own 1 []), (80, .k), (81, .k), (98, .co (.sl 1 [])), (99, .k), (100, .k)] s := rfl
def x404b4 : XCode :=
 (.seq
 (.reg [⟨some 101, .bin .lss (.t 100) (.t 99), none, false, false, []⟩])
 (.seq
 (.cond (.t 101)
 .skip
 (.norm [(5, .k), (6, .own 1 []), (13, .own 1 []), (79, .own 1 []), (80, .k), (81, .k)] (.exit 8))
 )
 (.seq
 (.blk 9
 (.seq
 (.reg [⟨some 102, .iad 1 (.t 98) (.t 100), none, false, false, []⟩,
 ⟨some 103, .load false 1 (.t 102), none, false, false, []⟩,
 ⟨some 17, .mv (.t 103), none, false, false, []⟩])
 (.reg [⟨some 104, .load false 1 (.t 5), none, false, false, []⟩,
 ⟨some 105, .mv (.t 17), none, false, false, []⟩,
 ⟨some 106, .iad 1 (.t 104) (.t 105), none, false, false, []⟩,
 ⟨some 107, .load false 1 (.t 106), none, false, false, []⟩,
 ⟨some 108, .bin .sub (.t 107) (.c (.v (.int .i64 1))), none, false, false, []⟩,
 ⟨some 109, .iad 1 (.t 104) (.t 105), none, false, false, []⟩,
 ⟨none, .store 1 (.t 109) (.t 108), none, false, false, []⟩])
 )
 )
 (.reg [⟨some 110, .bin .add (.t 100) (.c (.v (.int .i64 1))), none, false, false, []⟩,
 ⟨some 100, .mv (.t 110), none, false, false, []⟩])
 )
 )
 )

/-- alive: 5 remain; 6 at; 13 out; 79 ; 80 ; 81  -/
def x404a5 : List (Nat × Nk) := [(5, .k), (6, .own 1 []), (13, .own 1 []), (79, .own 1 []), (80, .k), (81, .k)]
theorem x404a5n (s : XSt) : norm x404a5 s = norm [(5, .k), (6, .own 1 []), (13, .own 1 []), (79, .own 1 []), (80, .k), (81, .k)] s := rfl
def x404b5 : XCode :=
 (.seq
 (.reg [⟨some 82, .bin .lss (.t 81) (.t 80), none, false, false, []⟩])
 (.seq
 (.cond (.t 82)
 .skip
 (.norm [(13, .own 1 [])] (.exit 6))
 )
 (.seq
 (.blk 7
 (.seq
 (.reg [⟨some 83, .iad 1 (.t 79) (.t 81), none, false, false, []⟩,
 ⟨some 84, .load false 1 (.t 83), none, false, false, []⟩,
 ⟨some 15, .mv (.t 84), none, false, false, []⟩])
 (.seq
 (.seq
 (.reg [⟨some 85, .mv (.t 6), none, false, false, []⟩,
 ⟨some 86, .mv (.t 15), none, false, false, []⟩,
 ⟨some 87, .iad 1 (.t 85) (.t 86), none, false, false, []⟩,
 ⟨some 88, .load false 1 (.t 87), none, false, false, []⟩,
 ⟨some 89, .mkf 427 [(.t 5)], none, false, false, []⟩,
 ⟨some 90, .call 426 [(.t 88), (.t 89)], none, false, false, [(.sl 1 []), .k]⟩])
 (.cond (.t 90)
 (.seq
 (.reg [⟨some 91, .mv (.t 13), none, false, false, []⟩,
 ⟨some 92, .mv (.t 15), none, false, false, []⟩,
 ⟨some 93, .bsl 1 [(.int .i64 0)] 1 [(0, (.t 92))], none, false, false, []⟩,
 ⟨some 94, .app 1 (.t 91) (.t 93), none, false, false, []⟩,
 ⟨some 13, .mv (.t 94), none, false, false, []⟩])
 (.norm [(5, .k), (6, .own 1 []), (13, .own 1 []), (79, .own 1 []), (80, .k), (81, .k)] (.exit 7))
 )
 .skip
 )
 )
 (.seq
 (.reg [⟨some 95, .mv (.t 6), none, false, false, []⟩,
 ⟨some 96, .mv (.t 15), none, false, false, []⟩,
 ⟨some 97, .iad 1 (.t 95) (.t 96), none, false, false, []⟩,
 ⟨some 98, .load false 1 (.t 97), none, false, false, []⟩,
 ⟨some 99, .len (.t 98), none, false, false, []⟩,
 ⟨some 100, .mv (.c (.v (.int .i64 0))), none, false, false, []⟩])
 (.blk 8
 (.loop x404a4 x404b4)
 )
 )
 )
 )
 )
 (.reg [⟨some 111, .bin .add (.t 81) (.c (.v (.int .i64 1))), none, false, false, []⟩,
 ⟨some 81, .mv (.t 111), none, false, false, []⟩])
 )
 )
 )

def x404 : XCode :=
 (.seq
 (.reg [⟨some 1, .box (.t 0), none, false, false, []⟩,
 ⟨some 2, .mv (.c .emp), none, false, false, []⟩,
 ⟨some 3, .mv (.c (.v (.int .i64 0))), none, false, false, []⟩])
 (.seq
 (.seq
 (.reg [⟨some 18, .load true 2 (.t 1), none, false, false, []⟩,
 ⟨some 19, .call 401 [(.t 18)], none, false, false, [(.ag [(.sl 1 []), (.sl 1 [(.sl 1 [])])])]⟩,
 ⟨some 4, .mv (.t 19), none, false, false, []⟩])
 (.seq
 (.reg [⟨some 20, .mv (.t 4), none, false, false, []⟩,
 ⟨some 21, .bin .neq (.t 20) (.c (.v (.int .i64 0))), none, false, false, []⟩])
 (.cond (.t 21)
 (.seq
 (.reg [⟨some 22, .mv (.t 4), none, false, false, []⟩,
 ⟨some 2, .mv (.c .emp), none, false, false, []⟩,
 ⟨some 3, .mv (.t 22), none, false, false, []⟩])
 (.norm [(2, .fz (.sl 1 [])), (3, .fz .k)] .ret)
 )
 .skip
 )
 )
 )
 (.seq
 (.reg [⟨some 23, .fad 1 (.t 1), none, false, false, []⟩,
 ⟨some 24, .load false 1 (.t 23), none, false, false, []⟩,
 ⟨some 25, .len (.t 24), none, false, false, []⟩,
 ⟨some 26, .mksl 1 [(.int .i64 0)] (.t 25) (.t 25), none, false, false, []⟩,
 ⟨some 5, .alloc [(.slice none 0 0)], none, false, false, []⟩,
 ⟨none, .store 1 (.t 5) (.t 26), none, false, false, []⟩])
 (.seq
 (.reg [⟨some 27, .fad 0 (.t 1), none, false, false, []⟩,
 ⟨some 28, .load false 1 (.t 27), none, false, false, []⟩,
 ⟨some 29, .len (.t 28), none, false, false, []⟩,
 ⟨some 30, .mksl 1 [(.slice none 0 0)] (.t 29) (.t 29), none, false, false, []⟩,
 ⟨some 6, .mv (.t 30), none, false, false, []⟩])
 (.seq
 (.seq
 (.reg [⟨some 31, .fad 1 (.t 1), none, false, false, []⟩,
 ⟨some 32, .load false 1 (.t 31), none, false, false, []⟩,
 ⟨some 33, .len (.t 32), none, false, false, []⟩,
 ⟨some 34, .mv (.c (.v (.int .i64 0))), none, false, false, []⟩])
 (.blk 0
 (.loop x404a2 x404b2)
 )
 )
 (.seq
 (.reg [⟨some 62, .fad 0 (.t 1), none, false, false, []⟩,
 ⟨some 63, .load false 1 (.t 62), none, false, false, []⟩,
 ⟨some 64, .len (.t 63), none, false, false, []⟩,
 ⟨some 65, .mksl 1 [(.int .i64 0)] (.t 64) (.t 64), none, false, false, []⟩,
 ⟨some 11, .mv (.t 65), none, false, false, []⟩])
 (.seq
 (.seq
 (.reg [⟨some 66, .mv (.t 11), none, false, false, []⟩,
 ⟨some 67, .len (.t 66), none, false, false, []⟩,
 ⟨some 68, .mv (.c (.v (.int .i64 0))), none, false, false, []⟩])
 (.blk 4
 (.loop x404a3 x404b3)
 )
 )
 (.seq
 (.reg [⟨some 76, .mv (.t 11), none, false, false, []⟩,
 ⟨some 77, .mkf 425 [(.t 1)], none, false, false, []⟩,
 ⟨some 78, .call 424 [(.t 76), (.t 77)], none, false, false, [(.sl 1 []), .k]⟩])
 (.seq
 (.reg [⟨some 13, .mv (.c .emp), none, false, false, []⟩])
 (.seq
 (.seq
 (.reg [⟨some 79, .mv (.t 11), none, false, false, []⟩,
 ⟨some 80, .len (.t 79), none, false, false, []⟩,
 ⟨some 81, .mv (.c (.v (.int .i64 0))), none, false, false, []⟩])
 (.blk 6
 (.loop x404a5 x404b5)
 )
 )
 (.seq
 (.reg [⟨some 112, .mv (.t 13), none, false, false, []⟩,
 ⟨some 113, .call 147 [(.t 112)], none, false, false, [(.sl 1 [])]⟩])
 (.seq
 (.reg [⟨some 114, .mv (.t 13), none, false, false, []⟩,
 ⟨some 2, .mv (.t 114), none, false, false, []⟩,
 ⟨some 3, .mv (.c (.v (.int .i64 0))), none, false, false, []⟩])
 (.norm [(2, .fz (.sl 1 [])), (3, .fz .k)] .ret)
 )
 )
 )
 )
 )
 )
 )
 )
 )
 )
 )
 )
def f404 : XFn := ⟨true, 115, [.t 2, .t 3], (.ag [(.sl 1 []), .k]), x404⟩
/-! 405 dross/drossref39.Weight (pf true): 2 parameters, 0 captured; names [0=in, 1=l, 2=in, 3=l, 6=e, 7=sum, 8=i] -/
/-- alive: 1 l; 2 in; 7 sum; 8 i -/
def x405a1 : List (Nat × Nk) := [(1, .co (.sl 1 [])), (2, .k), (7, .k), (8, .k)]
theorem x405a1n (s : XSt) : norm x405a1 s = norm [(1, .co (.sl 1 [])), (2, .k), (7, .k), (8, .k)] s := rfl
def x405b1 : XCode :=
 (.seq
 (.seq
 (.reg [⟨some 14, .mv (.t 8), none, false, false, []⟩,
 ⟨some 15, .mv (.t 1), none, false, false, []⟩,
 ⟨some 16, .len (.t 15), none, false, false, []⟩,
 ⟨some 17, .bin .lss (.t 14) (.t 16), none, false, false, []⟩])
 (.cond (.t 17)
 .skip
 (.norm [(7, .k)] (.exit 0))
 )
 )
 (.seq
 (.blk 1
 (.seq
 (.seq
 (.reg [⟨some 20, .mv (.t 1), none, false, false, []⟩,
 ⟨some 21, .mv (.t 8), none, false, false, []⟩,
 ⟨some 22, .iad 1 (.t 20) (.t 21), none, false, false, []⟩,
 ⟨some 23, .load false 1 (.t 22), none, false, false, []⟩,
 ⟨some 24, .bin .lss (.t 23) (.c (.v (.int .i64 0))), none, false, false, []⟩,
 ⟨some 25, .mv (.t 24), none, false, false, []⟩,
 ⟨some 26, .mv (.t 1), some (25, false), false, false, []⟩,
 ⟨some 27, .mv (.t 8), some (25, false), false, false, []⟩,
 ⟨some 28, .iad 1 (.t 26) (.t 27), some (25, false), false, false, []⟩,
 ⟨some 29, .load false 1 (.t 28), some (25, false), false, false, []⟩,
 ⟨some 30, .fad 0 (.t 2), some (25, false), false, false, []⟩,
 ⟨some 31, .load false 1 (.t 30), some (25, false), false, false, []⟩,
 ⟨some 32, .len (.t 31), some (25, false), false, false, []⟩,
 ⟨some 33, .bin .geq (.t 29) (.t 32), some (25, false), false, false, []⟩,
 ⟨some 34, .pick (.t 25) (.c (.v (.bool true))) (.t 33), none, false, false, []⟩,
 ⟨some 35, .mv (.t 34), none, false, false, []⟩,
 ⟨some 36, .mv (.t 1), some (35, false), false, false, []⟩,
 ⟨some 37, .mv (.t 8), some (35, false), false, false, []⟩,
 ⟨some 38, .slcR 1 (.t 36) none (some (.t 37)), some (35, false), false, false, []⟩,
 ⟨some 39, .mv (.t 1), some (35, false), false, false, []⟩,
 ⟨some 40, .mv (.t 8), some (35, false), false, false, []⟩,
 ⟨some 41, .iad 1 (.t 39) (.t 40), some (35, false), false, false, []⟩,
 ⟨some 42, .load false 1 (.t 41), some (35, false), false, false, []⟩,
 ⟨some 43, .call 428 [(.t 38), (.t 42)], some (35, false), false, false, [(.sl 1 []), .k]⟩,
 ⟨some 44, .pick (.t 35) (.c (.v (.bool true))) (.t 43), none, false, false, []⟩])
 (.cond (.t 44)
 (.seq
 (.reg [⟨some 4, .mv (.c (.v (.int .i64 0))), none, false, false, []⟩,
 ⟨some 5, .mv (.c (.v (.int .i64 1))), none, false, false, []⟩])
 (.norm [(4, .fz .k), (5, .fz .k)] .ret)
 )
 .skip
 )
 )
 (.reg [⟨some 45, .mv (.t 7), none, false, false, []⟩,
 ⟨some 46, .fad 0 (.t 2), none, false, false, []⟩,
 ⟨some 47, .load false 1 (.t 46), none, false, false, []⟩,
 ⟨some 48, .mv (.t 1), none, false, false, []⟩,
 ⟨some 49, .mv (.t 8), none, false, false, []⟩,
 ⟨some 50, .iad 1 (.t 48) (.t 49), none, false, false, []⟩,
 ⟨some 51, .load false 1 (.t 50), none, false, false, []⟩,
 ⟨some 52, .iad 1 (.t 47) (.t 51), none, false, false, []⟩,
 ⟨some 53, .load false 1 (.t 52), none, false, false, []⟩,
 ⟨some 54, .bin .add (.t 45) (.t 53), none, false, false, []⟩,
 ⟨some 7, .mv (.t 54), none, false, false, []⟩])
 )
 )
 (.reg [⟨some 18, .mv (.t 8), none, false, false, []⟩,
 ⟨some 19, .bin .add (.t 18) (.c (.v (.int .i64 1))), none, false, false, []⟩,
 ⟨some 8, .mv (.t 19), none, false, false, []⟩])
 )
 )

def x405 : XCode :=
 (.seq
 (.reg [⟨some 2, .box (.t 0), none, false, false, []⟩,
 ⟨some 4, .mv (.c (.v (.int .i64 0))), none, false, false, []⟩,
 ⟨some 5, .mv (.c (.v (.int .i64 0))), none, false, false, []⟩])
 (.seq
 (.seq
 (.reg [⟨some 9, .load true 2 (.t 2), none, false, false, []⟩,
 ⟨some 10, .call 402 [(.t 9)], none, false, false, [(.ag [(.sl 1 []), (.sl 1 [(.sl 1 [])])])]⟩,
 ⟨some 6, .mv (.t 10), none, false, false, []⟩])
 (.seq
 (.reg [⟨some 11, .mv (.t 6), none, false, false, []⟩,
 ⟨some 12, .bin .neq (.t 11) (.c (.v (.int .i64 0))), none, false, false, []⟩])
 (.cond (.t 12)
 (.seq
 (.reg [⟨some 13, .mv (.t 6), none, false, false, []⟩,
 ⟨some 4, .mv (.c (.v (.int .i64 0))), none, false, false, []⟩,
 ⟨some 5, .mv (.t 13), none, false, false, []⟩])
 (.norm [(4, .fz .k), (5, .fz .k)] .ret)
 )
 .skip
 )
 )
 )
 (.seq
 (.reg [⟨some 7, .mv (.c (.v (.int .i64 0))), none, false, false, []⟩])
 (.seq
 (.seq
 (.reg [⟨some 8, .mv (.c (.v (.int .i64 0))), none, false, false, []⟩])
 (.blk 0
 (.loop x405a1 x405b1)
 )
 )
 (.seq
 (.reg [⟨some 55, .mv (.t 7), none, false, false, []⟩,
 ⟨some 4, .mv (.t 55), none, false, false, []⟩,
 ⟨some 5, .mv (.c (.v (.int .i64 0))), none, false, false, []⟩])
 (.norm [(4, .fz .k), (5, .fz .k)] .ret)
 )
 )
 )
 )
 )
def f405 : XFn := ⟨true, 56, [.t 4, .t 5], .k, x405⟩
/-! 408 dross/drossref39.Least (pf true): 1 parameters, 0 captured; names [0=in, 1=in, 3=least, 4=bits, 5=l, 6=w, 7=_] -/
/-- alive: 1 in; 3 least; 4 bits -/
def x408a1 : List (Nat × Nk) := [(1, .k), (3, .k), (4, .k)]
theorem x408a1n (s : XSt) : norm x408a1 s = norm [(1, .k), (3, .k), (4, .k)] s := rfl
def x408b1 : XCode :=
 (.seq
 (.seq
 (.reg [⟨some 8, .mv (.t 4), none, false, false, []⟩,
 ⟨some 9, .fad 0 (.t 1), none, false, false, []⟩,
 ⟨some 10, .load false 1 (.t 9), none, false, false, []⟩,
 ⟨some 11, .len (.t 10), none, false, false, []⟩,
 ⟨some 12, .bin .shl (.c (.v (.int .i64 1))) (.t 11), none, false, false, []⟩,
 ⟨some 13, .bin .lss (.t 8) (.t 12), none, false, false, []⟩])
 (.cond (.t 13)
 .skip
 (.norm [(3, .k)] (.exit 0))
 )
 )
 (.seq
 (.blk 1
 (.seq
 (.reg [⟨some 16, .mv (.t 4), none, false, false, []⟩,
 ⟨some 17, .fad 0 (.t 1), none, false, false, []⟩,
 ⟨some 18, .load false 1 (.t 17), none, false, false, []⟩,
 ⟨some 19, .len (.t 18), none, false, false, []⟩,
 ⟨some 20, .call 423 [(.t 16), (.t 19)], none, false, false, []⟩,
 ⟨some 5, .mv (.t 20), none, false, false, []⟩])
 (.seq
 (.reg [⟨some 22, .load true 2 (.t 1), none, false, false, []⟩,
 ⟨some 23, .mv (.t 5), none, false, false, []⟩,
 ⟨some 24, .call 405 [(.t 22), (.t 23)], none, false, false, [(.ag [(.sl 1 []), (.sl 1 [(.sl 1 [])])]), (.sl 1 [])]⟩,
 ⟨some 21, .mv (.t 24), none, false, false, []⟩,
 ⟨some 25, .ext (.t 21) 0, none, false, false, []⟩,
 ⟨some 26, .ext (.t 21) 1, none, false, false, []⟩,
 ⟨some 6, .mv (.t 25), none, false, false, []⟩,
 ⟨some 7, .mv (.t 26), none, false, false, []⟩])
 (.seq
 (.reg [⟨some 27, .load true 2 (.t 1), none, false, false, []⟩,
 ⟨some 28, .mv (.t 5), none, false, false, []⟩,
 ⟨some 29, .call 410 [(.t 27), (.t 28)], none, false, false, [(.ag [(.sl 1 []), (.sl 1 [(.sl 1 [])])]), (.sl 1 [])]⟩,
 ⟨some 30, .mv (.t 29), none, false, false, []⟩,
 ⟨some 31, .mv (.t 3), some (30, true), false, false, []⟩,
 ⟨some 32, .bin .lss (.t 31) (.c (.v (.int .i64 0))), some (30, true), false, false, []⟩,
 ⟨some 33, .mv (.t 32), some (30, true), false, false, []⟩,
 ⟨some 34, .mv (.t 6), some (33, false), false, false, []⟩,
 ⟨some 35, .mv (.t 3), some (33, false), false, false, []⟩,
 ⟨some 36, .bin .lss (.t 34) (.t 35), some (33, false), false, false, []⟩,
 ⟨some 37, .pick (.t 33) (.c (.v (.bool true))) (.t 36), some (30, true), false, false, []⟩,
 ⟨some 38, .pick (.t 30) (.t 37) (.c (.v (.bool false))), none, false, false, []⟩])
 (.cond (.t 38)
 (.reg [⟨some 39, .mv (.t 6), none, false, false, []⟩,
 ⟨some 3, .mv (.t 39), none, false, false, []⟩])
 .skip
 )
 )
 )
 )
 )
 (.reg [⟨some 14, .mv (.t 4), none, false, false, []⟩,
 ⟨some 15, .bin .add (.t 14) (.c (.v (.int .i64 1))), none, false, false, []⟩,
 ⟨some 4, .mv (.t 15), none, false, false, []⟩])
 )
 )

def x408 : XCode :=
 (.seq
 (.reg [⟨some 1, .box (.t 0), none, false, false, []⟩,
 ⟨some 2, .mv (.c (.v (.int .i64 0))), none, false, false, []⟩])
 (.seq
 (.reg [⟨some 3, .mv (.c (.v (.int .i64 (-1)))), none, false, false, []⟩])
 (.seq
 (.seq
 (.reg [⟨some 4, .mv (.c (.v (.int .i64 0))), none, false, false, []⟩])
 (.blk 0
 (.loop x408a1 x408b1)
 )
 )
 (.seq
 (.reg [⟨some 40, .mv (.t 3), none, false, false, []⟩,
 ⟨some 2, .mv (.t 40), none, false, false, []⟩])
 (.norm [(2, .fz .k)] .ret)
 )
 )
 )
 )
def f408 : XFn := ⟨true, 41, [.t 2], .k, x408⟩
/-! 409 dross/hitset.Minimum (pf true): 2 parameters, 0 captured; names [0=in, 1=budget, 2=in, 3=budget, 7=l, 8=err, 9=w, 10=_, 11=b] -/
def x409 : XCode :=
 (.seq
 (.reg [⟨some 2, .box (.t 0), none, false, false, []⟩,
 ⟨some 4, .mv (.c .emp), none, false, false, []⟩,
 ⟨some 5, .mv (.c (.v (.int .i64 0))), none, false, false, []⟩,
 ⟨some 6, .mv (.c (.v (.int .i64 0))), none, false, false, []⟩])
 (.seq
 (.reg [⟨some 13, .load true 2 (.t 2), none, false, false, []⟩,
 ⟨some 14, .call 404 [(.t 13)], none, false, false, [(.ag [(.sl 1 []), (.sl 1 [(.sl 1 [])])])]⟩,
 ⟨some 12, .mv (.t 14), none, false, false, []⟩,
 ⟨some 15, .ext (.t 12) 0, none, false, false, []⟩,
 ⟨some 16, .ext (.t 12) 1, none, false, false, []⟩,
 ⟨some 7, .mv (.t 15), none, false, false, []⟩,
 ⟨some 8, .mv (.t 16), none, false, false, []⟩])
 (.seq
 (.seq
 (.reg [⟨some 17, .mv (.t 8), none, false, false, []⟩,
 ⟨some 18, .bin .neq (.t 17) (.c (.v (.int .i64 0))), none, false, false, []⟩])
 (.cond (.t 18)
 (.seq
 (.reg [⟨some 19, .mv (.t 8), none, false, false, []⟩,
 ⟨some 4, .mv (.c .emp), none, false, false, []⟩,
 ⟨some 5, .mv (.c (.v (.int .i64 0))), none, false, false, []⟩,
 ⟨some 6, .mv (.t 19), none, false, false, []⟩])
 (.norm [(4, .fz (.sl 1 [])), (5, .fz .k), (6, .fz .k)] .ret)
 )
 .skip
 )
 )
 (.seq
 (.seq
 (.reg [⟨some 20, .mv (.t 1), none, false, false, []⟩,
 ⟨some 21, .bin .lss (.t 20) (.c (.v (.int .i64 1))), none, false, false, []⟩])
 (.cond (.t 21)
 (.seq
 (.reg [⟨some 4, .mv (.c .emp), none, false, false, []⟩,
 ⟨some 5, .mv (.c (.v (.int .i64 0))), none, false, false, []⟩,
 ⟨some 6, .mv (.c (.v (.int .i64 1))), none, false, false, []⟩])
 (.norm [(4, .fz (.sl 1 [])), (5, .fz .k), (6, .fz .k)] .ret)
 )
 .skip
 )
 )
 (.seq
 (.reg [⟨some 23, .load true 2 (.t 2), none, false, false, []⟩,
 ⟨some 24, .mv (.t 7), none, false, false, []⟩,
 ⟨some 25, .call 413 [(.t 23), (.t 24)], none, false, false, [(.ag [(.sl 1 []), (.sl 1 [(.sl 1 [])])]), (.sl 1 [])]⟩,
 ⟨some 22, .mv (.t 25), none, false, false, []⟩,
 ⟨some 26, .ext (.t 22) 0, none, false, false, []⟩,
 ⟨some 27, .ext (.t 22) 1, none, false, false, []⟩,
 ⟨some 9, .mv (.t 26), none, false, false, []⟩,
 ⟨some 10, .mv (.t 27), none, false, false, []⟩])
 (.seq
 (.reg [⟨some 28, .mv (.t 7), none, false, false, []⟩,
 ⟨some 29, .mv (.t 9), none, false, false, []⟩,
 ⟨some 30, .build [(.slice none 0 0), (.int .i64 0)] [(0, 1, (.t 28)), (1, 1, (.t 29))], none, false, false, []⟩,
 ⟨some 31, .box (.t 30), none, false, false, []⟩,
 ⟨some 11, .mv (.t 31), none, false, false, []⟩])
 (.seq
 (.seq
 (.reg [⟨some 32, .load true 2 (.t 2), none, false, false, []⟩,
 ⟨some 33, .mv (.t 1), none, false, false, []⟩,
 ⟨some 34, .call 429 [(.t 32), (.t 33)], none, false, false, [(.ag [(.sl 1 []), (.sl 1 [(.sl 1 [])])]), .k]⟩,
 ⟨some 35, .mv (.t 11), none, false, false, []⟩,
 ⟨some 36, .call 430 [(.t 34), (.t 35), (.c (.v (.int .i64 0)))], none, false, false, []⟩,
 ⟨some 37, .not (.t 36), none, false, false, []⟩])
 (.cond (.t 37)
 (.seq
 (.reg [⟨some 4, .mv (.c .emp), none, false, false, []⟩,
 ⟨some 5, .mv (.c (.v (.int .i64 0))), none, false, false, []⟩,
 ⟨some 6, .mv (.c (.v (.int .i64 13))), none, false, false, []⟩])
 (.norm [(4, .fz (.sl 1 [])), (5, .fz .k), (6, .fz .k)] .ret)
 )
 .skip
 )
 )
 (.seq
 (.reg [⟨some 38, .mv (.t 11), none, false, false, []⟩,
 ⟨some 39, .nilc (.t 38), none, false, false, []⟩,
 ⟨some 40, .fad 0 (.t 39), none, false, false, []⟩,
 ⟨some 41, .load false 1 (.t 40), none, false, false, []⟩,
 ⟨some 42, .mv (.t 11), none, false, false, []⟩,
 ⟨some 43, .nilc (.t 42), none, false, false, []⟩,
 ⟨some 44, .fad 1 (.t 43), none, false, false, []⟩,
 ⟨some 45, .load false 1 (.t 44), none, false, false, []⟩,
 ⟨some 4, .mv (.t 41), none, false, false, []⟩,
 ⟨some 5, .mv (.t 45), none, false, false, []⟩,
 ⟨some 6, .mv (.c (.v (.int .i64 0))), none, false, false, []⟩])
 (.norm [(4, .fz (.sl 1 [])), (5, .fz .k), (6, .fz .k)] .ret)
 )
 )
 )
 )
 )
 )
 )
 )
def f409 : XFn := ⟨true, 46, [.t 4, .t 5, .t 6], (.ag [(.sl 1 []), .k, .k]), x409⟩
/-! 410 dross/drossref39.Hits (pf true): 2 parameters, 0 captured; names [0=in, 1=l, 2=in, 3=l, 5=i] -/
/-- alive: 1 l; 2 in; 5 i -/
def x410a1 : List (Nat × Nk) := [(1, .co (.sl 1 [])), (2, .k), (5, .k)]
theorem x410a1n (s : XSt) : norm x410a1 s = norm [(1, .co (.sl 1 [])), (2, .k), (5, .k)] s := rfl
def x410b1 : XCode :=
 (.seq
 (.seq
 (.reg [⟨some 6, .mv (.t 5), none, false, false, []⟩,
 ⟨some 7, .fad 1 (.t 2), none, false, false, []⟩,
 ⟨some 8, .load false 1 (.t 7), none, false, false, []⟩,
 ⟨some 9, .len (.t 8), none, false, false, []⟩,
 ⟨some 10, .bin .lss (.t 6) (.t 9), none, false, false, []⟩])
 (.cond (.t 10)
 .skip
 (.norm [] (.exit 0))
 )
 )
 (.seq
 (.blk 1
 (.seq
 (.reg [⟨some 13, .fad 1 (.t 2), none, false, false, []⟩,
 ⟨some 14, .load false 1 (.t 13), none, false, false, []⟩,
 ⟨some 15, .mv (.t 5), none, false, false, []⟩,
 ⟨some 16, .iad 1 (.t 14) (.t 15), none, false, false, []⟩,
 ⟨some 17, .load false 1 (.t 16), none, false, false, []⟩,
 ⟨some 18, .mv (.t 1), none, false, false, []⟩,
 ⟨some 19, .call 431 [(.t 17), (.t 18)], none, false, false, [(.sl 1 []), (.sl 1 [])]⟩,
 ⟨some 20, .not (.t 19), none, false, false, []⟩])
 (.cond (.t 20)
 (.seq
 (.reg [⟨some 4, .mv (.c (.v (.bool false))), none, false, false, []⟩])
 (.norm [(4, .fz .k)] .ret)
 )
 .skip
 )
 )
 )
 (.reg [⟨some 11, .mv (.t 5), none, false, false, []⟩,
 ⟨some 12, .bin .add (.t 11) (.c (.v (.int .i64 1))), none, false, false, []⟩,
 ⟨some 5, .mv (.t 12), none, false, false, []⟩])
 )
 )

def x410 : XCode :=
 (.seq
 (.reg [⟨some 2, .box (.t 0), none, false, false, []⟩,
 ⟨some 4, .mv (.c (.v (.bool false))), none, false, false, []⟩])
 (.seq
 (.seq
 (.reg [⟨some 5, .mv (.c (.v (.int .i64 0))), none, false, false, []⟩])
 (.blk 0
 (.loop x410a1 x410b1)
 )
 )
 (.seq
 (.reg [⟨some 4, .mv (.c (.v (.bool true))), none, false, false, []⟩])
 (.norm [(4, .fz .k)] .ret)
 )
 )
 )
def f410 : XFn := ⟨true, 21, [.t 4], .k, x410⟩
/-! 411 dross/hitset.Check (pf true): 3 parameters, 0 captured; names [0=in, 1=bound, 2=proof, 3=in, 4=bound, 5=proof, 7=rest, 8=ok] -/
def x411 : XCode :=
 (.seq
 (.reg [⟨some 3, .box (.t 0), none, false, false, []⟩,
 ⟨some 6, .mv (.c (.v (.bool false))), none, false, false, []⟩])
 (.seq
 (.seq
 (.reg [⟨some 9, .load true 2 (.t 3), none, false, false, []⟩,
 ⟨some 10, .call 401 [(.t 9)], none, false, false, [(.ag [(.sl 1 []), (.sl 1 [(.sl 1 [])])])]⟩,
 ⟨some 11, .bin .neq (.t 10) (.c (.v (.int .i64 0))), none, false, false, []⟩,
 ⟨some 12, .mv (.t 11), none, false, false, []⟩,
 ⟨some 13, .mv (.t 1), some (12, false), false, false, []⟩,
 ⟨some 14, .bin .lss (.t 13) (.c (.v (.int .i64 (-1000000000000000)))), some (12, false), false, false, []⟩,
 ⟨some 15, .pick (.t 12) (.c (.v (.bool true))) (.t 14), none, false, false, []⟩,
 ⟨some 16, .mv (.t 15), none, false, false, []⟩,
 ⟨some 17, .mv (.t 1), some (16, false), false, false, []⟩,
 ⟨some 18, .bin .gtr (.t 17) (.c (.v (.int .i64 1000000000000000))), some (16, false), false, false, []⟩,
 ⟨some 19, .pick (.t 16) (.c (.v (.bool true))) (.t 18), none, false, false, []⟩])
 (.cond (.t 19)
 (.seq
 (.reg [⟨some 6, .mv (.c (.v (.bool false))), none, false, false, []⟩])
 (.norm [(6, .fz .k)] .ret)
 )
 .skip
 )
 )
 (.seq
 (.reg [⟨some 21, .load true 2 (.t 3), none, false, false, []⟩,
 ⟨some 22, .call 429 [(.t 21), (.c (.v (.int .i64 0)))], none, false, false, [(.ag [(.sl 1 []), (.sl 1 [(.sl 1 [])])]), .k]⟩,
 ⟨some 23, .mv (.t 2), none, false, false, []⟩,
 ⟨some 24, .mv (.t 1), none, false, false, []⟩,
 ⟨some 25, .call 432 [(.t 22), (.t 23), (.t 24)], none, false, false, [.k, (.sl 2 [.k, (.sl 2 [])]), .k]⟩,
 ⟨some 20, .mv (.t 25), none, false, false, []⟩,
 ⟨some 26, .ext (.t 20) 0, none, false, false, []⟩,
 ⟨some 27, .ext (.t 20) 1, none, false, false, []⟩,
 ⟨some 7, .mv (.t 26), none, false, false, []⟩,
 ⟨some 8, .mv (.t 27), none, false, false, []⟩])
 (.seq
 (.reg [⟨some 28, .mv (.t 8), none, false, false, []⟩,
 ⟨some 29, .mv (.t 28), none, false, false, []⟩,
 ⟨some 30, .mv (.t 7), some (29, true), false, false, []⟩,
 ⟨some 31, .len (.t 30), some (29, true), false, false, []⟩,
 ⟨some 32, .bin .eql (.t 31) (.c (.v (.int .i64 0))), some (29, true), false, false, []⟩,
 ⟨some 33, .pick (.t 29) (.t 32) (.c (.v (.bool false))), none, false, false, []⟩,
 ⟨some 6, .mv (.t 33), none, false, false, []⟩])
 (.norm [(6, .fz .k)] .ret)
 )
 )
 )
 )
def f411 : XFn := ⟨true, 34, [.t 6], .k, x411⟩
/-! 412 dross/drossref39.Check (pf true): 3 parameters, 0 captured; names [0=in, 1=bound, 2=proof, 3=in, 4=bound, 5=proof] -/
def x412 : XCode :=
 (.seq
 (.reg [⟨some 3, .box (.t 0), none, false, false, []⟩,
 ⟨some 6, .mv (.c (.v (.bool false))), none, false, false, []⟩])
 (.seq
 (.reg [⟨some 7, .load true 2 (.t 3), none, false, false, []⟩,
 ⟨some 8, .call 402 [(.t 7)], none, false, false, [(.ag [(.sl 1 []), (.sl 1 [(.sl 1 [])])])]⟩,
 ⟨some 9, .bin .eql (.t 8) (.c (.v (.int .i64 0))), none, false, false, []⟩,
 ⟨some 10, .mv (.t 9), none, false, false, []⟩,
 ⟨some 11, .mv (.t 1), some (10, true), false, false, []⟩,
 ⟨some 12, .call 418 [(.t 11)], some (10, true), false, false, []⟩,
 ⟨some 13, .pick (.t 10) (.t 12) (.c (.v (.bool false))), none, false, false, []⟩,
 ⟨some 14, .mv (.t 13), none, false, false, []⟩,
 ⟨some 15, .mv (.t 2), some (14, true), false, false, []⟩,
 ⟨some 16, .len (.t 15), some (14, true), false, false, []⟩,
 ⟨some 17, .bin .gtr (.t 16) (.c (.v (.int .i64 0))), some (14, true), false, false, []⟩,
 ⟨some 18, .pick (.t 14) (.t 17) (.c (.v (.bool false))), none, false, false, []⟩,
 ⟨some 19, .mv (.t 18), none, false, false, []⟩,
 ⟨some 20, .load true 2 (.t 3), some (19, true), false, false, []⟩,
 ⟨some 21, .mv (.t 1), some (19, true), false, false, []⟩,
 ⟨some 22, .build [(.slice none 0 0), (.slice none 0 0), (.int .i64 0)] [(2, 1, (.t 21))], some (19, true), false, false, []⟩,
 ⟨some 23, .mv (.t 2), some (19, true), false, false, []⟩,
 ⟨some 24, .call 433 [(.t 20), (.t 22), (.t 23)], some (19, true), false, false, [(.ag [(.sl 1 []), (.sl 1 [(.sl 1 [])])]), (.ag [(.sl 1 []), (.sl 1 []), .k]), (.sl 2 [.k, (.sl 2 [])])]⟩,
 ⟨some 25, .mv (.t 2), some (19, true), false, false, []⟩,
 ⟨some 26, .len (.t 25), some (19, true), false, false, []⟩,
 ⟨some 27, .bin .eql (.t 24) (.t 26), some (19, true), false, false, []⟩,
 ⟨some 28, .pick (.t 19) (.t 27) (.c (.v (.bool false))), none, false, false, []⟩,
 ⟨some 6, .mv (.t 28), none, false, false, []⟩])
 (.norm [(6, .fz .k)] .ret)
 )
 )
def f412 : XFn := ⟨true, 29, [.t 6], .k, x412⟩
/-! 413 dross/hitset.Weight (pf true): 2 parameters, 0 captured; names [0=in, 1=l, 2=in, 3=l, 6=err, 7=sum, 8=i, 9=v] -/
/-- alive: 1 l; 2 in; 7 sum; 15 ; 16 ; 17  -/
def x413a1 : List (Nat × Nk) := [(1, .co (.sl 1 [])), (2, .k), (7, .k), (15, .co (.sl 1 [])), (16, .k), (17, .k)]
theorem x413a1n (s : XSt) : norm x413a1 s = norm [(1, .co (.sl 1 [])), (2, .k), (7, .k), (15, .co (.sl 1 [])), (16, .k), (17, .k)] s := rfl
def x413b1 : XCode :=
 (.seq
 (.reg [⟨some 18, .bin .lss (.t 17) (.t 16), none, false, false, []⟩])
 (.seq
 (.cond (.t 18)
 .skip
 (.norm [(7, .k)] (.exit 0))
 )
 (.seq
 (.blk 1
 (.seq
 (.reg [⟨some 19, .mv (.t 17), none, false, false, []⟩,
 ⟨some 20, .iad 1 (.t 15) (.t 17), none, false, false, []⟩,
 ⟨some 21, .load false 1 (.t 20), none, false, false, []⟩,
 ⟨some 8, .mv (.t 19), none, false, false, []⟩,
 ⟨some 9, .mv (.t 21), none, false, false, []⟩])
 (.seq
 (.seq
 (.reg [⟨some 22, .mv (.t 9), none, false, false, []⟩,
 ⟨some 23, .bin .lss (.t 22) (.c (.v (.int .i64 0))), none, false, false, []⟩,
 ⟨some 24, .mv (.t 23), none, false, false, []⟩,
 ⟨some 25, .mv (.t 9), some (24, false), false, false, []⟩,
 ⟨some 26, .fad 0 (.t 2), some (24, false), false, false, []⟩,
 ⟨some 27, .load false 1 (.t 26), some (24, false), false, false, []⟩,
 ⟨some 28, .len (.t 27), some (24, false), false, false, []⟩,
 ⟨some 29, .bin .geq (.t 25) (.t 28), some (24, false), false, false, []⟩,
 ⟨some 30, .pick (.t 24) (.c (.v (.bool true))) (.t 29), none, false, false, []⟩,
 ⟨some 31, .mv (.t 30), none, false, false, []⟩,
 ⟨some 32, .mv (.t 1), some (31, false), false, false, []⟩,
 ⟨some 33, .mv (.t 8), some (31, false), false, false, []⟩,
 ⟨some 34, .slcR 1 (.t 32) none (some (.t 33)), some (31, false), false, false, []⟩,
 ⟨some 35, .mv (.t 9), some (31, false), false, false, []⟩,
 ⟨some 36, .call 434 [(.t 34), (.t 35)], some (31, false), false, false, [(.sl 1 []), .k]⟩,
 ⟨some 37, .pick (.t 31) (.c (.v (.bool true))) (.t 36), none, false, false, []⟩])
 (.cond (.t 37)
 (.seq
 (.reg [⟨some 4, .mv (.c (.v (.int .i64 0))), none, false, false, []⟩,
 ⟨some 5, .mv (.c (.v (.int .i64 1))), none, false, false, []⟩])
 (.norm [(4, .fz .k), (5, .fz .k)] .ret)
 )
 .skip
 )
 )
 (.reg [⟨some 38, .mv (.t 7), none, false, false, []⟩,
 ⟨some 39, .fad 0 (.t 2), none, false, false, []⟩,
 ⟨some 40, .load false 1 (.t 39), none, false, false, []⟩,
 ⟨some 41, .mv (.t 9), none, false, false, []⟩,
 ⟨some 42, .iad 1 (.t 40) (.t 41), none, false, false, []⟩,
 ⟨some 43, .load false 1 (.t 42), none, false, false, []⟩,
 ⟨some 44, .bin .add (.t 38) (.t 43), none, false, false, []⟩,
 ⟨some 7, .mv (.t 44), none, false, false, []⟩])
 )
 )
 )
 (.reg [⟨some 45, .bin .add (.t 17) (.c (.v (.int .i64 1))), none, false, false, []⟩,
 ⟨some 17, .mv (.t 45), none, false, false, []⟩])
 )
 )
 )

def x413 : XCode :=
 (.seq
 (.reg [⟨some 2, .box (.t 0), none, false, false, []⟩,
 ⟨some 4, .mv (.c (.v (.int .i64 0))), none, false, false, []⟩,
 ⟨some 5, .mv (.c (.v (.int .i64 0))), none, false, false, []⟩])
 (.seq
 (.seq
 (.reg [⟨some 10, .load true 2 (.t 2), none, false, false, []⟩,
 ⟨some 11, .call 401 [(.t 10)], none, false, false, [(.ag [(.sl 1 []), (.sl 1 [(.sl 1 [])])])]⟩,
 ⟨some 6, .mv (.t 11), none, false, false, []⟩])
 (.seq
 (.reg [⟨some 12, .mv (.t 6), none, false, false, []⟩,
 ⟨some 13, .bin .neq (.t 12) (.c (.v (.int .i64 0))), none, false, false, []⟩])
 (.cond (.t 13)
 (.seq
 (.reg [⟨some 14, .mv (.t 6), none, false, false, []⟩,
 ⟨some 4, .mv (.c (.v (.int .i64 0))), none, false, false, []⟩,
 ⟨some 5, .mv (.t 14), none, false, false, []⟩])
 (.norm [(4, .fz .k), (5, .fz .k)] .ret)
 )
 .skip
 )
 )
 )
 (.seq
 (.reg [⟨some 7, .mv (.c (.v (.int .i64 0))), none, false, false, []⟩])
 (.seq
 (.seq
 (.reg [⟨some 15, .mv (.t 1), none, false, false, []⟩,
 ⟨some 16, .len (.t 15), none, false, false, []⟩,
 ⟨some 17, .mv (.c (.v (.int .i64 0))), none, false, false, []⟩])
 (.blk 0
 (.loop x413a1 x413b1)
 )
 )
 (.seq
 (.reg [⟨some 46, .mv (.t 7), none, false, false, []⟩,
 ⟨some 4, .mv (.t 46), none, false, false, []⟩,
 ⟨some 5, .mv (.c (.v (.int .i64 0))), none, false, false, []⟩])
 (.norm [(4, .fz .k), (5, .fz .k)] .ret)
 )
 )
 )
 )
 )
def f413 : XFn := ⟨true, 47, [.t 4, .t 5], .k, x413⟩
/-! 414 dross/hitset.Hits (pf true): 2 parameters, 0 captured; names [0=in, 1=l, 2=in, 3=l] -/
def x414 : XCode :=
 (.seq
 (.reg [⟨some 2, .box (.t 0), none, false, false, []⟩,
 ⟨some 3, .box (.t 1), none, false, false, []⟩,
 ⟨some 4, .mv (.c (.v (.bool false))), none, false, false, []⟩])
 (.seq
 (.reg [⟨some 5, .fad 1 (.t 2), none, false, false, []⟩,
 ⟨some 6, .load false 1 (.t 5), none, false, false, []⟩,
 ⟨some 7, .mkf 436 [(.t 3)], none, false, false, []⟩,
 ⟨some 8, .call 435 [(.t 6), (.t 7)], none, false, false, [(.sl 1 [(.sl 1 [])]), .k]⟩,
 ⟨some 9, .not (.t 8), none, false, false, []⟩,
 ⟨some 4, .mv (.t 9), none, false, false, []⟩])
 (.norm [(4, .fz .k)] .ret)
 )
 )
def f414 : XFn := ⟨true, 10, [.t 4], .k, x414⟩
/-! 415 dross/hitset.Packing (pf true): 1 parameters, 0 captured; names [0=in, 1=in, 5=err, 6=l, 7=sum] -/
def x415 : XCode :=
 (.seq
 (.reg [⟨some 1, .box (.t 0), none, false, false, []⟩,
 ⟨some 2, .mv (.c .emp), none, false, false, []⟩,
 ⟨some 3, .mv (.c (.v (.int .i64 0))), none, false, false, []⟩,
 ⟨some 4, .mv (.c (.v (.int .i64 0))), none, false, false, []⟩])
 (.seq
 (.seq
 (.reg [⟨some 8, .load true 2 (.t 1), none, false, false, []⟩,
 ⟨some 9, .call 401 [(.t 8)], none, false, false, [(.ag [(.sl 1 []), (.sl 1 [(.sl 1 [])])])]⟩,
 ⟨some 5, .mv (.t 9), none, false, false, []⟩])
 (.seq
 (.reg [⟨some 10, .mv (.t 5), none, false, false, []⟩,
 ⟨some 11, .bin .neq (.t 10) (.c (.v (.int .i64 0))), none, false, false, []⟩])
 (.cond (.t 11)
 (.seq
 (.reg [⟨some 12, .mv (.t 5), none, false, false, []⟩,
 ⟨some 2, .mv (.c .emp), none, false, false, []⟩,
 ⟨some 3, .mv (.c (.v (.int .i64 0))), none, false, false, []⟩,
 ⟨some 4, .mv (.t 12), none, false, false, []⟩])
 (.norm [(2, .fz (.sl 2 [])), (3, .fz .k), (4, .fz .k)] .ret)
 )
 .skip
 )
 )
 )
 (.seq
 (.reg [⟨some 14, .load true 2 (.t 1), none, false, false, []⟩,
 ⟨some 15, .call 429 [(.t 14), (.c (.v (.int .i64 0)))], none, false, false, [(.ag [(.sl 1 []), (.sl 1 [(.sl 1 [])])]), .k]⟩,
 ⟨some 16, .call 438 [(.t 15)], none, false, false, []⟩,
 ⟨some 13, .mv (.t 16), none, false, false, []⟩,
 ⟨some 17, .ext (.t 13) 0, none, false, false, []⟩,
 ⟨some 18, .ext (.t 13) 1, none, false, false, []⟩,
 ⟨some 6, .mv (.t 17), none, false, false, []⟩,
 ⟨some 7, .mv (.t 18), none, false, false, []⟩])
 (.seq
 (.reg [⟨some 19, .mv (.t 6), none, false, false, []⟩,
 ⟨some 20, .mv (.t 7), none, false, false, []⟩,
 ⟨some 2, .mv (.t 19), none, false, false, []⟩,
 ⟨some 3, .mv (.t 20), none, false, false, []⟩,
 ⟨some 4, .mv (.c (.v (.int .i64 0))), none, false, false, []⟩])
 (.norm [(2, .fz (.sl 2 [])), (3, .fz .k), (4, .fz .k)] .ret)
 )
 )
 )
 )
def f415 : XFn := ⟨true, 21, [.t 2, .t 3, .t 4], (.ag [(.sl 2 []), .k, .k]), x415⟩
/-! 416 dross/drossref39.Right (pf true): 3 parameters, 0 captured; names [0=in, 1=s, 2=l, 3=in, 4=s, 5=l, 7=sum, 8=i, 9=v, 10=load, 11=i] -/
/-- alive: 2 l; 3 in; 4 s; 7 sum; 8 i -/
def x416a1 : List (Nat × Nk) := [(2, .co (.sl 2 [])), (3, .k), (4, .k), (7, .k), (8, .k)]
theorem x416a1n (s : XSt) : norm x416a1 s = norm [(2, .co (.sl 2 [])), (3, .k), (4, .k), (7, .k), (8, .k)] s := rfl
def x416b1 : XCode :=
 (.seq
 (.seq
 (.reg [⟨some 15, .mv (.t 8), none, false, false, []⟩,
 ⟨some 16, .mv (.t 2), none, false, false, []⟩,
 ⟨some 17, .len (.t 16), none, false, false, []⟩,
 ⟨some 18, .bin .lss (.t 15) (.t 17), none, false, false, []⟩])
 (.cond (.t 18)
 .skip
 (.norm [(2, .co (.sl 2 [])), (3, .k), (4, .k), (7, .k)] (.exit 0))
 )
 )
 (.seq
 (.blk 1
 (.seq
 (.seq
 (.reg [⟨some 21, .mv (.t 2), none, false, false, []⟩,
 ⟨some 22, .mv (.t 8), none, false, false, []⟩,
 ⟨some 23, .iad 2 (.t 21) (.t 22), none, false, false, []⟩,
 ⟨some 24, .fad 0 (.t 23), none, false, false, []⟩,
 ⟨some 25, .load false 1 (.t 24), none, false, false, []⟩,
 ⟨some 26, .bin .lss (.t 25) (.c (.v (.int .i64 0))), none, false, false, []⟩,
 ⟨some 27, .mv (.t 26), none, false, false, []⟩,
 ⟨some 28, .mv (.t 2), some (27, false), false, false, []⟩,
 ⟨some 29, .mv (.t 8), some (27, false), false, false, []⟩,
 ⟨some 30, .iad 2 (.t 28) (.t 29), some (27, false), false, false, []⟩,
 ⟨some 31, .fad 0 (.t 30), some (27, false), false, false, []⟩,
 ⟨some 32, .load false 1 (.t 31), some (27, false), false, false, []⟩,
 ⟨some 33, .fad 1 (.t 3), some (27, false), false, false, []⟩,
 ⟨some 34, .load false 1 (.t 33), some (27, false), false, false, []⟩,
 ⟨some 35, .len (.t 34), some (27, false), false, false, []⟩,
 ⟨some 36, .bin .geq (.t 32) (.t 35), some (27, false), false, false, []⟩,
 ⟨some 37, .pick (.t 27) (.c (.v (.bool true))) (.t 36), none, false, false, []⟩,
 ⟨some 38, .mv (.t 37), none, false, false, []⟩,
 ⟨some 39, .mv (.t 2), some (38, false), false, false, []⟩,
 ⟨some 40, .mv (.t 8), some (38, false), false, false, []⟩,
 ⟨some 41, .iad 2 (.t 39) (.t 40), some (38, false), false, false, []⟩,
 ⟨some 42, .fad 1 (.t 41), some (38, false), false, false, []⟩,
 ⟨some 43, .load false 1 (.t 42), some (38, false), false, false, []⟩,
 ⟨some 44, .bin .lss (.t 43) (.c (.v (.int .i64 1))), some (38, false), false, false, []⟩,
 ⟨some 45, .pick (.t 38) (.c (.v (.bool true))) (.t 44), none, false, false, []⟩,
 ⟨some 46, .mv (.t 45), none, false, false, []⟩,
 ⟨some 47, .mv (.t 2), some (46, false), false, false, []⟩,
 ⟨some 48, .mv (.t 8), some (46, false), false, false, []⟩,
 ⟨some 49, .iad 2 (.t 47) (.t 48), some (46, false), false, false, []⟩,
 ⟨some 50, .fad 1 (.t 49), some (46, false), false, false, []⟩,
 ⟨some 51, .load false 1 (.t 50), some (46, false), false, false, []⟩,
 ⟨some 52, .bin .gtr (.t 51) (.c (.v (.int .i64 1000000000000))), some (46, false), false, false, []⟩,
 ⟨some 53, .pick (.t 46) (.c (.v (.bool true))) (.t 52), none, false, false, []⟩,
 ⟨some 54, .mv (.t 53), none, false, false, []⟩,
 ⟨some 55, .fad 1 (.t 3), some (54, false), false, false, []⟩,
 ⟨some 56, .load false 1 (.t 55), some (54, false), false, false, []⟩,
 ⟨some 57, .mv (.t 2), some (54, false), false, false, []⟩,
 ⟨some 58, .mv (.t 8), some (54, false), false, false, []⟩,
 ⟨some 59, .iad 2 (.t 57) (.t 58), some (54, false), false, false, []⟩,
 ⟨some 60, .fad 0 (.t 59), some (54, false), false, false, []⟩,
 ⟨some 61, .load false 1 (.t 60), some (54, false), false, false, []⟩,
 ⟨some 62, .iad 1 (.t 56) (.t 61), some (54, false), false, false, []⟩,
 ⟨some 63, .load false 1 (.t 62), some (54, false), false, false, []⟩,
 ⟨some 64, .fad 0 (.t 4), some (54, false), false, false, []⟩,
 ⟨some 65, .load false 1 (.t 64), some (54, false), false, false, []⟩,
 ⟨some 66, .call 431 [(.t 63), (.t 65)], some (54, false), false, false, [(.sl 1 []), (.sl 1 [])]⟩,
 ⟨some 67, .pick (.t 54) (.c (.v (.bool true))) (.t 66), none, false, false, []⟩])
 (.cond (.t 67)
 (.seq
 (.reg [⟨some 6, .mv (.c (.v (.bool false))), none, false, false, []⟩])
 (.norm [(6, .fz .k)] .ret)
 )
 .skip
 )
 )
 (.reg [⟨some 68, .mv (.t 7), none, false, false, []⟩,
 ⟨some 69, .mv (.t 2), none, false, false, []⟩,
 ⟨some 70, .mv (.t 8), none, false, false, []⟩,
 ⟨some 71, .iad 2 (.t 69) (.t 70), none, false, false, []⟩,
 ⟨some 72, .fad 1 (.t 71), none, false, false, []⟩,
 ⟨some 73, .load false 1 (.t 72), none, false, false, []⟩,
 ⟨some 74, .bin .add (.t 68) (.t 73), none, false, false, []⟩,
 ⟨some 7, .mv (.t 74), none, false, false, []⟩])
 )
 )
 (.reg [⟨some 19, .mv (.t 8), none, false, false, []⟩,
 ⟨some 20, .bin .add (.t 19) (.c (.v (.int .i64 1))), none, false, false, []⟩,
 ⟨some 8, .mv (.t 20), none, false, false, []⟩])
 )
 )

/-- alive: 2 l; 3 in; 4 s; 7 sum; 9 v; 10 load; 11 i -/
def x416a2 : List (Nat × Nk) := [(2, .co (.sl 2 [])), (3, .k), (4, .k), (7, .k), (9, .k), (10, .k), (11, .k)]
theorem x416a2n (s : XSt) : norm x416a2 s = norm [(2, .co (.sl 2 [])), (3, .k), (4, .k), (7, .k), (9, .k), (10, .k), (11, .k)] s := rfl
def x416b2 : XCode :=
 (.seq
 (.seq
 (.reg [⟨some 82, .mv (.t 11), none, false, false, []⟩,
 ⟨some 83, .mv (.t 2), none, false, false, []⟩,
 ⟨some 84, .len (.t 83), none, false, false, []⟩,
 ⟨some 85, .bin .lss (.t 82) (.t 84), none, false, false, []⟩])
 (.cond (.t 85)
 .skip
 (.norm [(2, .co (.sl 2 [])), (3, .k), (4, .k), (7, .k), (9, .k), (10, .k)] (.exit 4))
 )
 )
 (.seq
 (.blk 5
 (.seq
 (.reg [⟨some 88, .fad 1 (.t 3), none, false, false, []⟩,
 ⟨some 89, .load false 1 (.t 88), none, false, false, []⟩,
 ⟨some 90, .mv (.t 2), none, false, false, []⟩,
 ⟨some 91, .mv (.t 11), none, false, false, []⟩,
 ⟨some 92, .iad 2 (.t 90) (.t 91), none, false, false, []⟩,
 ⟨some 93, .fad 0 (.t 92), none, false, false, []⟩,
 ⟨some 94, .load false 1 (.t 93), none, false, false, []⟩,
 ⟨some 95, .iad 1 (.t 89) (.t 94), none, false, false, []⟩,
 ⟨some 96, .load false 1 (.t 95), none, false, false, []⟩,
 ⟨some 97, .mv (.t 9), none, false, false, []⟩,
 ⟨some 98, .call 428 [(.t 96), (.t 97)], none, false, false, [(.sl 1 []), .k]⟩])
 (.cond (.t 98)
 (.reg [⟨some 99, .mv (.t 10), none, false, false, []⟩,
 ⟨some 100, .mv (.t 2), none, false, false, []⟩,
 ⟨some 101, .mv (.t 11), none, false, false, []⟩,
 ⟨some 102, .iad 2 (.t 100) (.t 101), none, false, false, []⟩,
 ⟨some 103, .fad 1 (.t 102), none, false, false, []⟩,
 ⟨some 104, .load false 1 (.t 103), none, false, false, []⟩,
 ⟨some 105, .bin .add (.t 99) (.t 104), none, false, false, []⟩,
 ⟨some 10, .mv (.t 105), none, false, false, []⟩])
 .skip
 )
 )
 )
 (.reg [⟨some 86, .mv (.t 11), none, false, false, []⟩,
 ⟨some 87, .bin .add (.t 86) (.c (.v (.int .i64 1))), none, false, false, []⟩,
 ⟨some 11, .mv (.t 87), none, false, false, []⟩])
 )
 )

/-- alive: 2 l; 3 in; 4 s; 7 sum; 9 v -/
def x416a3 : List (Nat × Nk) := [(2, .co (.sl 2 [])), (3, .k), (4, .k), (7, .k), (9, .k)]
theorem x416a3n (s : XSt) : norm x416a3 s = norm [(2, .co (.sl 2 [])), (3, .k), (4, .k), (7, .k), (9, .k)] s := rfl
def x416b3 : XCode :=
 (.seq
 (.seq
 (.reg [⟨some 75, .mv (.t 9), none, false, false, []⟩,
 ⟨some 76, .fad 0 (.t 3), none, false, false, []⟩,
 ⟨some 77, .load false 1 (.t 76), none, false, false, []⟩,
 ⟨some 78, .len (.t 77), none, false, false, []⟩,
 ⟨some 79, .bin .lss (.t 75) (.t 78), none, false, false, []⟩])
 (.cond (.t 79)
 .skip
 (.norm [(4, .k), (7, .k)] (.exit 2))
 )
 )
 (.seq
 (.blk 3
 (.seq
 (.reg [⟨some 10, .mv (.c (.v (.int .i64 0))), none, false, false, []⟩])
 (.seq
 (.seq
 (.reg [⟨some 11, .mv (.c (.v (.int .i64 0))), none, false, false, []⟩])
 (.blk 4
 (.loop x416a2 x416b2)
 )
 )
 (.seq
 (.reg [⟨some 106, .mv (.t 10), none, false, false, []⟩,
 ⟨some 107, .fad 0 (.t 3), none, false, false, []⟩,
 ⟨some 108, .load false 1 (.t 107), none, false, false, []⟩,
 ⟨some 109, .mv (.t 9), none, false, false, []⟩,
 ⟨some 110, .iad 1 (.t 108) (.t 109), none, false, false, []⟩,
 ⟨some 111, .load false 1 (.t 110), none, false, false, []⟩,
 ⟨some 112, .bin .gtr (.t 106) (.t 111), none, false, false, []⟩,
 ⟨some 113, .mv (.t 112), none, false, false, []⟩,
 ⟨some 114, .fad 1 (.t 4), some (113, true), false, false, []⟩,
 ⟨some 115, .load false 1 (.t 114), some (113, true), false, false, []⟩,
 ⟨some 116, .mv (.t 9), some (113, true), false, false, []⟩,
 ⟨some 117, .call 428 [(.t 115), (.t 116)], some (113, true), false, false, [(.sl 1 []), .k]⟩,
 ⟨some 118, .not (.t 117), some (113, true), false, false, []⟩,
 ⟨some 119, .pick (.t 113) (.t 118) (.c (.v (.bool false))), none, false, false, []⟩])
 (.cond (.t 119)
 (.seq
 (.reg [⟨some 6, .mv (.c (.v (.bool false))), none, false, false, []⟩])
 (.norm [(6, .fz .k)] .ret)
 )
 .skip
 )
 )
 )
 )
 )
 (.reg [⟨some 80, .mv (.t 9), none, false, false, []⟩,
 ⟨some 81, .bin .add (.t 80) (.c (.v (.int .i64 1))), none, false, false, []⟩,
 ⟨some 9, .mv (.t 81), none, false, false, []⟩])
 )
 )

def x416 : XCode :=
 (.seq
 (.reg [⟨some 3, .box (.t 0), none, false, false, []⟩,
 ⟨some 4, .box (.t 1), none, false, false, []⟩,
 ⟨some 6, .mv (.c (.v (.bool false))), none, false, false, []⟩])
 (.seq
 (.seq
 (.reg [⟨some 12, .mv (.t 2), none, false, false, []⟩,
 ⟨some 13, .len (.t 12), none, false, false, []⟩,
 ⟨some 14, .bin .gtr (.t 13) (.c (.v (.int .i64 10000))), none, false, false, []⟩])
 (.cond (.t 14)
 (.seq
 (.reg [⟨some 6, .mv (.c (.v (.bool false))), none, false, false, []⟩])
 (.norm [(6, .fz .k)] .ret)
 )
 .skip
 )
 )
 (.seq
 (.reg [⟨some 7, .mv (.c (.v (.int .i64 0))), none, false, false, []⟩])
 (.seq
 (.seq
 (.reg [⟨some 8, .mv (.c (.v (.int .i64 0))), none, false, false, []⟩])
 (.blk 0
 (.loop x416a1 x416b1)
 )
 )
 (.seq
 (.seq
 (.reg [⟨some 9, .mv (.c (.v (.int .i64 0))), none, false, false, []⟩])
 (.blk 2
 (.loop x416a3 x416b3)
 )
 )
 (.seq
 (.reg [⟨some 120, .mv (.t 7), none, false, false, []⟩,
 ⟨some 121, .fad 2 (.t 4), none, false, false, []⟩,
 ⟨some 122, .load false 1 (.t 121), none, false, false, []⟩,
 ⟨some 123, .bin .geq (.t 120) (.t 122), none, false, false, []⟩,
 ⟨some 6, .mv (.t 123), none, false, false, []⟩])
 (.norm [(6, .fz .k)] .ret)
 )
 )
 )
 )
 )
 )
def f416 : XFn := ⟨true, 124, [.t 6], .k, x416⟩
/-! 417 dross/hitset.Prove (pf true): 3 parameters, 0 captured; names [0=in, 1=bound, 2=budget, 3=in, 4=bound, 5=budget, 8=err] -/
def x417 : XCode :=
 (.seq
 (.reg [⟨some 3, .box (.t 0), none, false, false, []⟩,
 ⟨some 6, .mv (.c .emp), none, false, false, []⟩,
 ⟨some 7, .mv (.c (.v (.int .i64 0))), none, false, false, []⟩])
 (.seq
 (.seq
 (.reg [⟨some 9, .load true 2 (.t 3), none, false, false, []⟩,
 ⟨some 10, .call 401 [(.t 9)], none, false, false, [(.ag [(.sl 1 []), (.sl 1 [(.sl 1 [])])])]⟩,
 ⟨some 8, .mv (.t 10), none, false, false, []⟩])
 (.seq
 (.reg [⟨some 11, .mv (.t 8), none, false, false, []⟩,
 ⟨some 12, .bin .neq (.t 11) (.c (.v (.int .i64 0))), none, false, false, []⟩])
 (.cond (.t 12)
 (.seq
 (.reg [⟨some 13, .mv (.t 8), none, false, false, []⟩,
 ⟨some 6, .mv (.c .emp), none, false, false, []⟩,
 ⟨some 7, .mv (.t 13), none, false, false, []⟩])
 (.norm [(6, .fz (.sl 2 [.k, (.sl 2 [])])), (7, .fz .k)] .ret)
 )
 .skip
 )
 )
 )
 (.seq
 (.blk 0
 (.seq
 (.reg [⟨some 15, .mv (.t 2), none, false, false, []⟩,
 ⟨some 16, .bin .lss (.t 15) (.c (.v (.int .i64 1))), none, false, false, []⟩,
 ⟨some 14, .mv (.t 16), none, false, false, []⟩])
 (.cond (.t 14)
 (.seq
 (.reg [⟨some 6, .mv (.c .emp), none, false, false, []⟩,
 ⟨some 7, .mv (.c (.v (.int .i64 1))), none, false, false, []⟩])
 (.norm [(6, .fz (.sl 2 [.k, (.sl 2 [])])), (7, .fz .k)] .ret)
 )
 (.seq
 (.reg [⟨some 18, .mv (.t 1), none, false, false, []⟩,
 ⟨some 19, .bin .lss (.t 18) (.c (.v (.int .i64 (-1000000000000000)))), none, false, false, []⟩,
 ⟨some 20, .mv (.t 19), none, false, false, []⟩,
 ⟨some 21, .mv (.t 1), some (20, false), false, false, []⟩,
 ⟨some 22, .bin .gtr (.t 21) (.c (.v (.int .i64 1000000000000000))), some (20, false), false, false, []⟩,
 ⟨some 23, .pick (.t 20) (.c (.v (.bool true))) (.t 22), none, false, false, []⟩,
 ⟨some 17, .mv (.t 23), none, false, false, []⟩])
 (.cond (.t 17)
 (.seq
 (.reg [⟨some 6, .mv (.c .emp), none, false, false, []⟩,
 ⟨some 7, .mv (.c (.v (.int .i64 7))), none, false, false, []⟩])
 (.norm [(6, .fz (.sl 2 [.k, (.sl 2 [])])), (7, .fz .k)] .ret)
 )
 .skip
 )
 )
 )
 )
 )
 (.seq
 (.reg [⟨some 24, .load true 2 (.t 3), none, false, false, []⟩,
 ⟨some 25, .mv (.t 2), none, false, false, []⟩,
 ⟨some 26, .call 429 [(.t 24), (.t 25)], none, false, false, [(.ag [(.sl 1 []), (.sl 1 [(.sl 1 [])])]), .k]⟩,
 ⟨some 27, .mv (.t 1), none, false, false, []⟩,
 ⟨some 28, .call 439 [(.t 26), (.t 27)], none, false, false, []⟩,
 ⟨some 29, .ext (.t 28) 0, none, false, false, []⟩,
 ⟨some 30, .ext (.t 28) 1, none, false, false, []⟩,
 ⟨some 6, .mv (.t 29), none, false, false, []⟩,
 ⟨some 7, .mv (.t 30), none, false, false, []⟩])
 (.norm [(6, .fz (.sl 2 [.k, (.sl 2 [])])), (7, .fz .k)] .ret)
 )
 )
 )
 )
def f417 : XFn := ⟨true, 31, [.t 6, .t 7], (.ag [(.sl 2 [.k, (.sl 2 [])]), .k]), x417⟩
/-! 418 dross/drossref39.InRange (pf true): 1 parameters, 0 captured; names [0=bound, 1=bound] -/
def x418 : XCode :=
 (.seq
 (.reg [⟨some 2, .mv (.c (.v (.bool false))), none, false, false, []⟩])
 (.seq
 (.reg [⟨some 3, .mv (.t 0), none, false, false, []⟩,
 ⟨some 4, .bin .geq (.t 3) (.c (.v (.int .i64 (-1000000000000000)))), none, false, false, []⟩,
 ⟨some 5, .mv (.t 4), none, false, false, []⟩,
 ⟨some 6, .mv (.t 0), some (5, true), false, false, []⟩,
 ⟨some 7, .bin .leq (.t 6) (.c (.v (.int .i64 1000000000000000))), some (5, true), false, false, []⟩,
 ⟨some 8, .pick (.t 5) (.t 7) (.c (.v (.bool false))), none, false, false, []⟩,
 ⟨some 2, .mv (.t 8), none, false, false, []⟩])
 (.norm [(2, .fz .k)] .ret)
 )
 )
def f418 : XFn := ⟨true, 9, [.t 2], .k, x418⟩
/-! 420 dross/drosslaw39.example (pf true): 0 parameters, 0 captured; names [] -/
def x420 : XCode :=
 (.seq
 (.reg [⟨some 0, .alloc [(.slice none 0 0), (.slice none 0 0)], none, false, false, []⟩])
 (.seq
 (.reg [⟨some 1, .bsl 1 [(.int .i64 0)] 3 [(0, (.c (.v (.int .i64 2)))), (1, (.c (.v (.int .i64 3)))), (2, (.c (.v (.int .i64 4))))], none, false, false, []⟩,
 ⟨some 2, .bsl 1 [(.int .i64 0)] 2 [(0, (.c (.v (.int .i64 0)))), (1, (.c (.v (.int .i64 1))))], none, false, false, []⟩,
 ⟨some 3, .bsl 1 [(.int .i64 0)] 2 [(0, (.c (.v (.int .i64 1)))), (1, (.c (.v (.int .i64 2))))], none, false, false, []⟩,
 ⟨some 4, .bsl 1 [(.int .i64 0)] 2 [(0, (.c (.v (.int .i64 0)))), (1, (.c (.v (.int .i64 2))))], none, false, false, []⟩,
 ⟨some 5, .bsl 1 [(.slice none 0 0)] 3 [(0, (.t 2)), (1, (.t 3)), (2, (.t 4))], none, false, false, []⟩,
 ⟨some 6, .build [(.slice none 0 0), (.slice none 0 0)] [(0, 1, (.t 1)), (1, 1, (.t 5))], none, false, false, []⟩,
 ⟨none, .store 2 (.t 0) (.t 6), none, false, false, []⟩])
 (.norm [(0, .k)] .ret)
 )
 )
def f420 : XFn := ⟨true, 7, [.c 0 true 2], (.ag [(.sl 1 []), (.sl 1 [(.sl 1 [])])]), x420⟩
/-! 421 slices.Equal[[]int,int] (pf true): 2 parameters, 0 captured; names [0=s1, 1=s2, 2=s1, 3=s2, 5=i] -/
/-- alive: 0 s1; 1 s2; 12 ; 13  -/
def x421a1 : List (Nat × Nk) := [(0, .co (.sl 1 [])), (1, .co (.sl 1 [])), (12, .k), (13, .k)]
theorem x421a1n (s : XSt) : norm x421a1 s = norm [(0, .co (.sl 1 [])), (1, .co (.sl 1 [])), (12, .k), (13, .k)] s := rfl
def x421b1 : XCode :=
 (.seq
 (.reg [⟨some 14, .bin .lss (.t 13) (.t 12), none, false, false, []⟩])
 (.seq
 (.cond (.t 14)
 .skip
 (.norm [] (.exit 0))
 )
 (.seq
 (.blk 1
 (.seq
 (.reg [⟨some 15, .mv (.t 13), none, false, false, []⟩,
 ⟨some 5, .mv (.t 15), none, false, false, []⟩])
 (.seq
 (.reg [⟨some 16, .mv (.t 0), none, false, false, []⟩,
 ⟨some 17, .mv (.t 5), none, false, false, []⟩,
 ⟨some 18, .iad 1 (.t 16) (.t 17), none, false, false, []⟩,
 ⟨some 19, .load false 1 (.t 18), none, false, false, []⟩,
 ⟨some 20, .mv (.t 1), none, false, false, []⟩,
 ⟨some 21, .mv (.t 5), none, false, false, []⟩,
 ⟨some 22, .iad 1 (.t 20) (.t 21), none, false, false, []⟩,
 ⟨some 23, .load false 1 (.t 22), none, false, false, []⟩,
 ⟨some 24, .bin .neq (.t 19) (.t 23), none, false, false, []⟩])
 (.cond (.t 24)
 (.seq
 (.reg [⟨some 4, .mv (.c (.v (.bool false))), none, false, false, []⟩])
 (.norm [(4, .fz .k)] .ret)
 )
 .skip
 )
 )
 )
 )
 (.reg [⟨some 25, .bin .add (.t 13) (.c (.v (.int .i64 1))), none, false, false, []⟩,
 ⟨some 13, .mv (.t 25), none, false, false, []⟩])
 )
 )
 )

def x421 : XCode :=
 (.seq
 (.reg [⟨some 4, .mv (.c (.v (.bool false))), none, false, false, []⟩])
 (.seq
 (.seq
 (.reg [⟨some 6, .mv (.t 0), none, false, false, []⟩,
 ⟨some 7, .len (.t 6), none, false, false, []⟩,
 ⟨some 8, .mv (.t 1), none, false, false, []⟩,
 ⟨some 9, .len (.t 8), none, false, false, []⟩,
 ⟨some 10, .bin .neq (.t 7) (.t 9), none, false, false, []⟩])
 (.cond (.t 10)
 (.seq
 (.reg [⟨some 4, .mv (.c (.v (.bool false))), none, false, false, []⟩])
 (.norm [(4, .fz .k)] .ret)
 )
 .skip
 )
 )
 (.seq
 (.seq
 (.reg [⟨some 11, .mv (.t 0), none, false, false, []⟩,
 ⟨some 12, .len (.t 11), none, false, false, []⟩,
 ⟨some 13, .mv (.c (.v (.int .i64 0))), none, false, false, []⟩])
 (.blk 0
 (.loop x421a1 x421b1)
 )
 )
 (.seq
 (.reg [⟨some 4, .mv (.c (.v (.bool true))), none, false, false, []⟩])
 (.norm [(4, .fz .k)] .ret)
 )
 )
 )
 )
def f421 : XFn := ⟨true, 26, [.t 4], .k, x421⟩
/-! 422 dross/drosslaw39.proof (pf true): 0 parameters, 0 captured; names [] -/
def x422 : XCode :=
 (.seq
 (.reg [⟨some 0, .mv (.c .emp), none, false, false, []⟩])
 (.seq
 (.reg [⟨some 1, .build [(.int .i64 0), (.slice none 0 0)] [(0, 1, (.c (.v (.int .i64 1))))], none, false, false, []⟩,
 ⟨some 2, .build [(.int .i64 0), (.int .i64 0)] [(0, 1, (.c (.v (.int .i64 2)))), (1, 1, (.c (.v (.int .i64 2))))], none, false, false, []⟩,
 ⟨some 3, .bsl 2 [(.int .i64 0), (.int .i64 0)] 1 [(0, (.t 2))], none, false, false, []⟩,
 ⟨some 4, .build [(.int .i64 0), (.slice none 0 0)] [(0, 1, (.c (.v (.int .i64 (-1))))), (1, 1, (.t 3))], none, false, false, []⟩,
 ⟨some 5, .build [(.int .i64 0), (.int .i64 0)] [(0, 1, (.c (.v (.int .i64 0)))), (1, 1, (.c (.v (.int .i64 2))))], none, false, false, []⟩,
 ⟨some 6, .build [(.int .i64 0), (.int .i64 0)] [(0, 1, (.c (.v (.int .i64 1)))), (1, 1, (.c (.v (.int .i64 4))))], none, false, false, []⟩,
 ⟨some 7, .bsl 2 [(.int .i64 0), (.int .i64 0)] 2 [(0, (.t 5)), (1, (.t 6))], none, false, false, []⟩,
 ⟨some 8, .build [(.int .i64 0), (.slice none 0 0)] [(0, 1, (.c (.v (.int .i64 (-1))))), (1, 1, (.t 7))], none, false, false, []⟩,
 ⟨some 9, .bsl 2 [(.int .i64 0), (.slice none 0 0)] 3 [(0, (.t 1)), (1, (.t 4)), (2, (.t 8))], none, false, false, []⟩,
 ⟨some 0, .mv (.t 9), none, false, false, []⟩])
 (.norm [(0, .fz (.sl 2 [.k, (.sl 2 [])]))] .ret)
 )
 )
def f422 : XFn := ⟨true, 10, [.t 0], (.sl 2 [.k, (.sl 2 [])]), x422⟩
/-! 423 dross/drossref39.subset (pf true): 2 parameters, 0 captured; names [0=bits, 1=n, 2=bits, 3=n, 5=out, 6=i] -/
/-- alive: 0 bits; 1 n; 5 out; 6 i -/
def x423a1 : List (Nat × Nk) := [(0, .k), (1, .k), (5, .own 1 []), (6, .k)]
theorem x423a1n (s : XSt) : norm x423a1 s = norm [(0, .k), (1, .k), (5, .own 1 []), (6, .k)] s := rfl
def x423b1 : XCode :=
 (.seq
 (.seq
 (.reg [⟨some 7, .mv (.t 6), none, false, false, []⟩,
 ⟨some 8, .mv (.t 1), none, false, false, []⟩,
 ⟨some 9, .bin .lss (.t 7) (.t 8), none, false, false, []⟩])
 (.cond (.t 9)
 .skip
 (.norm [(5, .own 1 [])] (.exit 0))
 )
 )
 (.seq
 (.blk 1
 (.seq
 (.reg [⟨some 12, .mv (.t 0), none, false, false, []⟩,
 ⟨some 13, .mv (.t 6), none, false, false, []⟩,
 ⟨some 14, .bin .shr (.t 12) (.t 13), none, false, false, []⟩,
 ⟨some 15, .bin .and (.t 14) (.c (.v (.int .i64 1))), none, false, false, []⟩,
 ⟨some 16, .bin .eql (.t 15) (.c (.v (.int .i64 1))), none, false, false, []⟩])
 (.cond (.t 16)
 (.reg [⟨some 17, .mv (.t 5), none, false, false, []⟩,
 ⟨some 18, .mv (.t 6), none, false, false, []⟩,
 ⟨some 19, .bsl 1 [(.int .i64 0)] 1 [(0, (.t 18))], none, false, false, []⟩,
 ⟨some 20, .app 1 (.t 17) (.t 19), none, false, false, []⟩,
 ⟨some 5, .mv (.t 20), none, false, false, []⟩])
 .skip
 )
 )
 )
 (.reg [⟨some 10, .mv (.t 6), none, false, false, []⟩,
 ⟨some 11, .bin .add (.t 10) (.c (.v (.int .i64 1))), none, false, false, []⟩,
 ⟨some 6, .mv (.t 11), none, false, false, []⟩])
 )
 )

def x423 : XCode :=
 (.seq
 (.reg [⟨some 4, .mv (.c .emp), none, false, false, []⟩])
 (.seq
 (.reg [⟨some 5, .mv (.c .emp), none, false, false, []⟩])
 (.seq
 (.seq
 (.reg [⟨some 6, .mv (.c (.v (.int .i64 0))), none, false, false, []⟩])
 (.blk 0
 (.loop x423a1 x423b1)
 )
 )
 (.seq
 (.reg [⟨some 21, .mv (.t 5), none, false, false, []⟩,
 ⟨some 4, .mv (.t 21), none, false, false, []⟩])
 (.norm [(4, .fz (.sl 1 []))] .ret)
 )
 )
 )
 )
def f423 : XFn := ⟨true, 22, [.t 4], (.sl 1 []), x423⟩
/-! 424 slices.SortStableFunc[[]int,int] (pf false): 2 parameters, 0 captured; names [0=x, 1=cmp, 2=x, 3=cmp] -/
def x424 : XCode :=
 (.reg [⟨some 4, .mv (.t 0), none, false, false, []⟩,
 ⟨some 5, .mv (.t 0), none, false, false, []⟩,
 ⟨some 6, .len (.t 5), none, false, false, []⟩,
 ⟨some 7, .mv (.t 1), none, false, false, []⟩,
 ⟨some 8, .call 441 [(.t 4), (.t 6), (.t 7)], none, false, false, [(.sl 1 []), .k, .k]⟩])
def f424 : XFn := ⟨false, 9, [], .k, x424⟩
/-! 425 dross/hitset.Greedy$1 (pf false): 2 parameters, 1 captured; names [0=a, 1=b, 3=a, 4=b] -/
def x425 : XCode :=
 (.seq
 (.reg [⟨some 5, .mv (.c (.v (.int .i64 0))), none, false, false, []⟩])
 (.seq
 (.reg [⟨some 6, .fad 0 (.t 2), none, false, false, []⟩,
 ⟨some 7, .load false 1 (.t 6), none, false, false, []⟩,
 ⟨some 8, .mv (.t 1), none, false, false, []⟩,
 ⟨some 9, .iad 1 (.t 7) (.t 8), none, false, false, []⟩,
 ⟨some 10, .load false 1 (.t 9), none, false, false, []⟩,
 ⟨some 11, .fad 0 (.t 2), none, false, false, []⟩,
 ⟨some 12, .load false 1 (.t 11), none, false, false, []⟩,
 ⟨some 13, .mv (.t 0), none, false, false, []⟩,
 ⟨some 14, .iad 1 (.t 12) (.t 13), none, false, false, []⟩,
 ⟨some 15, .load false 1 (.t 14), none, false, false, []⟩,
 ⟨some 16, .bin .sub (.t 10) (.t 15), none, false, false, []⟩,
 ⟨some 5, .mv (.t 16), none, false, false, []⟩])
 (.norm [(5, .k)] .ret)
 )
 )
def f425 : XFn := ⟨false, 17, [.t 5], .k, x425⟩
/-! 426 slices.ContainsFunc[[]int,int] (pf false): 2 parameters, 0 captured; names [0=s, 1=f, 2=s, 3=f] -/
def x426 : XCode :=
 (.seq
 (.reg [⟨some 4, .mv (.c (.v (.bool false))), none, false, false, []⟩])
 (.seq
 (.reg [⟨some 5, .mv (.t 0), none, false, false, []⟩,
 ⟨some 6, .mv (.t 1), none, false, false, []⟩,
 ⟨some 7, .call 442 [(.t 5), (.t 6)], none, false, false, [(.sl 1 []), .k]⟩,
 ⟨some 8, .bin .geq (.t 7) (.c (.v (.int .i64 0))), none, false, false, []⟩,
 ⟨some 4, .mv (.t 8), none, false, false, []⟩])
 (.norm [(4, .k)] .ret)
 )
 )
def f426 : XFn := ⟨false, 9, [.t 4], .k, x426⟩
/-! 427 dross/hitset.Greedy$2 (pf false): 1 parameters, 1 captured; names [0=i, 2=i] -/
def x427 : XCode :=
 (.seq
 (.reg [⟨some 3, .mv (.c (.v (.bool false))), none, false, false, []⟩])
 (.seq
 (.reg [⟨some 4, .load false 1 (.t 1), none, false, false, []⟩,
 ⟨some 5, .mv (.t 0), none, false, false, []⟩,
 ⟨some 6, .iad 1 (.t 4) (.t 5), none, false, false, []⟩,
 ⟨some 7, .load false 1 (.t 6), none, false, false, []⟩,
 ⟨some 8, .bin .eql (.t 7) (.c (.v (.int .i64 1))), none, false, false, []⟩,
 ⟨some 3, .mv (.t 8), none, false, false, []⟩])
 (.norm [(3, .k)] .ret)
 )
 )
def f427 : XFn := ⟨false, 9, [.t 3], .k, x427⟩
/-! 147 slices.Sort[[]int,int] (pf false): 1 parameters, 0 captured; names [0=x, 1=x, 2=n] -/
def x147 : XCode :=
 (.seq
 (.reg [⟨some 3, .mv (.t 0), none, false, false, []⟩,
 ⟨some 4, .len (.t 3), none, false, false, []⟩,
 ⟨some 2, .mv (.t 4), none, false, false, []⟩])
 (.reg [⟨some 5, .mv (.t 0), none, false, false, []⟩,
 ⟨some 6, .mv (.t 2), none, false, false, []⟩,
 ⟨some 7, .mv (.t 2), none, false, false, []⟩,
 ⟨some 8, .conv .u64 (.t 7), none, false, false, []⟩,
 ⟨some 9, .call 163 [(.t 8)], none, false, false, []⟩,
 ⟨some 10, .call 162 [(.t 5), (.c (.v (.int .i64 0))), (.t 6), (.t 9)], none, false, false, [(.sl 1 []), .k, .k, .k]⟩])
 )
def f147 : XFn := ⟨false, 11, [], .k, x147⟩
/-! 428 dross/drossref39.Has (pf true): 2 parameters, 0 captured; names [0=l, 1=n, 2=l, 3=n, 5=i] -/
/-- alive: 0 l; 1 n; 5 i -/
def x428a1 : List (Nat × Nk) := [(0, .co (.sl 1 [])), (1, .k), (5, .k)]
theorem x428a1n (s : XSt) : norm x428a1 s = norm [(0, .co (.sl 1 [])), (1, .k), (5, .k)] s := rfl
def x428b1 : XCode :=
 (.seq
 (.seq
 (.reg [⟨some 6, .mv (.t 5), none, false, false, []⟩,
 ⟨some 7, .mv (.t 0), none, false, false, []⟩,
 ⟨some 8, .len (.t 7), none, false, false, []⟩,
 ⟨some 9, .bin .lss (.t 6) (.t 8), none, false, false, []⟩])
 (.cond (.t 9)
 .skip
 (.norm [] (.exit 0))
 )
 )
 (.seq
 (.blk 1
 (.seq
 (.reg [⟨some 12, .mv (.t 0), none, false, false, []⟩,
 ⟨some 13, .mv (.t 5), none, false, false, []⟩,
 ⟨some 14, .iad 1 (.t 12) (.t 13), none, false, false, []⟩,
 ⟨some 15, .load false 1 (.t 14), none, false, false, []⟩,
 ⟨some 16, .mv (.t 1), none, false, false, []⟩,
 ⟨some 17, .bin .eql (.t 15) (.t 16), none, false, false, []⟩])
 (.cond (.t 17)
 (.seq
 (.reg [⟨some 4, .mv (.c (.v (.bool true))), none, false, false, []⟩])
 (.norm [(4, .fz .k)] .ret)
 )
 .skip
 )
 )
 )
 (.reg [⟨some 10, .mv (.t 5), none, false, false, []⟩,
 ⟨some 11, .bin .add (.t 10) (.c (.v (.int .i64 1))), none, false, false, []⟩,
 ⟨some 5, .mv (.t 11), none, false, false, []⟩])
 )
 )

def x428 : XCode :=
 (.seq
 (.reg [⟨some 4, .mv (.c (.v (.bool false))), none, false, false, []⟩])
 (.seq
 (.seq
 (.reg [⟨some 5, .mv (.c (.v (.int .i64 0))), none, false, false, []⟩])
 (.blk 0
 (.loop x428a1 x428b1)
 )
 )
 (.seq
 (.reg [⟨some 4, .mv (.c (.v (.bool false))), none, false, false, []⟩])
 (.norm [(4, .fz .k)] .ret)
 )
 )
 )
def f428 : XFn := ⟨true, 18, [.t 4], .k, x428⟩
/-! 429 dross/hitset.newSearch (pf false): 2 parameters, 0 captured; names [0=in, 1=budget, 2=in, 3=budget] -/
def x429 : XCode :=
 (.seq
 (.reg [⟨some 2, .box (.t 0), none, false, false, []⟩,
 ⟨some 4, .mv (.c (.v (.pointer none))), none, false, false, []⟩])
 (.seq
 (.reg [⟨some 5, .load true 2 (.t 2), none, true, false, []⟩,
 ⟨some 6, .fad 0 (.t 2), none, false, false, []⟩,
 ⟨some 7, .load false 1 (.t 6), none, false, false, []⟩,
 ⟨some 8, .len (.t 7), none, false, false, []⟩,
 ⟨some 9, .mksl 1 [(.int .i64 0)] (.t 8) (.t 8), none, false, false, []⟩,
 ⟨some 10, .mv (.t 1), none, false, false, []⟩,
 ⟨some 11, .build [(.slice none 0 0), (.slice none 0 0), (.slice none 0 0), (.int .i64 0)] [(0, 2, (.t 5)), (2, 1, (.t 9)), (3, 1, (.t 10))], none, false, false, []⟩,
 ⟨some 12, .box (.t 11), none, false, false, []⟩,
 ⟨some 4, .mv (.t 12), none, false, false, []⟩])
 (.norm [(4, .k)] .ret)
 )
 )
def f429 : XFn := ⟨false, 13, [.t 4], .k, x429⟩
/-! 430 (*dross/hitset.search).minimum (pf false): 3 parameters, 0 captured; names [0=s, 1=b, 2=weight, 3=s, 4=b, 5=weight, 7=_, 8=sum, 9=v, 10=u, 11=m, 12=ok] -/
/-- alive: 1 b; 45 ; 46 ; 47  -/
def x430a1 : List (Nat × Nk) := [(1, .k), (45, .co (.sl 1 [])), (46, .k), (47, .k)]
theorem x430a1n (s : XSt) : norm x430a1 s = norm [(1, .k), (45, .co (.sl 1 [])), (46, .k), (47, .k)] s := rfl
def x430b1 : XCode :=
 (.seq
 (.reg [⟨some 48, .bin .lss (.t 47) (.t 46), none, false, false, []⟩])
 (.seq
 (.cond (.t 48)
 .skip
 (.norm [] (.exit 0))
 )
 (.seq
 (.blk 1
 (.seq
 (.reg [⟨some 49, .mv (.t 47), none, false, false, []⟩,
 ⟨some 50, .iad 1 (.t 45) (.t 47), none, false, false, []⟩,
 ⟨some 51, .load false 1 (.t 50), none, false, false, []⟩,
 ⟨some 10, .mv (.t 49), none, false, false, []⟩,
 ⟨some 11, .mv (.t 51), none, false, false, []⟩])
 (.seq
 (.reg [⟨some 52, .mv (.t 11), none, false, false, []⟩,
 ⟨some 53, .bin .eql (.t 52) (.c (.v (.int .i64 1))), none, false, false, []⟩])
 (.cond (.t 53)
 (.reg [⟨some 54, .mv (.t 1), none, false, false, []⟩,
 ⟨some 55, .mv (.t 1), none, false, false, []⟩,
 ⟨some 56, .nilc (.t 55), none, false, false, []⟩,
 ⟨some 57, .fad 0 (.t 56), none, false, false, []⟩,
 ⟨some 58, .load false 1 (.t 57), none, false, false, []⟩,
 ⟨some 59, .mv (.t 10), none, false, false, []⟩,
 ⟨some 60, .bsl 1 [(.int .i64 0)] 1 [(0, (.t 59))], none, false, false, []⟩,
 ⟨some 61, .app 1 (.t 58) (.t 60), none, false, false, []⟩,
 ⟨some 62, .nilc (.t 54), none, false, false, []⟩,
 ⟨some 63, .fad 0 (.t 62), none, false, false, []⟩,
 ⟨none, .store 1 (.t 63) (.t 61), none, false, false, []⟩])
 .skip
 )
 )
 )
 )
 (.reg [⟨some 64, .bin .add (.t 47) (.c (.v (.int .i64 1))), none, false, false, []⟩,
 ⟨some 47, .mv (.t 64), none, false, false, []⟩])
 )
 )
 )

def x430 : XCode :=
 (.seq
 (.reg [⟨some 6, .mv (.c (.v (.bool false))), none, false, false, []⟩])
 (.seq
 (.seq
 (.reg [⟨some 13, .mv (.t 0), none, false, false, []⟩,
 ⟨some 14, .call 443 [(.t 13)], none, false, false, []⟩,
 ⟨some 15, .not (.t 14), none, false, false, []⟩])
 (.cond (.t 15)
 (.seq
 (.reg [⟨some 6, .mv (.c (.v (.bool false))), none, false, false, []⟩])
 (.norm [(6, .k)] .ret)
 )
 .skip
 )
 )
 (.seq
 (.seq
 (.reg [⟨some 16, .mv (.t 0), none, false, false, []⟩,
 ⟨some 17, .call 444 [(.t 16)], none, false, false, []⟩])
 (.cond (.t 17)
 (.seq
 (.reg [⟨some 6, .mv (.c (.v (.bool true))), none, false, false, []⟩])
 (.norm [(6, .k)] .ret)
 )
 .skip
 )
 )
 (.seq
 (.seq
 (.reg [⟨some 19, .mv (.t 0), none, false, false, []⟩,
 ⟨some 20, .call 438 [(.t 19)], none, false, false, []⟩,
 ⟨some 18, .mv (.t 20), none, false, false, []⟩,
 ⟨some 21, .ext (.t 18) 0, none, false, false, []⟩,
 ⟨some 22, .ext (.t 18) 1, none, false, false, []⟩,
 ⟨some 7, .mv (.t 21), none, false, false, []⟩,
 ⟨some 8, .mv (.t 22), none, false, false, []⟩])
 (.seq
 (.reg [⟨some 23, .mv (.t 2), none, false, false, []⟩,
 ⟨some 24, .mv (.t 8), none, false, false, []⟩,
 ⟨some 25, .bin .add (.t 23) (.t 24), none, false, false, []⟩,
 ⟨some 26, .mv (.t 1), none, false, false, []⟩,
 ⟨some 27, .nilc (.t 26), none, false, false, []⟩,
 ⟨some 28, .fad 1 (.t 27), none, false, false, []⟩,
 ⟨some 29, .load false 1 (.t 28), none, false, false, []⟩,
 ⟨some 30, .bin .geq (.t 25) (.t 29), none, false, false, []⟩])
 (.cond (.t 30)
 (.seq
 (.reg [⟨some 6, .mv (.c (.v (.bool true))), none, false, false, []⟩])
 (.norm [(6, .k)] .ret)
 )
 .skip
 )
 )
 )
 (.seq
 (.reg [⟨some 31, .mv (.t 0), none, false, false, []⟩,
 ⟨some 32, .call 445 [(.t 31)], none, false, false, []⟩,
 ⟨some 9, .mv (.t 32), none, false, false, []⟩])
 (.seq
 (.seq
 (.reg [⟨some 33, .mv (.t 9), none, false, false, []⟩,
 ⟨some 34, .bin .lss (.t 33) (.c (.v (.int .i64 0))), none, false, false, []⟩])
 (.cond (.t 34)
 (.seq
 (.reg [⟨some 35, .mv (.t 1), none, false, false, []⟩,
 ⟨some 36, .mv (.t 1), none, false, false, []⟩,
 ⟨some 37, .mv (.t 2), none, false, false, []⟩,
 ⟨some 38, .nilc (.t 35), none, false, false, []⟩,
 ⟨some 39, .fad 0 (.t 38), none, false, false, []⟩,
 ⟨none, .store 1 (.t 39) (.c .emp), none, false, false, []⟩,
 ⟨some 40, .nilc (.t 36), none, false, false, []⟩,
 ⟨some 41, .fad 1 (.t 40), none, false, false, []⟩,
 ⟨none, .store 1 (.t 41) (.t 37), none, false, false, []⟩])
 (.seq
 (.seq
 (.reg [⟨some 42, .mv (.t 0), none, false, false, []⟩,
 ⟨some 43, .nilc (.t 42), none, false, false, []⟩,
 ⟨some 44, .fad 2 (.t 43), none, false, false, []⟩,
 ⟨some 45, .load false 1 (.t 44), none, false, false, []⟩,
 ⟨some 46, .len (.t 45), none, false, false, []⟩,
 ⟨some 47, .mv (.c (.v (.int .i64 0))), none, false, false, []⟩])
 (.blk 0
 (.loop x430a1 x430b1)
 )
 )
 (.seq
 (.reg [⟨some 6, .mv (.c (.v (.bool true))), none, false, false, []⟩])
 (.norm [(6, .k)] .ret)
 )
 )
 )
 .skip
 )
 )
 (.seq
 (.reg [⟨some 65, .mv (.t 0), none, false, false, []⟩,
 ⟨some 66, .nilc (.t 65), none, false, false, []⟩,
 ⟨some 67, .fad 2 (.t 66), none, false, false, []⟩,
 ⟨some 68, .load false 1 (.t 67), none, false, false, []⟩,
 ⟨some 69, .mv (.t 9), none, false, false, []⟩,
 ⟨some 70, .iad 1 (.t 68) (.t 69), none, false, false, []⟩,
 ⟨none, .store 1 (.t 70) (.c (.v (.int .i64 1))), none, false, false, []⟩])
 (.seq
 (.reg [⟨some 71, .mv (.t 0), none, false, false, []⟩,
 ⟨some 72, .mv (.t 1), none, false, false, []⟩,
 ⟨some 73, .mv (.t 2), none, false, false, []⟩,
 ⟨some 74, .mv (.t 0), none, false, false, []⟩,
 ⟨some 75, .nilc (.t 74), none, false, false, []⟩,
 ⟨some 76, .fad 0 (.t 75), none, false, false, []⟩,
 ⟨some 77, .fad 0 (.t 76), none, false, false, []⟩,
 ⟨some 78, .load false 1 (.t 77), none, false, false, []⟩,
 ⟨some 79, .mv (.t 9), none, false, false, []⟩,
 ⟨some 80, .iad 1 (.t 78) (.t 79), none, false, false, []⟩,
 ⟨some 81, .load false 1 (.t 80), none, false, false, []⟩,
 ⟨some 82, .bin .add (.t 73) (.t 81), none, false, false, []⟩,
 ⟨some 83, .call 430 [(.t 71), (.t 72), (.t 82)], none, false, false, []⟩,
 ⟨some 12, .mv (.t 83), none, false, false, []⟩])
 (.seq
 (.reg [⟨some 84, .mv (.t 0), none, false, false, []⟩,
 ⟨some 85, .nilc (.t 84), none, false, false, []⟩,
 ⟨some 86, .fad 2 (.t 85), none, false, false, []⟩,
 ⟨some 87, .load false 1 (.t 86), none, false, false, []⟩,
 ⟨some 88, .mv (.t 9), none, false, false, []⟩,
 ⟨some 89, .iad 1 (.t 87) (.t 88), none, false, false, []⟩,
 ⟨none, .store 1 (.t 89) (.c (.v (.int .i64 2))), none, false, false, []⟩])
 (.seq
 (.reg [⟨some 90, .mv (.t 12), none, false, false, []⟩,
 ⟨some 91, .mv (.t 90), none, false, false, []⟩,
 ⟨some 92, .mv (.t 0), some (91, true), false, false, []⟩,
 ⟨some 93, .mv (.t 1), some (91, true), false, false, []⟩,
 ⟨some 94, .mv (.t 2), some (91, true), false, false, []⟩,
 ⟨some 95, .call 430 [(.t 92), (.t 93), (.t 94)], some (91, true), false, false, []⟩,
 ⟨some 96, .pick (.t 91) (.t 95) (.c (.v (.bool false))), none, false, false, []⟩,
 ⟨some 12, .mv (.t 96), none, false, false, []⟩])
 (.seq
 (.reg [⟨some 97, .mv (.t 0), none, false, false, []⟩,
 ⟨some 98, .nilc (.t 97), none, false, false, []⟩,
 ⟨some 99, .fad 2 (.t 98), none, false, false, []⟩,
 ⟨some 100, .load false 1 (.t 99), none, false, false, []⟩,
 ⟨some 101, .mv (.t 9), none, false, false, []⟩,
 ⟨some 102, .iad 1 (.t 100) (.t 101), none, false, false, []⟩,
 ⟨none, .store 1 (.t 102) (.c (.v (.int .i64 0))), none, false, false, []⟩])
 (.seq
 (.reg [⟨some 103, .mv (.t 12), none, false, false, []⟩,
 ⟨some 6, .mv (.t 103), none, false, false, []⟩])
 (.norm [(6, .k)] .ret)
 )
 )
 )
 )
 )
 )
 )
 )
 )
 )
 )
 )
def f430 : XFn := ⟨false, 104, [.t 6], .k, x430⟩
/-! 431 dross/drossref39.meets (pf true): 2 parameters, 0 captured; names [0=a, 1=b, 2=a, 3=b, 5=i] -/
/-- alive: 0 a; 1 b; 5 i -/
def x431a1 : List (Nat × Nk) := [(0, .co (.sl 1 [])), (1, .co (.sl 1 [])), (5, .k)]
theorem x431a1n (s : XSt) : norm x431a1 s = norm [(0, .co (.sl 1 [])), (1, .co (.sl 1 [])), (5, .k)] s := rfl
def x431b1 : XCode :=
 (.seq
 (.seq
 (.reg [⟨some 6, .mv (.t 5), none, false, false, []⟩,
 ⟨some 7, .mv (.t 0), none, false, false, []⟩,
 ⟨some 8, .len (.t 7), none, false, false, []⟩,
 ⟨some 9, .bin .lss (.t 6) (.t 8), none, false, false, []⟩])
 (.cond (.t 9)
 .skip
 (.norm [] (.exit 0))
 )
 )
 (.seq
 (.blk 1
 (.seq
 (.reg [⟨some 12, .mv (.t 1), none, false, false, []⟩,
 ⟨some 13, .mv (.t 0), none, false, false, []⟩,
 ⟨some 14, .mv (.t 5), none, false, false, []⟩,
 ⟨some 15, .iad 1 (.t 13) (.t 14), none, false, false, []⟩,
 ⟨some 16, .load false 1 (.t 15), none, false, false, []⟩,
 ⟨some 17, .call 428 [(.t 12), (.t 16)], none, false, false, [(.sl 1 []), .k]⟩])
 (.cond (.t 17)
 (.seq
 (.reg [⟨some 4, .mv (.c (.v (.bool true))), none, false, false, []⟩])
 (.norm [(4, .fz .k)] .ret)
 )
 .skip
 )
 )
 )
 (.reg [⟨some 10, .mv (.t 5), none, false, false, []⟩,
 ⟨some 11, .bin .add (.t 10) (.c (.v (.int .i64 1))), none, false, false, []⟩,
 ⟨some 5, .mv (.t 11), none, false, false, []⟩])
 )
 )

def x431 : XCode :=
 (.seq
 (.reg [⟨some 4, .mv (.c (.v (.bool false))), none, false, false, []⟩])
 (.seq
 (.seq
 (.reg [⟨some 5, .mv (.c (.v (.int .i64 0))), none, false, false, []⟩])
 (.blk 0
 (.loop x431a1 x431b1)
 )
 )
 (.seq
 (.reg [⟨some 4, .mv (.c (.v (.bool false))), none, false, false, []⟩])
 (.norm [(4, .fz .k)] .ret)
 )
 )
 )
def f431 : XFn := ⟨true, 18, [.t 4], .k, x431⟩
/-! 432 (*dross/hitset.search).check (pf false): 3 parameters, 0 captured; names [0=s, 1=proof, 2=bound, 3=s, 4=proof, 5=bound, 8=x, 9=rest, 10=ok] -/
def x432 : XCode :=
 (.seq
 (.reg [⟨some 6, .mv (.c .emp), none, false, false, []⟩,
 ⟨some 7, .mv (.c (.v (.bool false))), none, false, false, []⟩])
 (.seq
 (.seq
 (.reg [⟨some 11, .mv (.t 1), none, false, false, []⟩,
 ⟨some 12, .len (.t 11), none, false, false, []⟩,
 ⟨some 13, .bin .eql (.t 12) (.c (.v (.int .i64 0))), none, false, false, []⟩])
 (.cond (.t 13)
 (.seq
 (.reg [⟨some 6, .mv (.c .emp), none, false, false, []⟩,
 ⟨some 7, .mv (.c (.v (.bool false))), none, false, false, []⟩])
 (.norm [(6, .k), (7, .k)] .ret)
 )
 .skip
 )
 )
 (.seq
 (.reg [⟨some 14, .mv (.t 1), none, false, false, []⟩,
 ⟨some 15, .iad 2 (.t 14) (.c (.v (.int .i64 0))), none, true, false, []⟩,
 ⟨some 16, .load true 2 (.t 15), none, true, false, []⟩,
 ⟨some 17, .mv (.t 1), none, false, false, []⟩,
 ⟨some 18, .slcR 2 (.t 17) (some (.c (.v (.int .i64 1)))) none, none, false, false, []⟩,
 ⟨some 8, .alloc [(.int .i64 0), (.slice none 0 0)], none, false, false, []⟩,
 ⟨none, .store 2 (.t 8) (.t 16), none, false, false, []⟩,
 ⟨some 9, .mv (.t 18), none, false, false, []⟩])
 (.seq
 (.blk 0
 (.seq
 (.reg [⟨some 20, .fad 0 (.t 8), none, false, false, []⟩,
 ⟨some 21, .load false 1 (.t 20), none, false, false, []⟩,
 ⟨some 22, .bin .eql (.t 21) (.c (.v (.int .i64 (-1)))), none, false, false, []⟩,
 ⟨some 23, .mv (.t 22), none, false, false, []⟩,
 ⟨some 24, .fad 1 (.t 8), some (23, true), false, false, []⟩,
 ⟨some 25, .load false 1 (.t 24), some (23, true), false, false, []⟩,
 ⟨some 26, .len (.t 25), some (23, true), false, false, []⟩,
 ⟨some 27, .bin .eql (.t 26) (.c (.v (.int .i64 0))), some (23, true), false, false, []⟩,
 ⟨some 28, .pick (.t 23) (.t 27) (.c (.v (.bool false))), none, false, false, []⟩,
 ⟨some 19, .mv (.t 28), none, false, false, []⟩])
 (.cond (.t 19)
 (.seq
 (.reg [⟨some 29, .mv (.t 9), none, false, false, []⟩,
 ⟨some 30, .mv (.t 2), none, false, false, []⟩,
 ⟨some 31, .bin .leq (.t 30) (.c (.v (.int .i64 0))), none, false, false, []⟩,
 ⟨some 32, .mv (.t 31), none, false, false, []⟩,
 ⟨some 33, .mv (.t 0), some (32, false), false, false, []⟩,
 ⟨some 34, .call 444 [(.t 33)], some (32, false), false, false, []⟩,
 ⟨some 35, .pick (.t 32) (.c (.v (.bool true))) (.t 34), none, false, false, []⟩,
 ⟨some 6, .mv (.t 29), none, false, false, []⟩,
 ⟨some 7, .mv (.t 35), none, false, false, []⟩])
 (.norm [(6, .k), (7, .k)] .ret)
 )
 (.seq
 (.reg [⟨some 37, .fad 0 (.t 8), none, false, false, []⟩,
 ⟨some 38, .load false 1 (.t 37), none, false, false, []⟩,
 ⟨some 39, .bin .eql (.t 38) (.c (.v (.int .i64 (-1)))), none, false, false, []⟩,
 ⟨some 36, .mv (.t 39), none, false, false, []⟩])
 (.cond (.t 36)
 (.seq
 (.reg [⟨some 40, .mv (.t 9), none, false, false, []⟩,
 ⟨some 41, .mv (.t 0), none, false, false, []⟩,
 ⟨some 42, .fad 1 (.t 8), none, false, false, []⟩,
 ⟨some 43, .load false 1 (.t 42), none, false, false, []⟩,
 ⟨some 44, .mv (.t 2), none, false, false, []⟩,
 ⟨some 45, .call 446 [(.t 41), (.t 43), (.t 44)], none, false, false, [.k, (.sl 2 []), .k]⟩,
 ⟨some 6, .mv (.t 40), none, false, false, []⟩,
 ⟨some 7, .mv (.t 45), none, false, false, []⟩])
 (.norm [(6, .k), (7, .k)] .ret)
 )
 (.seq
 (.reg [⟨some 47, .fad 0 (.t 8), none, false, false, []⟩,
 ⟨some 48, .load false 1 (.t 47), none, false, false, []⟩,
 ⟨some 49, .bin .lss (.t 48) (.c (.v (.int .i64 0))), none, false, false, []⟩,
 ⟨some 50, .mv (.t 49), none, false, false, []⟩,
 ⟨some 51, .fad 0 (.t 8), some (50, false), false, false, []⟩,
 ⟨some 52, .load false 1 (.t 51), some (50, false), false, false, []⟩,
 ⟨some 53, .mv (.t 0), some (50, false), false, false, []⟩,
 ⟨some 54, .nilc (.t 53), some (50, false), false, false, []⟩,
 ⟨some 55, .fad 2 (.t 54), some (50, false), false, false, []⟩,
 ⟨some 56, .load false 1 (.t 55), some (50, false), false, false, []⟩,
 ⟨some 57, .len (.t 56), some (50, false), false, false, []⟩,
 ⟨some 58, .bin .geq (.t 52) (.t 57), some (50, false), false, false, []⟩,
 ⟨some 59, .pick (.t 50) (.c (.v (.bool true))) (.t 58), none, false, false, []⟩,
 ⟨some 60, .mv (.t 59), none, false, false, []⟩,
 ⟨some 61, .fad 1 (.t 8), some (60, false), false, false, []⟩,
 ⟨some 62, .load false 1 (.t 61), some (60, false), false, false, []⟩,
 ⟨some 63, .len (.t 62), some (60, false), false, false, []⟩,
 ⟨some 64, .bin .gtr (.t 63) (.c (.v (.int .i64 0))), some (60, false), false, false, []⟩,
 ⟨some 65, .pick (.t 60) (.c (.v (.bool true))) (.t 64), none, false, false, []⟩,
 ⟨some 66, .mv (.t 65), none, false, false, []⟩,
 ⟨some 67, .mv (.t 0), some (66, false), false, false, []⟩,
 ⟨some 68, .nilc (.t 67), some (66, false), false, false, []⟩,
 ⟨some 69, .fad 2 (.t 68), some (66, false), false, false, []⟩,
 ⟨some 70, .load false 1 (.t 69), some (66, false), false, false, []⟩,
 ⟨some 71, .fad 0 (.t 8), some (66, false), false, false, []⟩,
 ⟨some 72, .load false 1 (.t 71), some (66, false), false, false, []⟩,
 ⟨some 73, .iad 1 (.t 70) (.t 72), some (66, false), false, false, []⟩,
 ⟨some 74, .load false 1 (.t 73), some (66, false), false, false, []⟩,
 ⟨some 75, .bin .neq (.t 74) (.c (.v (.int .i64 0))), some (66, false), false, false, []⟩,
 ⟨some 76, .pick (.t 66) (.c (.v (.bool true))) (.t 75), none, false, false, []⟩,
 ⟨some 46, .mv (.t 76), none, false, false, []⟩])
 (.cond (.t 46)
 (.seq
 (.reg [⟨some 6, .mv (.c .emp), none, false, false, []⟩,
 ⟨some 7, .mv (.c (.v (.bool false))), none, false, false, []⟩])
 (.norm [(6, .k), (7, .k)] .ret)
 )
 .skip
 )
 )
 )
 )
 )
 )
 )
 (.seq
 (.reg [⟨some 77, .mv (.t 0), none, false, false, []⟩,
 ⟨some 78, .nilc (.t 77), none, false, false, []⟩,
 ⟨some 79, .fad 2 (.t 78), none, false, false, []⟩,
 ⟨some 80, .load false 1 (.t 79), none, false, false, []⟩,
 ⟨some 81, .fad 0 (.t 8), none, false, false, []⟩,
 ⟨some 82, .load false 1 (.t 81), none, false, false, []⟩,
 ⟨some 83, .iad 1 (.t 80) (.t 82), none, false, false, []⟩,
 ⟨none, .store 1 (.t 83) (.c (.v (.int .i64 1))), none, false, false, []⟩])
 (.seq
 (.reg [⟨some 85, .mv (.t 0), none, false, false, []⟩,
 ⟨some 86, .mv (.t 9), none, false, false, []⟩,
 ⟨some 87, .mv (.t 2), none, false, false, []⟩,
 ⟨some 88, .mv (.t 0), none, false, false, []⟩,
 ⟨some 89, .nilc (.t 88), none, false, false, []⟩,
 ⟨some 90, .fad 0 (.t 89), none, false, false, []⟩,
 ⟨some 91, .fad 0 (.t 90), none, false, false, []⟩,
 ⟨some 92, .load false 1 (.t 91), none, false, false, []⟩,
 ⟨some 93, .fad 0 (.t 8), none, false, false, []⟩,
 ⟨some 94, .load false 1 (.t 93), none, false, false, []⟩,
 ⟨some 95, .iad 1 (.t 92) (.t 94), none, false, false, []⟩,
 ⟨some 96, .load false 1 (.t 95), none, false, false, []⟩,
 ⟨some 97, .bin .sub (.t 87) (.t 96), none, false, false, []⟩,
 ⟨some 98, .call 432 [(.t 85), (.t 86), (.t 97)], none, false, false, [.k, (.sl 2 [.k, (.sl 2 [])]), .k]⟩,
 ⟨some 84, .mv (.t 98), none, false, false, []⟩,
 ⟨some 99, .ext (.t 84) 0, none, false, false, []⟩,
 ⟨some 100, .ext (.t 84) 1, none, false, false, []⟩,
 ⟨some 9, .mv (.t 99), none, false, false, []⟩,
 ⟨some 10, .mv (.t 100), none, false, false, []⟩])
 (.seq
 (.seq
 (.reg [⟨some 101, .mv (.t 10), none, false, false, []⟩])
 (.cond (.t 101)
 (.seq
 (.reg [⟨some 102, .mv (.t 0), none, false, false, []⟩,
 ⟨some 103, .nilc (.t 102), none, false, false, []⟩,
 ⟨some 104, .fad 2 (.t 103), none, false, false, []⟩,
 ⟨some 105, .load false 1 (.t 104), none, false, false, []⟩,
 ⟨some 106, .fad 0 (.t 8), none, false, false, []⟩,
 ⟨some 107, .load false 1 (.t 106), none, false, false, []⟩,
 ⟨some 108, .iad 1 (.t 105) (.t 107), none, false, false, []⟩,
 ⟨none, .store 1 (.t 108) (.c (.v (.int .i64 2))), none, false, false, []⟩])
 (.reg [⟨some 110, .mv (.t 0), none, false, false, []⟩,
 ⟨some 111, .mv (.t 9), none, false, false, []⟩,
 ⟨some 112, .mv (.t 2), none, false, false, []⟩,
 ⟨some 113, .call 432 [(.t 110), (.t 111), (.t 112)], none, false, false, [.k, (.sl 2 [.k, (.sl 2 [])]), .k]⟩,
 ⟨some 109, .mv (.t 113), none, false, false, []⟩,
 ⟨some 114, .ext (.t 109) 0, none, false, false, []⟩,
 ⟨some 115, .ext (.t 109) 1, none, false, false, []⟩,
 ⟨some 9, .mv (.t 114), none, false, false, []⟩,
 ⟨some 10, .mv (.t 115), none, false, false, []⟩])
 )
 .skip
 )
 )
 (.seq
 (.reg [⟨some 116, .mv (.t 0), none, false, false, []⟩,
 ⟨some 117, .nilc (.t 116), none, false, false, []⟩,
 ⟨some 118, .fad 2 (.t 117), none, false, false, []⟩,
 ⟨some 119, .load false 1 (.t 118), none, false, false, []⟩,
 ⟨some 120, .fad 0 (.t 8), none, false, false, []⟩,
 ⟨some 121, .load false 1 (.t 120), none, false, false, []⟩,
 ⟨some 122, .iad 1 (.t 119) (.t 121), none, false, false, []⟩,
 ⟨none, .store 1 (.t 122) (.c (.v (.int .i64 0))), none, false, false, []⟩])
 (.seq
 (.reg [⟨some 123, .mv (.t 9), none, false, false, []⟩,
 ⟨some 124, .mv (.t 10), none, false, false, []⟩,
 ⟨some 6, .mv (.t 123), none, false, false, []⟩,
 ⟨some 7, .mv (.t 124), none, false, false, []⟩])
 (.norm [(6, .k), (7, .k)] .ret)
 )
 )
 )
 )
 )
 )
 )
 )
 )
def f432 : XFn := ⟨false, 125, [.t 6, .t 7], (.ag [(.sl 2 [.k, (.sl 2 [])]), .k]), x432⟩
/-! 433 dross/drossref39.part (pf true): 3 parameters, 0 captured; names [0=in, 1=s, 2=l, 3=in, 4=s, 5=l, 7=v, 8=a, 9=b] -/
def x433 : XCode :=
 (.seq
 (.reg [⟨some 3, .box (.t 0), none, false, false, []⟩,
 ⟨some 4, .box (.t 1), none, false, false, []⟩,
 ⟨some 6, .mv (.c (.v (.int .i64 0))), none, false, false, []⟩])
 (.seq
 (.seq
 (.reg [⟨some 10, .mv (.t 2), none, false, false, []⟩,
 ⟨some 11, .len (.t 10), none, false, false, []⟩,
 ⟨some 12, .bin .eql (.t 11) (.c (.v (.int .i64 0))), none, false, false, []⟩])
 (.cond (.t 12)
 (.seq
 (.reg [⟨some 6, .mv (.c (.v (.int .i64 (-1)))), none, false, false, []⟩])
 (.norm [(6, .fz .k)] .ret)
 )
 .skip
 )
 )
 (.seq
 (.seq
 (.reg [⟨some 13, .mv (.t 2), none, false, false, []⟩,
 ⟨some 14, .iad 2 (.t 13) (.c (.v (.int .i64 0))), none, false, false, []⟩,
 ⟨some 15, .fad 0 (.t 14), none, false, false, []⟩,
 ⟨some 16, .load false 1 (.t 15), none, false, false, []⟩,
 ⟨some 17, .bin .eql (.t 16) (.c (.v (.int .i64 (-1)))), none, false, false, []⟩])
 (.cond (.t 17)
 (.seq
 (.seq
 (.reg [⟨some 18, .mv (.t 2), none, false, false, []⟩,
 ⟨some 19, .iad 2 (.t 18) (.c (.v (.int .i64 0))), none, false, false, []⟩,
 ⟨some 20, .fad 1 (.t 19), none, false, false, []⟩,
 ⟨some 21, .load false 1 (.t 20), none, false, false, []⟩,
 ⟨some 22, .len (.t 21), none, false, false, []⟩,
 ⟨some 23, .bin .eql (.t 22) (.c (.v (.int .i64 0))), none, false, false, []⟩,
 ⟨some 24, .mv (.t 23), none, false, false, []⟩,
 ⟨some 25, .fad 2 (.t 4), some (24, true), false, false, []⟩,
 ⟨some 26, .load false 1 (.t 25), some (24, true), false, false, []⟩,
 ⟨some 27, .bin .leq (.t 26) (.c (.v (.int .i64 0))), some (24, true), false, false, []⟩,
 ⟨some 28, .mv (.t 27), some (24, true), false, false, []⟩,
 ⟨some 29, .load true 2 (.t 3), some (28, false), false, false, []⟩,
 ⟨some 30, .load true 3 (.t 4), some (28, false), false, false, []⟩,
 ⟨some 31, .call 447 [(.t 29), (.t 30)], some (28, false), false, false, [(.ag [(.sl 1 []), (.sl 1 [(.sl 1 [])])]), (.ag [(.sl 1 []), (.sl 1 []), .k])]⟩,
 ⟨some 32, .pick (.t 28) (.c (.v (.bool true))) (.t 31), some (24, true), false, false, []⟩,
 ⟨some 33, .pick (.t 24) (.t 32) (.c (.v (.bool false))), none, false, false, []⟩,
 ⟨some 34, .mv (.t 33), none, false, false, []⟩,
 ⟨some 35, .mv (.t 2), some (34, false), false, false, []⟩,
 ⟨some 36, .iad 2 (.t 35) (.c (.v (.int .i64 0))), some (34, false), false, false, []⟩,
 ⟨some 37, .fad 1 (.t 36), some (34, false), false, false, []⟩,
 ⟨some 38, .load false 1 (.t 37), some (34, false), false, false, []⟩,
 ⟨some 39, .len (.t 38), some (34, false), false, false, []⟩,
 ⟨some 40, .bin .gtr (.t 39) (.c (.v (.int .i64 0))), some (34, false), false, false, []⟩,
 ⟨some 41, .mv (.t 40), some (34, false), false, false, []⟩,
 ⟨some 42, .load true 2 (.t 3), some (41, true), false, false, []⟩,
 ⟨some 43, .load true 3 (.t 4), some (41, true), false, false, []⟩,
 ⟨some 44, .mv (.t 2), some (41, true), false, false, []⟩,
 ⟨some 45, .iad 2 (.t 44) (.c (.v (.int .i64 0))), some (41, true), false, false, []⟩,
 ⟨some 46, .fad 1 (.t 45), some (41, true), false, false, []⟩,
 ⟨some 47, .load false 1 (.t 46), some (41, true), false, false, []⟩,
 ⟨some 48, .call 416 [(.t 42), (.t 43), (.t 47)], some (41, true), false, false, [(.ag [(.sl 1 []), (.sl 1 [(.sl 1 [])])]), (.ag [(.sl 1 []), (.sl 1 []), .k]), (.sl 2 [])]⟩,
 ⟨some 49, .pick (.t 41) (.t 48) (.c (.v (.bool false))), some (34, false), false, false, []⟩,
 ⟨some 50, .pick (.t 34) (.c (.v (.bool true))) (.t 49), none, false, false, []⟩])
 (.cond (.t 50)
 (.seq
 (.reg [⟨some 6, .mv (.c (.v (.int .i64 1))), none, false, false, []⟩])
 (.norm [(6, .fz .k)] .ret)
 )
 .skip
 )
 )
 (.seq
 (.reg [⟨some 6, .mv (.c (.v (.int .i64 (-1)))), none, false, false, []⟩])
 (.norm [(6, .fz .k)] .ret)
 )
 )
 .skip
 )
 )
 (.seq
 (.reg [⟨some 51, .mv (.t 2), none, false, false, []⟩,
 ⟨some 52, .iad 2 (.t 51) (.c (.v (.int .i64 0))), none, false, false, []⟩,
 ⟨some 53, .fad 0 (.t 52), none, false, false, []⟩,
 ⟨some 54, .load false 1 (.t 53), none, false, false, []⟩,
 ⟨some 7, .mv (.t 54), none, false, false, []⟩])
 (.seq
 (.seq
 (.reg [⟨some 55, .mv (.t 2), none, false, false, []⟩,
 ⟨some 56, .iad 2 (.t 55) (.c (.v (.int .i64 0))), none, false, false, []⟩,
 ⟨some 57, .fad 1 (.t 56), none, false, false, []⟩,
 ⟨some 58, .load false 1 (.t 57), none, false, false, []⟩,
 ⟨some 59, .len (.t 58), none, false, false, []⟩,
 ⟨some 60, .bin .gtr (.t 59) (.c (.v (.int .i64 0))), none, false, false, []⟩,
 ⟨some 61, .mv (.t 60), none, false, false, []⟩,
 ⟨some 62, .mv (.t 7), some (61, false), false, false, []⟩,
 ⟨some 63, .bin .lss (.t 62) (.c (.v (.int .i64 0))), some (61, false), false, false, []⟩,
 ⟨some 64, .pick (.t 61) (.c (.v (.bool true))) (.t 63), none, false, false, []⟩,
 ⟨some 65, .mv (.t 64), none, false, false, []⟩,
 ⟨some 66, .mv (.t 7), some (65, false), false, false, []⟩,
 ⟨some 67, .fad 0 (.t 3), some (65, false), false, false, []⟩,
 ⟨some 68, .load false 1 (.t 67), some (65, false), false, false, []⟩,
 ⟨some 69, .len (.t 68), some (65, false), false, false, []⟩,
 ⟨some 70, .bin .geq (.t 66) (.t 69), some (65, false), false, false, []⟩,
 ⟨some 71, .pick (.t 65) (.c (.v (.bool true))) (.t 70), none, false, false, []⟩,
 ⟨some 72, .mv (.t 71), none, false, false, []⟩,
 ⟨some 73, .fad 0 (.t 4), some (72, false), false, false, []⟩,
 ⟨some 74, .load false 1 (.t 73), some (72, false), false, false, []⟩,
 ⟨some 75, .mv (.t 7), some (72, false), false, false, []⟩,
 ⟨some 76, .call 428 [(.t 74), (.t 75)], some (72, false), false, false, [(.sl 1 []), .k]⟩,
 ⟨some 77, .pick (.t 72) (.c (.v (.bool true))) (.t 76), none, false, false, []⟩,
 ⟨some 78, .mv (.t 77), none, false, false, []⟩,
 ⟨some 79, .fad 1 (.t 4), some (78, false), false, false, []⟩,
 ⟨some 80, .load false 1 (.t 79), some (78, false), false, false, []⟩,
 ⟨some 81, .mv (.t 7), some (78, false), false, false, []⟩,
 ⟨some 82, .call 428 [(.t 80), (.t 81)], some (78, false), false, false, [(.sl 1 []), .k]⟩,
 ⟨some 83, .pick (.t 78) (.c (.v (.bool true))) (.t 82), none, false, false, []⟩])
 (.cond (.t 83)
 (.seq
 (.reg [⟨some 6, .mv (.c (.v (.int .i64 (-1)))), none, false, false, []⟩])
 (.norm [(6, .fz .k)] .ret)
 )
 .skip
 )
 )
 (.seq
 (.reg [⟨some 84, .load true 2 (.t 3), none, true, false, []⟩,
 ⟨some 85, .bsl 1 [(.int .i64 0)] 0 [], none, false, false, []⟩,
 ⟨some 86, .fad 0 (.t 4), none, false, false, []⟩,
 ⟨some 87, .load false 1 (.t 86), none, false, false, []⟩,
 ⟨some 88, .app 1 (.t 85) (.t 87), none, false, true, []⟩,
 ⟨some 89, .mv (.t 7), none, false, false, []⟩,
 ⟨some 90, .bsl 1 [(.int .i64 0)] 1 [(0, (.t 89))], none, false, false, []⟩,
 ⟨some 91, .app 1 (.t 88) (.t 90), none, false, true, []⟩,
 ⟨some 92, .fad 1 (.t 4), none, false, false, []⟩,
 ⟨some 93, .load false 1 (.t 92), none, true, false, []⟩,
 ⟨some 94, .fad 2 (.t 4), none, false, false, []⟩,
 ⟨some 95, .load false 1 (.t 94), none, true, false, []⟩,
 ⟨some 96, .fad 0 (.t 3), none, false, false, []⟩,
 ⟨some 97, .load false 1 (.t 96), none, true, false, []⟩,
 ⟨some 98, .mv (.t 7), none, false, false, []⟩,
 ⟨some 99, .iad 1 (.t 97) (.t 98), none, true, false, []⟩,
 ⟨some 100, .load false 1 (.t 99), none, true, false, []⟩,
 ⟨some 101, .bin .sub (.t 95) (.t 100), none, false, false, []⟩,
 ⟨some 102, .build [(.slice none 0 0), (.slice none 0 0), (.int .i64 0)] [(0, 1, (.t 91)), (1, 1, (.t 93)), (2, 1, (.t 101))], none, false, false, []⟩,
 ⟨some 103, .mv (.t 2), none, false, false, []⟩,
 ⟨some 104, .slcR 2 (.t 103) (some (.c (.v (.int .i64 1)))) none, none, false, false, []⟩,
 ⟨some 105, .call 433 [(.t 84), (.t 102), (.t 104)], none, false, false, [(.ag [(.sl 1 []), (.sl 1 [(.sl 1 [])])]), (.ag [(.sl 1 []), (.sl 1 []), .k]), (.sl 2 [.k, (.sl 2 [])])]⟩,
 ⟨some 8, .mv (.t 105), none, false, false, []⟩])
 (.seq
 (.seq
 (.reg [⟨some 106, .mv (.t 8), none, false, false, []⟩,
 ⟨some 107, .bin .lss (.t 106) (.c (.v (.int .i64 0))), none, false, false, []⟩])
 (.cond (.t 107)
 (.seq
 (.reg [⟨some 6, .mv (.c (.v (.int .i64 (-1)))), none, false, false, []⟩])
 (.norm [(6, .fz .k)] .ret)
 )
 .skip
 )
 )
 (.seq
 (.reg [⟨some 108, .load true 2 (.t 3), none, true, false, []⟩,
 ⟨some 109, .fad 0 (.t 4), none, false, false, []⟩,
 ⟨some 110, .load false 1 (.t 109), none, true, false, []⟩,
 ⟨some 111, .bsl 1 [(.int .i64 0)] 0 [], none, false, false, []⟩,
 ⟨some 112, .fad 1 (.t 4), none, false, false, []⟩,
 ⟨some 113, .load false 1 (.t 112), none, false, false, []⟩,
 ⟨some 114, .app 1 (.t 111) (.t 113), none, false, true, []⟩,
 ⟨some 115, .mv (.t 7), none, false, false, []⟩,
 ⟨some 116, .bsl 1 [(.int .i64 0)] 1 [(0, (.t 115))], none, false, false, []⟩,
 ⟨some 117, .app 1 (.t 114) (.t 116), none, false, true, []⟩,
 ⟨some 118, .fad 2 (.t 4), none, false, false, []⟩,
 ⟨some 119, .load false 1 (.t 118), none, true, false, []⟩,
 ⟨some 120, .build [(.slice none 0 0), (.slice none 0 0), (.int .i64 0)] [(0, 1, (.t 110)), (1, 1, (.t 117)), (2, 1, (.t 119))], none, false, false, []⟩,
 ⟨some 121, .mv (.t 2), none, false, false, []⟩,
 ⟨some 122, .mv (.t 8), none, false, false, []⟩,
 ⟨some 123, .bin .add (.c (.v (.int .i64 1))) (.t 122), none, false, false, []⟩,
 ⟨some 124, .slcR 2 (.t 121) (some (.t 123)) none, none, false, false, []⟩,
 ⟨some 125, .call 433 [(.t 108), (.t 120), (.t 124)], none, false, false, [(.ag [(.sl 1 []), (.sl 1 [(.sl 1 [])])]), (.ag [(.sl 1 []), (.sl 1 []), .k]), (.sl 2 [.k, (.sl 2 [])])]⟩,
 ⟨some 9, .mv (.t 125), none, false, false, []⟩])
 (.seq
 (.seq
 (.reg [⟨some 126, .mv (.t 9), none, false, false, []⟩,
 ⟨some 127, .bin .lss (.t 126) (.c (.v (.int .i64 0))), none, false, false, []⟩])
 (.cond (.t 127)
 (.seq
 (.reg [⟨some 6, .mv (.c (.v (.int .i64 (-1)))), none, false, false, []⟩])
 (.norm [(6, .fz .k)] .ret)
 )
 .skip
 )
 )
 (.seq
 (.reg [⟨some 128, .mv (.t 8), none, false, false, []⟩,
 ⟨some 129, .bin .add (.c (.v (.int .i64 1))) (.t 128), none, false, false, []⟩,
 ⟨some 130, .mv (.t 9), none, false, false, []⟩,
 ⟨some 131, .bin .add (.t 129) (.t 130), none, false, false, []⟩,
 ⟨some 6, .mv (.t 131), none, false, false, []⟩])
 (.norm [(6, .fz .k)] .ret)
 )
 )
 )
 )
 )
 )
 )
 )
 )
 )
def f433 : XFn := ⟨true, 132, [.t 6], .k, x433⟩
/-! 434 slices.Contains[[]int,int] (pf true): 2 parameters, 0 captured; names [0=s, 1=v, 2=s, 3=v] -/
def x434 : XCode :=
 (.seq
 (.reg [⟨some 4, .mv (.c (.v (.bool false))), none, false, false, []⟩])
 (.seq
 (.reg [⟨some 5, .mv (.t 0), none, false, false, []⟩,
 ⟨some 6, .mv (.t 1), none, false, false, []⟩,
 ⟨some 7, .call 448 [(.t 5), (.t 6)], none, false, false, [(.sl 1 []), .k]⟩,
 ⟨some 8, .bin .geq (.t 7) (.c (.v (.int .i64 0))), none, false, false, []⟩,
 ⟨some 4, .mv (.t 8), none, false, false, []⟩])
 (.norm [(4, .fz .k)] .ret)
 )
 )
def f434 : XFn := ⟨true, 9, [.t 4], .k, x434⟩
/-! 435 slices.ContainsFunc[[][]int,[]int] (pf false): 2 parameters, 0 captured; names [0=s, 1=f, 2=s, 3=f] -/
def x435 : XCode :=
 (.seq
 (.reg [⟨some 4, .mv (.c (.v (.bool false))), none, false, false, []⟩])
 (.seq
 (.reg [⟨some 5, .mv (.t 0), none, false, false, []⟩,
 ⟨some 6, .mv (.t 1), none, false, false, []⟩,
 ⟨some 7, .call 449 [(.t 5), (.t 6)], none, false, false, [(.sl 1 [(.sl 1 [])]), .k]⟩,
 ⟨some 8, .bin .geq (.t 7) (.c (.v (.int .i64 0))), none, false, false, []⟩,
 ⟨some 4, .mv (.t 8), none, false, false, []⟩])
 (.norm [(4, .k)] .ret)
 )
 )
def f435 : XFn := ⟨false, 9, [.t 4], .k, x435⟩
/-! 436 dross/hitset.Hits$1 (pf false): 1 parameters, 1 captured; names [0=e, 2=e] -/
def x436 : XCode :=
 (.seq
 (.reg [⟨some 3, .mv (.c (.v (.bool false))), none, false, false, []⟩])
 (.seq
 (.reg [⟨some 4, .mv (.t 0), none, false, false, []⟩,
 ⟨some 5, .mkf 437 [(.t 1)], none, false, false, []⟩,
 ⟨some 6, .call 426 [(.t 4), (.t 5)], none, false, false, [(.sl 1 []), .k]⟩,
 ⟨some 7, .not (.t 6), none, false, false, []⟩,
 ⟨some 3, .mv (.t 7), none, false, false, []⟩])
 (.norm [(3, .k)] .ret)
 )
 )
def f436 : XFn := ⟨false, 8, [.t 3], .k, x436⟩
/-! 437 dross/hitset.Hits$1$1 (pf false): 1 parameters, 1 captured; names [0=v, 2=v] -/
def x437 : XCode :=
 (.seq
 (.reg [⟨some 3, .mv (.c (.v (.bool false))), none, false, false, []⟩])
 (.seq
 (.reg [⟨some 4, .load false 1 (.t 1), none, false, false, []⟩,
 ⟨some 5, .mv (.t 0), none, false, false, []⟩,
 ⟨some 6, .call 434 [(.t 4), (.t 5)], none, false, false, [(.sl 1 []), .k]⟩,
 ⟨some 3, .mv (.t 6), none, false, false, []⟩])
 (.norm [(3, .k)] .ret)
 )
 )
def f437 : XFn := ⟨false, 7, [.t 3], .k, x437⟩
/-! 438 (*dross/hitset.search).packing (pf false): 1 parameters, 0 captured; names [0=s, 1=s, 4=room, 5=out, 6=sum, 7=i, 8=e, 9=amount, 10=_, 11=v, 12=_, 13=v] -/
/-- alive: 0 s; 4 room; 5 out; 6 sum; 7 i; 8 e; 9 amount; 24 ; 25 ; 26 ; 34 ; 35 ; 36  -/
def x438a1 : List (Nat × Nk) := [(0, .k), (4, .co (.sl 1 [])), (5, .own 2 []), (6, .k), (7, .k), (8, .co (.sl 1 [])), (9, .k), (24, .co (.sl 1 [(.sl 1 [])])), (25, .k), (26, .k), (34, .co (.sl 1 [])), (35, .k), (36, .k)]
theorem x438a1n (s : XSt) : norm x438a1 s = norm [(0, .k), (4, .co (.sl 1 [])), (5, .own 2 []), (6, .k), (7, .k), (8, .co (.sl 1 [])), (9, .k), (24, .co (.sl 1 [(.sl 1 [])])), (25, .k), (26, .k), (34, .co (.sl 1 [])), (35, .k), (36, .k)] s := rfl
def x438b1 : XCode :=
 (.seq
 (.reg [⟨some 37, .bin .lss (.t 36) (.t 35), none, false, false, []⟩])
 (.seq
 (.cond (.t 37)
 .skip
 (.norm [(0, .k), (4, .co (.sl 1 [])), (5, .own 2 []), (6, .k), (7, .k), (8, .co (.sl 1 [])), (9, .k), (24, .co (.sl 1 [(.sl 1 [])])), (25, .k), (26, .k)] (.exit 2))
 )
 (.seq
 (.blk 3
 (.seq
 (.reg [⟨some 38, .iad 1 (.t 34) (.t 36), none, false, false, []⟩,
 ⟨some 39, .load false 1 (.t 38), none, false, false, []⟩,
 ⟨some 11, .mv (.t 39), none, false, false, []⟩])
 (.seq
 (.reg [⟨some 40, .mv (.t 0), none, false, false, []⟩,
 ⟨some 41, .nilc (.t 40), none, false, false, []⟩,
 ⟨some 42, .fad 2 (.t 41), none, false, false, []⟩,
 ⟨some 43, .load false 1 (.t 42), none, false, false, []⟩,
 ⟨some 44, .mv (.t 11), none, false, false, []⟩,
 ⟨some 45, .iad 1 (.t 43) (.t 44), none, false, false, []⟩,
 ⟨some 46, .load false 1 (.t 45), none, false, false, []⟩,
 ⟨some 47, .bin .eql (.t 46) (.c (.v (.int .i64 0))), none, false, false, []⟩])
 (.cond (.t 47)
 (.reg [⟨some 48, .mv (.t 9), none, false, false, []⟩,
 ⟨some 49, .mv (.t 4), none, false, false, []⟩,
 ⟨some 50, .mv (.t 11), none, false, false, []⟩,
 ⟨some 51, .iad 1 (.t 49) (.t 50), none, false, false, []⟩,
 ⟨some 52, .load false 1 (.t 51), none, false, false, []⟩,
 ⟨some 53, .pv (.mm false) [(.t 48), (.t 52)], none, false, false, []⟩,
 ⟨some 9, .mv (.t 53), none, false, false, []⟩])
 .skip
 )
 )
 )
 )
 (.reg [⟨some 54, .bin .add (.t 36) (.c (.v (.int .i64 1))), none, false, false, []⟩,
 ⟨some 36, .mv (.t 54), none, false, false, []⟩])
 )
 )
 )

/-- alive: 0 s; 4 room; 5 out; 6 sum; 7 i; 9 amount; 24 ; 25 ; 26 ; 57 ; 58 ; 59  -/
def x438a2 : List (Nat × Nk) := [(0, .k), (4, .co (.sl 1 [])), (5, .own 2 []), (6, .k), (7, .k), (9, .k), (24, .co (.sl 1 [(.sl 1 [])])), (25, .k), (26, .k), (57, .co (.sl 1 [])), (58, .k), (59, .k)]
theorem x438a2n (s : XSt) : norm x438a2 s = norm [(0, .k), (4, .co (.sl 1 [])), (5, .own 2 []), (6, .k), (7, .k), (9, .k), (24, .co (.sl 1 [(.sl 1 [])])), (25, .k), (26, .k), (57, .co (.sl 1 [])), (58, .k), (59, .k)] s := rfl
def x438b2 : XCode :=
 (.seq
 (.reg [⟨some 60, .bin .lss (.t 59) (.t 58), none, false, false, []⟩])
 (.seq
 (.cond (.t 60)
 .skip
 (.norm [(0, .k), (4, .co (.sl 1 [])), (5, .own 2 []), (6, .k), (7, .k), (9, .k), (24, .co (.sl 1 [(.sl 1 [])])), (25, .k), (26, .k)] (.exit 4))
 )
 (.seq
 (.blk 5
 (.seq
 (.reg [⟨some 61, .iad 1 (.t 57) (.t 59), none, false, false, []⟩,
 ⟨some 62, .load false 1 (.t 61), none, false, false, []⟩,
 ⟨some 13, .mv (.t 62), none, false, false, []⟩])
 (.reg [⟨some 63, .mv (.t 4), none, false, false, []⟩,
 ⟨some 64, .mv (.t 13), none, false, false, []⟩,
 ⟨some 65, .iad 1 (.t 63) (.t 64), none, false, false, []⟩,
 ⟨some 66, .load false 1 (.t 65), none, false, false, []⟩,
 ⟨some 67, .mv (.t 9), none, false, false, []⟩,
 ⟨some 68, .bin .sub (.t 66) (.t 67), none, false, false, []⟩,
 ⟨some 69, .iad 1 (.t 63) (.t 64), none, false, false, []⟩,
 ⟨none, .store 1 (.t 69) (.t 68), none, false, false, []⟩])
 )
 )
 (.reg [⟨some 70, .bin .add (.t 59) (.c (.v (.int .i64 1))), none, false, false, []⟩,
 ⟨some 59, .mv (.t 70), none, false, false, []⟩])
 )
 )
 )

/-- alive: 0 s; 4 room; 5 out; 6 sum; 24 ; 25 ; 26  -/
def x438a3 : List (Nat × Nk) := [(0, .k), (4, .co (.sl 1 [])), (5, .own 2 []), (6, .k), (24, .co (.sl 1 [(.sl 1 [])])), (25, .k), (26, .k)]
theorem x438a3n (s : XSt) : norm x438a3 s = norm [(0, .k), (4, .co (.sl 1 [])), (5, .own 2 []), (6, .k), (24, .co (.sl 1 [(.sl 1 [])])), (25, .k), (26, .k)] s := rfl
def x438b3 : XCode :=
 (.seq
 (.reg [⟨some 27, .bin .lss (.t 26) (.t 25), none, false, false, []⟩])
 (.seq
 (.cond (.t 27)
 .skip
 (.norm [(5, .own 2 []), (6, .k)] (.exit 0))
 )
 (.seq
 (.blk 1
 (.seq
 (.reg [⟨some 28, .mv (.t 26), none, false, false, []⟩,
 ⟨some 29, .iad 1 (.t 24) (.t 26), none, false, false, []⟩,
 ⟨some 30, .load false 1 (.t 29), none, false, false, []⟩,
 ⟨some 7, .mv (.t 28), none, false, false, []⟩,
 ⟨some 8, .mv (.t 30), none, false, false, []⟩])
 (.seq
 (.seq
 (.reg [⟨some 31, .mv (.t 0), none, false, false, []⟩,
 ⟨some 32, .mv (.t 8), none, false, false, []⟩,
 ⟨some 33, .call 450 [(.t 31), (.t 32), (.c (.v (.int .i64 1)))], none, false, false, [.k, (.sl 1 []), .k]⟩])
 (.cond (.t 33)
 (.norm [(0, .k), (4, .co (.sl 1 [])), (5, .own 2 []), (6, .k), (24, .co (.sl 1 [(.sl 1 [])])), (25, .k), (26, .k)] (.exit 1))
 .skip
 )
 )
 (.seq
 (.reg [⟨some 9, .mv (.c (.v (.int .i64 1000000))), none, false, false, []⟩])
 (.seq
 (.seq
 (.reg [⟨some 34, .mv (.t 8), none, false, false, []⟩,
 ⟨some 35, .len (.t 34), none, false, false, []⟩,
 ⟨some 36, .mv (.c (.v (.int .i64 0))), none, false, false, []⟩])
 (.blk 2
 (.loop x438a1 x438b1)
 )
 )
 (.seq
 (.seq
 (.reg [⟨some 55, .mv (.t 9), none, false, false, []⟩,
 ⟨some 56, .bin .eql (.t 55) (.c (.v (.int .i64 0))), none, false, false, []⟩])
 (.cond (.t 56)
 (.norm [(0, .k), (4, .co (.sl 1 [])), (5, .own 2 []), (6, .k), (24, .co (.sl 1 [(.sl 1 [])])), (25, .k), (26, .k)] (.exit 1))
 .skip
 )
 )
 (.seq
 (.seq
 (.reg [⟨some 57, .mv (.t 8), none, false, false, []⟩,
 ⟨some 58, .len (.t 57), none, false, false, []⟩,
 ⟨some 59, .mv (.c (.v (.int .i64 0))), none, false, false, []⟩])
 (.blk 4
 (.loop x438a2 x438b2)
 )
 )
 (.seq
 (.reg [⟨some 71, .mv (.t 5), none, false, false, []⟩,
 ⟨some 72, .mv (.t 7), none, false, false, []⟩,
 ⟨some 73, .mv (.t 9), none, false, false, []⟩,
 ⟨some 74, .build [(.int .i64 0), (.int .i64 0)] [(0, 1, (.t 72)), (1, 1, (.t 73))], none, false, false, []⟩,
 ⟨some 75, .bsl 2 [(.int .i64 0), (.int .i64 0)] 1 [(0, (.t 74))], none, false, false, []⟩,
 ⟨some 76, .app 2 (.t 71) (.t 75), none, false, false, []⟩,
 ⟨some 5, .mv (.t 76), none, false, false, []⟩])
 (.reg [⟨some 77, .mv (.t 6), none, false, false, []⟩,
 ⟨some 78, .mv (.t 9), none, false, false, []⟩,
 ⟨some 79, .bin .add (.t 77) (.t 78), none, false, false, []⟩,
 ⟨some 6, .mv (.t 79), none, false, false, []⟩])
 )
 )
 )
 )
 )
 )
 )
 )
 (.reg [⟨some 80, .bin .add (.t 26) (.c (.v (.int .i64 1))), none, false, false, []⟩,
 ⟨some 26, .mv (.t 80), none, false, false, []⟩])
 )
 )
 )

def x438 : XCode :=
 (.seq
 (.reg [⟨some 2, .mv (.c .emp), none, false, false, []⟩,
 ⟨some 3, .mv (.c (.v (.int .i64 0))), none, false, false, []⟩])
 (.seq
 (.reg [⟨some 14, .mv (.t 0), none, false, false, []⟩,
 ⟨some 15, .nilc (.t 14), none, false, false, []⟩,
 ⟨some 16, .fad 0 (.t 15), none, false, false, []⟩,
 ⟨some 17, .fad 0 (.t 16), none, false, false, []⟩,
 ⟨some 18, .load false 1 (.t 17), none, false, false, []⟩,
 ⟨some 19, .call 245 [(.t 18)], none, false, false, [(.sl 1 [])]⟩,
 ⟨some 4, .mv (.t 19), none, false, false, []⟩])
 (.seq
 (.reg [⟨some 5, .mv (.c .emp), none, false, false, []⟩])
 (.seq
 (.reg [⟨some 6, .mv (.c (.v (.int .i64 0))), none, false, false, []⟩])
 (.seq
 (.seq
 (.reg [⟨some 20, .mv (.t 0), none, false, false, []⟩,
 ⟨some 21, .nilc (.t 20), none, false, false, []⟩,
 ⟨some 22, .fad 0 (.t 21), none, false, false, []⟩,
 ⟨some 23, .fad 1 (.t 22), none, false, false, []⟩,
 ⟨some 24, .load false 1 (.t 23), none, false, false, []⟩,
 ⟨some 25, .len (.t 24), none, false, false, []⟩,
 ⟨some 26, .mv (.c (.v (.int .i64 0))), none, false, false, []⟩])
 (.blk 0
 (.loop x438a3 x438b3)
 )
 )
 (.seq
 (.reg [⟨some 81, .mv (.t 5), none, false, false, []⟩,
 ⟨some 82, .mv (.t 6), none, false, false, []⟩,
 ⟨some 2, .mv (.t 81), none, false, false, []⟩,
 ⟨some 3, .mv (.t 82), none, false, false, []⟩])
 (.norm [(2, .k), (3, .k)] .ret)
 )
 )
 )
 )
 )
 )
def f438 : XFn := ⟨false, 83, [.t 2, .t 3], (.ag [(.sl 2 []), .k]), x438⟩
/-! 439 (*dross/hitset.search).prove (pf false): 2 parameters, 0 captured; names [0=s, 1=bound, 2=s, 3=bound, 6=shares, 7=sum, 8=v, 9=a, 10=err, 11=b] -/
def x439 : XCode :=
 (.seq
 (.reg [⟨some 4, .mv (.c .emp), none, false, false, []⟩,
 ⟨some 5, .mv (.c (.v (.int .i64 0))), none, false, false, []⟩])
 (.seq
 (.seq
 (.reg [⟨some 12, .mv (.t 0), none, false, false, []⟩,
 ⟨some 13, .call 443 [(.t 12)], none, false, false, []⟩,
 ⟨some 14, .not (.t 13), none, false, false, []⟩])
 (.cond (.t 14)
 (.seq
 (.reg [⟨some 4, .mv (.c .emp), none, false, false, []⟩,
 ⟨some 5, .mv (.c (.v (.int .i64 13))), none, false, false, []⟩])
 (.norm [(4, .fz (.sl 2 [.k, (.sl 2 [])])), (5, .fz .k)] .ret)
 )
 .skip
 )
 )
 (.seq
 (.seq
 (.reg [⟨some 15, .mv (.t 1), none, false, false, []⟩,
 ⟨some 16, .bin .leq (.t 15) (.c (.v (.int .i64 0))), none, false, false, []⟩,
 ⟨some 17, .mv (.t 16), none, false, false, []⟩,
 ⟨some 18, .mv (.t 0), some (17, false), false, false, []⟩,
 ⟨some 19, .call 444 [(.t 18)], some (17, false), false, false, []⟩,
 ⟨some 20, .pick (.t 17) (.c (.v (.bool true))) (.t 19), none, false, false, []⟩])
 (.cond (.t 20)
 (.seq
 (.reg [⟨some 21, .build [(.int .i64 0), (.slice none 0 0)] [(0, 1, (.c (.v (.int .i64 (-1)))))], none, false, false, []⟩,
 ⟨some 22, .bsl 2 [(.int .i64 0), (.slice none 0 0)] 1 [(0, (.t 21))], none, false, false, []⟩,
 ⟨some 4, .mv (.t 22), none, false, false, []⟩,
 ⟨some 5, .mv (.c (.v (.int .i64 0))), none, false, false, []⟩])
 (.norm [(4, .fz (.sl 2 [.k, (.sl 2 [])])), (5, .fz .k)] .ret)
 )
 .skip
 )
 )
 (.seq
 (.seq
 (.reg [⟨some 24, .mv (.t 0), none, false, false, []⟩,
 ⟨some 25, .call 438 [(.t 24)], none, false, false, []⟩,
 ⟨some 23, .mv (.t 25), none, false, false, []⟩,
 ⟨some 26, .ext (.t 23) 0, none, false, false, []⟩,
 ⟨some 27, .ext (.t 23) 1, none, false, false, []⟩,
 ⟨some 6, .mv (.t 26), none, false, false, []⟩,
 ⟨some 7, .mv (.t 27), none, false, false, []⟩])
 (.seq
 (.reg [⟨some 28, .mv (.t 7), none, false, false, []⟩,
 ⟨some 29, .mv (.t 1), none, false, false, []⟩,
 ⟨some 30, .bin .geq (.t 28) (.t 29), none, false, false, []⟩])
 (.cond (.t 30)
 (.seq
 (.reg [⟨some 31, .mv (.t 6), none, false, false, []⟩,
 ⟨some 32, .build [(.int .i64 0), (.slice none 0 0)] [(0, 1, (.c (.v (.int .i64 (-1))))), (1, 1, (.t 31))], none, false, false, []⟩,
 ⟨some 33, .bsl 2 [(.int .i64 0), (.slice none 0 0)] 1 [(0, (.t 32))], none, false, false, []⟩,
 ⟨some 4, .mv (.t 33), none, false, false, []⟩,
 ⟨some 5, .mv (.c (.v (.int .i64 0))), none, false, false, []⟩])
 (.norm [(4, .fz (.sl 2 [.k, (.sl 2 [])])), (5, .fz .k)] .ret)
 )
 .skip
 )
 )
 )
 (.seq
 (.reg [⟨some 34, .mv (.t 0), none, false, false, []⟩,
 ⟨some 35, .call 445 [(.t 34)], none, false, false, []⟩,
 ⟨some 8, .mv (.t 35), none, false, false, []⟩])
 (.seq
 (.seq
 (.reg [⟨some 36, .mv (.t 8), none, false, false, []⟩,
 ⟨some 37, .bin .lss (.t 36) (.c (.v (.int .i64 0))), none, false, false, []⟩])
 (.cond (.t 37)
 (.seq
 (.reg [⟨some 4, .mv (.c .emp), none, false, false, []⟩,
 ⟨some 5, .mv (.c (.v (.int .i64 11))), none, false, false, []⟩])
 (.norm [(4, .fz (.sl 2 [.k, (.sl 2 [])])), (5, .fz .k)] .ret)
 )
 .skip
 )
 )
 (.seq
 (.reg [⟨some 38, .mv (.t 0), none, false, false, []⟩,
 ⟨some 39, .nilc (.t 38), none, false, false, []⟩,
 ⟨some 40, .fad 2 (.t 39), none, false, false, []⟩,
 ⟨some 41, .load false 1 (.t 40), none, false, false, []⟩,
 ⟨some 42, .mv (.t 8), none, false, false, []⟩,
 ⟨some 43, .iad 1 (.t 41) (.t 42), none, false, false, []⟩,
 ⟨none, .store 1 (.t 43) (.c (.v (.int .i64 1))), none, false, false, []⟩])
 (.seq
 (.reg [⟨some 45, .mv (.t 0), none, false, false, []⟩,
 ⟨some 46, .mv (.t 1), none, false, false, []⟩,
 ⟨some 47, .mv (.t 0), none, false, false, []⟩,
 ⟨some 48, .nilc (.t 47), none, false, false, []⟩,
 ⟨some 49, .fad 0 (.t 48), none, false, false, []⟩,
 ⟨some 50, .fad 0 (.t 49), none, false, false, []⟩,
 ⟨some 51, .load false 1 (.t 50), none, false, false, []⟩,
 ⟨some 52, .mv (.t 8), none, false, false, []⟩,
 ⟨some 53, .iad 1 (.t 51) (.t 52), none, false, false, []⟩,
 ⟨some 54, .load false 1 (.t 53), none, false, false, []⟩,
 ⟨some 55, .bin .sub (.t 46) (.t 54), none, false, false, []⟩,
 ⟨some 56, .call 439 [(.t 45), (.t 55)], none, false, false, []⟩,
 ⟨some 44, .mv (.t 56), none, false, false, []⟩,
 ⟨some 57, .ext (.t 44) 0, none, false, false, []⟩,
 ⟨some 58, .ext (.t 44) 1, none, false, false, []⟩,
 ⟨some 9, .mv (.t 57), none, false, false, []⟩,
 ⟨some 10, .mv (.t 58), none, false, false, []⟩])
 (.seq
 (.seq
 (.reg [⟨some 59, .mv (.t 10), none, false, false, []⟩,
 ⟨some 60, .bin .neq (.t 59) (.c (.v (.int .i64 0))), none, false, false, []⟩])
 (.cond (.t 60)
 (.seq
 (.reg [⟨some 61, .mv (.t 10), none, false, false, []⟩,
 ⟨some 4, .mv (.c .emp), none, false, false, []⟩,
 ⟨some 5, .mv (.t 61), none, false, false, []⟩])
 (.norm [(4, .fz (.sl 2 [.k, (.sl 2 [])])), (5, .fz .k)] .ret)
 )
 .skip
 )
 )
 (.seq
 (.reg [⟨some 62, .mv (.t 0), none, false, false, []⟩,
 ⟨some 63, .nilc (.t 62), none, false, false, []⟩,
 ⟨some 64, .fad 2 (.t 63), none, false, false, []⟩,
 ⟨some 65, .load false 1 (.t 64), none, false, false, []⟩,
 ⟨some 66, .mv (.t 8), none, false, false, []⟩,
 ⟨some 67, .iad 1 (.t 65) (.t 66), none, false, false, []⟩,
 ⟨none, .store 1 (.t 67) (.c (.v (.int .i64 2))), none, false, false, []⟩])
 (.seq
 (.reg [⟨some 69, .mv (.t 0), none, false, false, []⟩,
 ⟨some 70, .mv (.t 1), none, false, false, []⟩,
 ⟨some 71, .call 439 [(.t 69), (.t 70)], none, false, false, []⟩,
 ⟨some 68, .mv (.t 71), none, false, false, []⟩,
 ⟨some 72, .ext (.t 68) 0, none, false, false, []⟩,
 ⟨some 73, .ext (.t 68) 1, none, false, false, []⟩,
 ⟨some 11, .mv (.t 72), none, false, false, []⟩,
 ⟨some 10, .mv (.t 73), none, false, false, []⟩])
 (.seq
 (.seq
 (.reg [⟨some 74, .mv (.t 10), none, false, false, []⟩,
 ⟨some 75, .bin .neq (.t 74) (.c (.v (.int .i64 0))), none, false, false, []⟩])
 (.cond (.t 75)
 (.seq
 (.reg [⟨some 76, .mv (.t 10), none, false, false, []⟩,
 ⟨some 4, .mv (.c .emp), none, false, false, []⟩,
 ⟨some 5, .mv (.t 76), none, false, false, []⟩])
 (.norm [(4, .fz (.sl 2 [.k, (.sl 2 [])])), (5, .fz .k)] .ret)
 )
 .skip
 )
 )
 (.seq
 (.reg [⟨some 77, .mv (.t 0), none, false, false, []⟩,
 ⟨some 78, .nilc (.t 77), none, false, false, []⟩,
 ⟨some 79, .fad 2 (.t 78), none, false, false, []⟩,
 ⟨some 80, .load false 1 (.t 79), none, false, false, []⟩,
 ⟨some 81, .mv (.t 8), none, false, false, []⟩,
 ⟨some 82, .iad 1 (.t 80) (.t 81), none, false, false, []⟩,
 ⟨none, .store 1 (.t 82) (.c (.v (.int .i64 0))), none, false, false, []⟩])
 (.seq
 (.reg [⟨some 83, .mv (.t 8), none, false, false, []⟩,
 ⟨some 84, .build [(.int .i64 0), (.slice none 0 0)] [(0, 1, (.t 83))], none, false, false, []⟩,
 ⟨some 85, .bsl 2 [(.int .i64 0), (.slice none 0 0)] 1 [(0, (.t 84))], none, false, false, []⟩,
 ⟨some 86, .mv (.t 9), none, false, false, []⟩,
 ⟨some 87, .mv (.t 11), none, false, false, []⟩,
 ⟨some 88, .bsl 1 [(.slice none 0 0)] 3 [(0, (.t 85)), (1, (.t 86)), (2, (.t 87))], none, false, false, []⟩,
 ⟨some 89, .call 451 [(.t 88)], none, false, false, [(.sl 1 [(.sl 2 [.k, (.sl 2 [])])])]⟩,
 ⟨some 4, .mv (.t 89), none, false, false, []⟩,
 ⟨some 5, .mv (.c (.v (.int .i64 0))), none, false, false, []⟩])
 (.norm [(4, .fz (.sl 2 [.k, (.sl 2 [])])), (5, .fz .k)] .ret)
 )
 )
 )
 )
 )
 )
 )
 )
 )
 )
 )
 )
 )
 )
def f439 : XFn := ⟨false, 90, [.t 4, .t 5], (.ag [(.sl 2 [.k, (.sl 2 [])]), .k]), x439⟩
/-! 441 slices.stableCmpFunc[int] (pf false): 3 parameters, 0 captured; names [0=data, 1=n, 2=cmp, 3=data, 4=n, 5=cmp, 6=blockSize, 7=a, 8=b, 9=m] -/
/-- alive: 0 data; 1 n; 2 cmp; 6 blockSize; 7 a; 8 b -/
def x441a1 : List (Nat × Nk) := [(0, .co (.sl 1 [])), (1, .k), (2, .k), (6, .k), (7, .k), (8, .k)]
theorem x441a1n (s : XSt) : norm x441a1 s = norm [(0, .co (.sl 1 [])), (1, .k), (2, .k), (6, .k), (7, .k), (8, .k)] s := rfl
def x441b1 : XCode :=
 (.seq
 (.seq
 (.reg [⟨some 11, .mv (.t 8), none, false, false, []⟩,
 ⟨some 12, .mv (.t 1), none, false, false, []⟩,
 ⟨some 13, .bin .leq (.t 11) (.t 12), none, false, false, []⟩])
 (.cond (.t 13)
 .skip
 (.norm [(0, .co (.sl 1 [])), (1, .k), (2, .k), (6, .k), (7, .k)] (.exit 0))
 )
 )
 (.blk 1
 (.seq
 (.reg [⟨some 14, .mv (.t 0), none, false, false, []⟩,
 ⟨some 15, .mv (.t 7), none, false, false, []⟩,
 ⟨some 16, .mv (.t 8), none, false, false, []⟩,
 ⟨some 17, .mv (.t 2), none, false, false, []⟩,
 ⟨some 18, .call 452 [(.t 14), (.t 15), (.t 16), (.t 17)], none, false, false, [(.sl 1 []), .k, .k, .k]⟩])
 (.seq
 (.reg [⟨some 19, .mv (.t 8), none, false, false, []⟩,
 ⟨some 7, .mv (.t 19), none, false, false, []⟩])
 (.reg [⟨some 20, .mv (.t 8), none, false, false, []⟩,
 ⟨some 21, .mv (.t 6), none, false, false, []⟩,
 ⟨some 22, .bin .add (.t 20) (.t 21), none, false, false, []⟩,
 ⟨some 8, .mv (.t 22), none, false, false, []⟩])
 )
 )
 )
 )

/-- alive: 0 data; 1 n; 2 cmp; 6 blockSize; 7 a; 8 b -/
def x441a2 : List (Nat × Nk) := [(0, .co (.sl 1 [])), (1, .k), (2, .k), (6, .k), (7, .k), (8, .k)]
theorem x441a2n (s : XSt) : norm x441a2 s = norm [(0, .co (.sl 1 [])), (1, .k), (2, .k), (6, .k), (7, .k), (8, .k)] s := rfl
def x441b2 : XCode :=
 (.seq
 (.seq
 (.reg [⟨some 33, .mv (.t 8), none, false, false, []⟩,
 ⟨some 34, .mv (.t 1), none, false, false, []⟩,
 ⟨some 35, .bin .leq (.t 33) (.t 34), none, false, false, []⟩])
 (.cond (.t 35)
 .skip
 (.norm [(0, .co (.sl 1 [])), (1, .k), (2, .k), (6, .k), (7, .k)] (.exit 4))
 )
 )
 (.blk 5
 (.seq
 (.reg [⟨some 36, .mv (.t 0), none, false, false, []⟩,
 ⟨some 37, .mv (.t 7), none, false, false, []⟩,
 ⟨some 38, .mv (.t 7), none, false, false, []⟩,
 ⟨some 39, .mv (.t 6), none, false, false, []⟩,
 ⟨some 40, .bin .add (.t 38) (.t 39), none, false, false, []⟩,
 ⟨some 41, .mv (.t 8), none, false, false, []⟩,
 ⟨some 42, .mv (.t 2), none, false, false, []⟩,
 ⟨some 43, .call 453 [(.t 36), (.t 37), (.t 40), (.t 41), (.t 42)], none, false, false, [(.sl 1 []), .k, .k, .k, .k]⟩])
 (.seq
 (.reg [⟨some 44, .mv (.t 8), none, false, false, []⟩,
 ⟨some 7, .mv (.t 44), none, false, false, []⟩])
 (.reg [⟨some 45, .mv (.t 8), none, false, false, []⟩,
 ⟨some 46, .mv (.t 6), none, false, false, []⟩,
 ⟨some 47, .bin .mul (.c (.v (.int .i64 2))) (.t 46), none, false, false, []⟩,
 ⟨some 48, .bin .add (.t 45) (.t 47), none, false, false, []⟩,
 ⟨some 8, .mv (.t 48), none, false, false, []⟩])
 )
 )
 )
 )

/-- alive: 0 data; 1 n; 2 cmp; 6 blockSize -/
def x441a3 : List (Nat × Nk) := [(0, .co (.sl 1 [])), (1, .k), (2, .k), (6, .k)]
theorem x441a3n (s : XSt) : norm x441a3 s = norm [(0, .co (.sl 1 [])), (1, .k), (2, .k), (6, .k)] s := rfl
def x441b3 : XCode :=
 (.seq
 (.seq
 (.reg [⟨some 28, .mv (.t 6), none, false, false, []⟩,
 ⟨some 29, .mv (.t 1), none, false, false, []⟩,
 ⟨some 30, .bin .lss (.t 28) (.t 29), none, false, false, []⟩])
 (.cond (.t 30)
 .skip
 (.norm [] (.exit 2))
 )
 )
 (.blk 3
 (.seq
 (.reg [⟨some 31, .mv (.t 6), none, false, false, []⟩,
 ⟨some 32, .bin .mul (.c (.v (.int .i64 2))) (.t 31), none, false, false, []⟩,
 ⟨some 7, .mv (.c (.v (.int .i64 0))), none, false, false, []⟩,
 ⟨some 8, .mv (.t 32), none, false, false, []⟩])
 (.seq
 (.blk 4
 (.loop x441a2 x441b2)
 )
 (.seq
 (.seq
 (.reg [⟨some 49, .mv (.t 7), none, false, false, []⟩,
 ⟨some 50, .mv (.t 6), none, false, false, []⟩,
 ⟨some 51, .bin .add (.t 49) (.t 50), none, false, false, []⟩,
 ⟨some 9, .mv (.t 51), none, false, false, []⟩])
 (.seq
 (.reg [⟨some 52, .mv (.t 9), none, false, false, []⟩,
 ⟨some 53, .mv (.t 1), none, false, false, []⟩,
 ⟨some 54, .bin .lss (.t 52) (.t 53), none, false, false, []⟩])
 (.cond (.t 54)
 (.reg [⟨some 55, .mv (.t 0), none, false, false, []⟩,
 ⟨some 56, .mv (.t 7), none, false, false, []⟩,
 ⟨some 57, .mv (.t 9), none, false, false, []⟩,
 ⟨some 58, .mv (.t 1), none, false, false, []⟩,
 ⟨some 59, .mv (.t 2), none, false, false, []⟩,
 ⟨some 60, .call 453 [(.t 55), (.t 56), (.t 57), (.t 58), (.t 59)], none, false, false, [(.sl 1 []), .k, .k, .k, .k]⟩])
 .skip
 )
 )
 )
 (.reg [⟨some 61, .mv (.t 6), none, false, false, []⟩,
 ⟨some 62, .bin .mul (.t 61) (.c (.v (.int .i64 2))), none, false, false, []⟩,
 ⟨some 6, .mv (.t 62), none, false, false, []⟩])
 )
 )
 )
 )
 )

def x441 : XCode :=
 (.seq
 (.reg [⟨some 6, .mv (.c (.v (.int .i64 20))), none, false, false, []⟩])
 (.seq
 (.reg [⟨some 10, .mv (.t 6), none, false, false, []⟩,
 ⟨some 7, .mv (.c (.v (.int .i64 0))), none, false, false, []⟩,
 ⟨some 8, .mv (.t 10), none, false, false, []⟩])
 (.seq
 (.blk 0
 (.loop x441a1 x441b1)
 )
 (.seq
 (.reg [⟨some 23, .mv (.t 0), none, false, false, []⟩,
 ⟨some 24, .mv (.t 7), none, false, false, []⟩,
 ⟨some 25, .mv (.t 1), none, false, false, []⟩,
 ⟨some 26, .mv (.t 2), none, false, false, []⟩,
 ⟨some 27, .call 452 [(.t 23), (.t 24), (.t 25), (.t 26)], none, false, false, [(.sl 1 []), .k, .k, .k]⟩])
 (.blk 2
 (.loop x441a3 x441b3)
 )
 )
 )
 )
 )
def f441 : XFn := ⟨false, 63, [], .k, x441⟩
/-! 442 slices.IndexFunc[[]int,int] (pf false): 2 parameters, 0 captured; names [0=s, 1=f, 2=s, 3=f, 5=i] -/
/-- alive: 0 s; 1 f; 7 ; 8  -/
def x442a1 : List (Nat × Nk) := [(0, .co (.sl 1 [])), (1, .k), (7, .k), (8, .k)]
theorem x442a1n (s : XSt) : norm x442a1 s = norm [(0, .co (.sl 1 [])), (1, .k), (7, .k), (8, .k)] s := rfl
def x442b1 : XCode :=
 (.seq
 (.reg [⟨some 9, .bin .lss (.t 8) (.t 7), none, false, false, []⟩])
 (.seq
 (.cond (.t 9)
 .skip
 (.norm [] (.exit 0))
 )
 (.seq
 (.blk 1
 (.seq
 (.reg [⟨some 10, .mv (.t 8), none, false, false, []⟩,
 ⟨some 5, .mv (.t 10), none, false, false, []⟩])
 (.seq
 (.reg [⟨some 11, .mv (.t 1), none, false, false, []⟩,
 ⟨some 12, .mv (.t 0), none, false, false, []⟩,
 ⟨some 13, .mv (.t 5), none, false, false, []⟩,
 ⟨some 14, .iad 1 (.t 12) (.t 13), none, false, false, []⟩,
 ⟨some 15, .load false 1 (.t 14), none, false, false, []⟩,
 ⟨some 16, .dyn (.t 11) [(.t 15)], none, false, false, []⟩])
 (.cond (.t 16)
 (.seq
 (.reg [⟨some 17, .mv (.t 5), none, false, false, []⟩,
 ⟨some 4, .mv (.t 17), none, false, false, []⟩])
 (.norm [(4, .k)] .ret)
 )
 .skip
 )
 )
 )
 )
 (.reg [⟨some 18, .bin .add (.t 8) (.c (.v (.int .i64 1))), none, false, false, []⟩,
 ⟨some 8, .mv (.t 18), none, false, false, []⟩])
 )
 )
 )

def x442 : XCode :=
 (.seq
 (.reg [⟨some 4, .mv (.c (.v (.int .i64 0))), none, false, false, []⟩])
 (.seq
 (.seq
 (.reg [⟨some 6, .mv (.t 0), none, false, false, []⟩,
 ⟨some 7, .len (.t 6), none, false, false, []⟩,
 ⟨some 8, .mv (.c (.v (.int .i64 0))), none, false, false, []⟩])
 (.blk 0
 (.loop x442a1 x442b1)
 )
 )
 (.seq
 (.reg [⟨some 4, .mv (.c (.v (.int .i64 (-1)))), none, false, false, []⟩])
 (.norm [(4, .k)] .ret)
 )
 )
 )
def f442 : XFn := ⟨false, 19, [.t 4], .k, x442⟩
/-! 162 slices.pdqsortOrdered[int] (pf false): 4 parameters, 0 captured; names [0=data, 1=a, 2=b, 3=limit, 4=data, 5=a, 6=b, 7=limit, 8=wasBalanced, 9=wasPartitioned, 10=length, 11=pivot, 12=hint, 13=mid, 14=mid, 15=alreadyPartitioned, 16=leftLen, 17=rightLen, 18=balanceThreshold] -/
/-- alive: 0 data; 1 a; 2 b; 3 limit; 8 wasBalanced; 9 wasPartitioned -/
def x162a1 : List (Nat × Nk) := [(0, .co (.sl 1 [])), (1, .k), (2, .k), (3, .k), (8, .k), (9, .k)]
theorem x162a1n (s : XSt) : norm x162a1 s = norm [(0, .co (.sl 1 [])), (1, .k), (2, .k), (3, .k), (8, .k), (9, .k)] s := rfl
def x162b1 : XCode :=
 (.blk 1
 (.seq
 (.reg [⟨some 19, .mv (.t 2), none, false, false, []⟩,
 ⟨some 20, .mv (.t 1), none, false, false, []⟩,
 ⟨some 21, .bin .sub (.t 19) (.t 20), none, false, false, []⟩,
 ⟨some 10, .mv (.t 21), none, false, false, []⟩])
 (.seq
 (.seq
 (.reg [⟨some 22, .mv (.t 10), none, false, false, []⟩,
 ⟨some 23, .bin .leq (.t 22) (.c (.v (.int .i64 12))), none, false, false, []⟩])
 (.cond (.t 23)
 (.seq
 (.reg [⟨some 24, .mv (.t 0), none, false, false, []⟩,
 ⟨some 25, .mv (.t 1), none, false, false, []⟩,
 ⟨some 26, .mv (.t 2), none, false, false, []⟩,
 ⟨some 27, .call 177 [(.t 24), (.t 25), (.t 26)], none, false, false, [(.sl 1 []), .k, .k]⟩])
 (.norm [] .ret)
 )
 .skip
 )
 )
 (.seq
 (.seq
 (.reg [⟨some 28, .mv (.t 3), none, false, false, []⟩,
 ⟨some 29, .bin .eql (.t 28) (.c (.v (.int .i64 0))), none, false, false, []⟩])
 (.cond (.t 29)
 (.seq
 (.reg [⟨some 30, .mv (.t 0), none, false, false, []⟩,
 ⟨some 31, .mv (.t 1), none, false, false, []⟩,
 ⟨some 32, .mv (.t 2), none, false, false, []⟩,
 ⟨some 33, .call 178 [(.t 30), (.t 31), (.t 32)], none, false, false, [(.sl 1 []), .k, .k]⟩])
 (.norm [] .ret)
 )
 .skip
 )
 )
 (.seq
 (.seq
 (.reg [⟨some 34, .mv (.t 8), none, false, false, []⟩,
 ⟨some 35, .not (.t 34), none, false, false, []⟩])
 (.cond (.t 35)
 (.seq
 (.reg [⟨some 36, .mv (.t 0), none, false, false, []⟩,
 ⟨some 37, .mv (.t 1), none, false, false, []⟩,
 ⟨some 38, .mv (.t 2), none, false, false, []⟩,
 ⟨some 39, .call 179 [(.t 36), (.t 37), (.t 38)], none, false, false, [(.sl 1 []), .k, .k]⟩])
 (.reg [⟨some 40, .mv (.t 3), none, false, false, []⟩,
 ⟨some 41, .bin .sub (.t 40) (.c (.v (.int .i64 1))), none, false, false, []⟩,
 ⟨some 3, .mv (.t 41), none, false, false, []⟩])
 )
 .skip
 )
 )
 (.seq
 (.reg [⟨some 43, .mv (.t 0), none, false, false, []⟩,
 ⟨some 44, .mv (.t 1), none, false, false, []⟩,
 ⟨some 45, .mv (.t 2), none, false, false, []⟩,
 ⟨some 46, .call 180 [(.t 43), (.t 44), (.t 45)], none, false, false, [(.sl 1 []), .k, .k]⟩,
 ⟨some 42, .mv (.t 46), none, false, false, []⟩,
 ⟨some 47, .ext (.t 42) 0, none, false, false, []⟩,
 ⟨some 48, .ext (.t 42) 1, none, false, false, []⟩,
 ⟨some 11, .mv (.t 47), none, false, false, []⟩,
 ⟨some 12, .mv (.t 48), none, false, false, []⟩])
 (.seq
 (.seq
 (.reg [⟨some 49, .mv (.t 12), none, false, false, []⟩,
 ⟨some 50, .bin .eql (.t 49) (.c (.v (.int .i64 2))), none, false, false, []⟩])
 (.cond (.t 50)
 (.seq
 (.reg [⟨some 51, .mv (.t 0), none, false, false, []⟩,
 ⟨some 52, .mv (.t 1), none, false, false, []⟩,
 ⟨some 53, .mv (.t 2), none, false, false, []⟩,
 ⟨some 54, .call 181 [(.t 51), (.t 52), (.t 53)], none, false, false, [(.sl 1 []), .k, .k]⟩])
 (.seq
 (.reg [⟨some 55, .mv (.t 2), none, false, false, []⟩,
 ⟨some 56, .bin .sub (.t 55) (.c (.v (.int .i64 1))), none, false, false, []⟩,
 ⟨some 57, .mv (.t 11), none, false, false, []⟩,
 ⟨some 58, .mv (.t 1), none, false, false, []⟩,
 ⟨some 59, .bin .sub (.t 57) (.t 58), none, false, false, []⟩,
 ⟨some 60, .bin .sub (.t 56) (.t 59), none, false, false, []⟩,
 ⟨some 11, .mv (.t 60), none, false, false, []⟩])
 (.reg [⟨some 12, .mv (.c (.v (.int .i64 1))), none, false, false, []⟩])
 )
 )
 .skip
 )
 )
 (.seq
 (.seq
 (.reg [⟨some 61, .mv (.t 8), none, false, false, []⟩,
 ⟨some 62, .mv (.t 61), none, false, false, []⟩,
 ⟨some 63, .mv (.t 9), some (62, true), false, false, []⟩,
 ⟨some 64, .pick (.t 62) (.t 63) (.c (.v (.bool false))), none, false, false, []⟩,
 ⟨some 65, .mv (.t 64), none, false, false, []⟩,
 ⟨some 66, .mv (.t 12), some (65, true), false, false, []⟩,
 ⟨some 67, .bin .eql (.t 66) (.c (.v (.int .i64 1))), some (65, true), false, false, []⟩,
 ⟨some 68, .pick (.t 65) (.t 67) (.c (.v (.bool false))), none, false, false, []⟩])
 (.cond (.t 68)
 (.seq
 (.reg [⟨some 69, .mv (.t 0), none, false, false, []⟩,
 ⟨some 70, .mv (.t 1), none, false, false, []⟩,
 ⟨some 71, .mv (.t 2), none, false, false, []⟩,
 ⟨some 72, .call 182 [(.t 69), (.t 70), (.t 71)], none, false, false, [(.sl 1 []), .k, .k]⟩])
 (.cond (.t 72)
 (.norm [] .ret)
 .skip
 )
 )
 .skip
 )
 )
 (.seq
 (.seq
 (.reg [⟨some 73, .mv (.t 1), none, false, false, []⟩,
 ⟨some 74, .bin .gtr (.t 73) (.c (.v (.int .i64 0))), none, false, false, []⟩,
 ⟨some 75, .mv (.t 74), none, false, false, []⟩,
 ⟨some 76, .mv (.t 0), some (75, true), false, false, []⟩,
 ⟨some 77, .mv (.t 1), some (75, true), false, false, []⟩,
 ⟨some 78, .bin .sub (.t 77) (.c (.v (.int .i64 1))), some (75, true), false, false, []⟩,
 ⟨some 79, .iad 1 (.t 76) (.t 78), some (75, true), false, false, []⟩,
 ⟨some 80, .load false 1 (.t 79), some (75, true), false, false, []⟩,
 ⟨some 81, .mv (.t 0), some (75, true), false, false, []⟩,
 ⟨some 82, .mv (.t 11), some (75, true), false, false, []⟩,
 ⟨some 83, .iad 1 (.t 81) (.t 82), some (75, true), false, false, []⟩,
 ⟨some 84, .load false 1 (.t 83), some (75, true), false, false, []⟩,
 ⟨some 85, .call 183 [(.t 80), (.t 84)], some (75, true), false, false, []⟩,
 ⟨some 86, .not (.t 85), some (75, true), false, false, []⟩,
 ⟨some 87, .pick (.t 75) (.t 86) (.c (.v (.bool false))), none, false, false, []⟩])
 (.cond (.t 87)
 (.seq
 (.reg [⟨some 88, .mv (.t 0), none, false, false, []⟩,
 ⟨some 89, .mv (.t 1), none, false, false, []⟩,
 ⟨some 90, .mv (.t 2), none, false, false, []⟩,
 ⟨some 91, .mv (.t 11), none, false, false, []⟩,
 ⟨some 92, .call 184 [(.t 88), (.t 89), (.t 90), (.t 91)], none, false, false, [(.sl 1 []), .k, .k, .k]⟩,
 ⟨some 13, .mv (.t 92), none, false, false, []⟩])
 (.seq
 (.reg [⟨some 93, .mv (.t 13), none, false, false, []⟩,
 ⟨some 1, .mv (.t 93), none, false, false, []⟩])
 (.norm [(0, .co (.sl 1 [])), (1, .k), (2, .k), (3, .k), (8, .k), (9, .k)] (.exit 1))
 )
 )
 .skip
 )
 )
 (.seq
 (.reg [⟨some 95, .mv (.t 0), none, false, false, []⟩,
 ⟨some 96, .mv (.t 1), none, false, false, []⟩,
 ⟨some 97, .mv (.t 2), none, false, false, []⟩,
 ⟨some 98, .mv (.t 11), none, false, false, []⟩,
 ⟨some 99, .call 185 [(.t 95), (.t 96), (.t 97), (.t 98)], none, false, false, [(.sl 1 []), .k, .k, .k]⟩,
 ⟨some 94, .mv (.t 99), none, false, false, []⟩,
 ⟨some 100, .ext (.t 94) 0, none, false, false, []⟩,
 ⟨some 101, .ext (.t 94) 1, none, false, false, []⟩,
 ⟨some 14, .mv (.t 100), none, false, false, []⟩,
 ⟨some 15, .mv (.t 101), none, false, false, []⟩])
 (.seq
 (.reg [⟨some 102, .mv (.t 15), none, false, false, []⟩,
 ⟨some 9, .mv (.t 102), none, false, false, []⟩])
 (.seq
 (.reg [⟨some 103, .mv (.t 14), none, false, false, []⟩,
 ⟨some 104, .mv (.t 1), none, false, false, []⟩,
 ⟨some 105, .bin .sub (.t 103) (.t 104), none, false, false, []⟩,
 ⟨some 106, .mv (.t 2), none, false, false, []⟩,
 ⟨some 107, .mv (.t 14), none, false, false, []⟩,
 ⟨some 108, .bin .sub (.t 106) (.t 107), none, false, false, []⟩,
 ⟨some 16, .mv (.t 105), none, false, false, []⟩,
 ⟨some 17, .mv (.t 108), none, false, false, []⟩])
 (.seq
 (.reg [⟨some 109, .mv (.t 10), none, false, false, []⟩,
 ⟨some 110, .bin .quo (.t 109) (.c (.v (.int .i64 8))), none, false, false, []⟩,
 ⟨some 18, .mv (.t 110), none, false, false, []⟩])
 (.seq
 (.reg [⟨some 111, .mv (.t 16), none, false, false, []⟩,
 ⟨some 112, .mv (.t 17), none, false, false, []⟩,
 ⟨some 113, .bin .lss (.t 111) (.t 112), none, false, false, []⟩])
 (.cond (.t 113)
 (.seq
 (.reg [⟨some 114, .mv (.t 16), none, false, false, []⟩,
 ⟨some 115, .mv (.t 18), none, false, false, []⟩,
 ⟨some 116, .bin .geq (.t 114) (.t 115), none, false, false, []⟩,
 ⟨some 8, .mv (.t 116), none, false, false, []⟩])
 (.seq
 (.reg [⟨some 117, .mv (.t 0), none, false, false, []⟩,
 ⟨some 118, .mv (.t 1), none, false, false, []⟩,
 ⟨some 119, .mv (.t 14), none, false, false, []⟩,
 ⟨some 120, .mv (.t 3), none, false, false, []⟩,
 ⟨some 121, .call 162 [(.t 117), (.t 118), (.t 119), (.t 120)], none, false, false, [(.sl 1 []), .k, .k, .k]⟩])
 (.reg [⟨some 122, .mv (.t 14), none, false, false, []⟩,
 ⟨some 123, .bin .add (.t 122) (.c (.v (.int .i64 1))), none, false, false, []⟩,
 ⟨some 1, .mv (.t 123), none, false, false, []⟩])
 )
 )
 (.seq
 (.reg [⟨some 124, .mv (.t 17), none, false, false, []⟩,
 ⟨some 125, .mv (.t 18), none, false, false, []⟩,
 ⟨some 126, .bin .geq (.t 124) (.t 125), none, false, false, []⟩,
 ⟨some 8, .mv (.t 126), none, false, false, []⟩])
 (.seq
 (.reg [⟨some 127, .mv (.t 0), none, false, false, []⟩,
 ⟨some 128, .mv (.t 14), none, false, false, []⟩,
 ⟨some 129, .bin .add (.t 128) (.c (.v (.int .i64 1))), none, false, false, []⟩,
 ⟨some 130, .mv (.t 2), none, false, false, []⟩,
 ⟨some 131, .mv (.t 3), none, false, false, []⟩,
 ⟨some 132, .call 162 [(.t 127), (.t 129), (.t 130), (.t 131)], none, false, false, [(.sl 1 []), .k, .k, .k]⟩])
 (.reg [⟨some 133, .mv (.t 14), none, false, false, []⟩,
 ⟨some 2, .mv (.t 133), none, false, false, []⟩])
 )
 )
 )
 )
 )
 )
 )
 )
 )
 )
 )
 )
 )
 )
 )
 )
 )

def x162 : XCode :=
 (.seq
 (.reg [⟨some 8, .mv (.c (.v (.bool true))), none, false, false, []⟩])
 (.seq
 (.reg [⟨some 9, .mv (.c (.v (.bool true))), none, false, false, []⟩])
 (.blk 0
 (.loop x162a1 x162b1)
 )
 )
 )
def f162 : XFn := ⟨false, 134, [], .k, x162⟩
/-! 163 math/bits.Len (pf true): 1 parameters, 0 captured; names [0=x, 1=x] -/
def x163 : XCode :=
 (.seq
 (.reg [⟨some 2, .mv (.c (.v (.int .i64 0))), none, false, false, []⟩])
 (.seq
 (.cond (.c (.v (.bool false)))
 (.seq
 (.reg [⟨some 3, .mv (.t 0), none, false, false, []⟩,
 ⟨some 4, .conv .u32 (.t 3), none, false, false, []⟩,
 ⟨some 5, .call 186 [(.t 4)], none, false, false, []⟩,
 ⟨some 2, .mv (.t 5), none, false, false, []⟩])
 (.norm [(2, .fz .k)] .ret)
 )
 .skip
 )
 (.seq
 (.reg [⟨some 6, .mv (.t 0), none, false, false, []⟩,
 ⟨some 7, .call 187 [(.t 6)], none, false, false, []⟩,
 ⟨some 2, .mv (.t 7), none, false, false, []⟩])
 (.norm [(2, .fz .k)] .ret)
 )
 )
 )
def f163 : XFn := ⟨true, 8, [.t 2], .k, x163⟩
/-! 443 (*dross/hitset.search).spend (pf false): 1 parameters, 0 captured; names [0=s, 1=s] -/
def x443 : XCode :=
 (.seq
 (.reg [⟨some 2, .mv (.c (.v (.bool false))), none, false, false, []⟩])
 (.seq
 (.reg [⟨some 3, .mv (.t 0), none, false, false, []⟩,
 ⟨some 4, .nilc (.t 3), none, false, false, []⟩,
 ⟨some 5, .fad 3 (.t 4), none, false, false, []⟩,
 ⟨some 6, .load false 1 (.t 5), none, false, false, []⟩,
 ⟨some 7, .bin .sub (.t 6) (.c (.v (.int .i64 1))), none, false, false, []⟩,
 ⟨some 8, .nilc (.t 3), none, false, false, []⟩,
 ⟨some 9, .fad 3 (.t 8), none, false, false, []⟩,
 ⟨none, .store 1 (.t 9) (.t 7), none, false, false, []⟩])
 (.seq
 (.reg [⟨some 10, .mv (.t 0), none, false, false, []⟩,
 ⟨some 11, .nilc (.t 10), none, false, false, []⟩,
 ⟨some 12, .fad 3 (.t 11), none, false, false, []⟩,
 ⟨some 13, .load false 1 (.t 12), none, false, false, []⟩,
 ⟨some 14, .bin .geq (.t 13) (.c (.v (.int .i64 0))), none, false, false, []⟩,
 ⟨some 2, .mv (.t 14), none, false, false, []⟩])
 (.norm [(2, .k)] .ret)
 )
 )
 )
def f443 : XFn := ⟨false, 15, [.t 2], .k, x443⟩
/-! 444 (*dross/hitset.search).dead (pf false): 1 parameters, 0 captured; names [0=s, 1=s] -/
def x444 : XCode :=
 (.seq
 (.reg [⟨some 1, .box (.t 0), none, false, false, []⟩,
 ⟨some 2, .mv (.c (.v (.bool false))), none, false, false, []⟩])
 (.seq
 (.reg [⟨some 3, .load false 1 (.t 1), none, false, false, []⟩,
 ⟨some 4, .nilc (.t 3), none, false, false, []⟩,
 ⟨some 5, .fad 0 (.t 4), none, false, false, []⟩,
 ⟨some 6, .fad 1 (.t 5), none, false, false, []⟩,
 ⟨some 7, .load false 1 (.t 6), none, false, false, []⟩,
 ⟨some 8, .mkf 454 [(.t 1)], none, false, false, []⟩,
 ⟨some 9, .call 435 [(.t 7), (.t 8)], none, false, false, [(.sl 1 [(.sl 1 [])]), .k]⟩,
 ⟨some 2, .mv (.t 9), none, false, false, []⟩])
 (.norm [(2, .k)] .ret)
 )
 )
def f444 : XFn := ⟨false, 10, [.t 2], .k, x444⟩
/-! 445 (*dross/hitset.search).branch (pf false): 1 parameters, 0 captured; names [0=s, 1=s, 3=count, 4=best, 5=_, 6=e, 7=_, 8=v] -/
/-- alive: 0 s; 3 count; 4 best; 19 ; 20 ; 21 ; 28 ; 29 ; 30  -/
def x445a1 : List (Nat × Nk) := [(0, .k), (3, .own 1 []), (4, .k), (19, .co (.sl 1 [(.sl 1 [])])), (20, .k), (21, .k), (28, .co (.sl 1 [])), (29, .k), (30, .k)]
theorem x445a1n (s : XSt) : norm x445a1 s = norm [(0, .k), (3, .own 1 []), (4, .k), (19, .co (.sl 1 [(.sl 1 [])])), (20, .k), (21, .k), (28, .co (.sl 1 [])), (29, .k), (30, .k)] s := rfl
def x445b1 : XCode :=
 (.seq
 (.reg [⟨some 31, .bin .lss (.t 30) (.t 29), none, false, false, []⟩])
 (.seq
 (.cond (.t 31)
 .skip
 (.norm [(0, .k), (3, .own 1 []), (4, .k), (19, .co (.sl 1 [(.sl 1 [])])), (20, .k), (21, .k)] (.exit 2))
 )
 (.seq
 (.blk 3
 (.seq
 (.reg [⟨some 32, .iad 1 (.t 28) (.t 30), none, false, false, []⟩,
 ⟨some 33, .load false 1 (.t 32), none, false, false, []⟩,
 ⟨some 8, .mv (.t 33), none, false, false, []⟩])
 (.seq
 (.seq
 (.reg [⟨some 34, .mv (.t 0), none, false, false, []⟩,
 ⟨some 35, .nilc (.t 34), none, false, false, []⟩,
 ⟨some 36, .fad 2 (.t 35), none, false, false, []⟩,
 ⟨some 37, .load false 1 (.t 36), none, false, false, []⟩,
 ⟨some 38, .mv (.t 8), none, false, false, []⟩,
 ⟨some 39, .iad 1 (.t 37) (.t 38), none, false, false, []⟩,
 ⟨some 40, .load false 1 (.t 39), none, false, false, []⟩,
 ⟨some 41, .bin .neq (.t 40) (.c (.v (.int .i64 0))), none, false, false, []⟩])
 (.cond (.t 41)
 (.norm [(0, .k), (3, .own 1 []), (4, .k), (19, .co (.sl 1 [(.sl 1 [])])), (20, .k), (21, .k), (28, .co (.sl 1 [])), (29, .k), (30, .k)] (.exit 3))
 .skip
 )
 )
 (.seq
 (.reg [⟨some 42, .mv (.t 3), none, false, false, []⟩,
 ⟨some 43, .mv (.t 8), none, false, false, []⟩,
 ⟨some 44, .iad 1 (.t 42) (.t 43), none, false, false, []⟩,
 ⟨some 45, .load false 1 (.t 44), none, false, false, []⟩,
 ⟨some 46, .bin .add (.t 45) (.c (.v (.int .i64 1))), none, false, false, []⟩,
 ⟨some 47, .iad 1 (.t 42) (.t 43), none, false, false, []⟩,
 ⟨none, .store 1 (.t 47) (.t 46), none, false, false, []⟩])
 (.seq
 (.reg [⟨some 48, .mv (.t 4), none, false, false, []⟩,
 ⟨some 49, .bin .lss (.t 48) (.c (.v (.int .i64 0))), none, false, false, []⟩,
 ⟨some 50, .mv (.t 49), none, false, false, []⟩,
 ⟨some 51, .mv (.t 3), some (50, false), false, false, []⟩,
 ⟨some 52, .mv (.t 8), some (50, false), false, false, []⟩,
 ⟨some 53, .iad 1 (.t 51) (.t 52), some (50, false), false, false, []⟩,
 ⟨some 54, .load false 1 (.t 53), some (50, false), false, false, []⟩,
 ⟨some 55, .mv (.t 3), some (50, false), false, false, []⟩,
 ⟨some 56, .mv (.t 4), some (50, false), false, false, []⟩,
 ⟨some 57, .iad 1 (.t 55) (.t 56), some (50, false), false, false, []⟩,
 ⟨some 58, .load false 1 (.t 57), some (50, false), false, false, []⟩,
 ⟨some 59, .bin .gtr (.t 54) (.t 58), some (50, false), false, false, []⟩,
 ⟨some 60, .pick (.t 50) (.c (.v (.bool true))) (.t 59), none, false, false, []⟩])
 (.cond (.t 60)
 (.reg [⟨some 61, .mv (.t 8), none, false, false, []⟩,
 ⟨some 4, .mv (.t 61), none, false, false, []⟩])
 .skip
 )
 )
 )
 )
 )
 )
 (.reg [⟨some 62, .bin .add (.t 30) (.c (.v (.int .i64 1))), none, false, false, []⟩,
 ⟨some 30, .mv (.t 62), none, false, false, []⟩])
 )
 )
 )

/-- alive: 0 s; 3 count; 4 best; 19 ; 20 ; 21  -/
def x445a2 : List (Nat × Nk) := [(0, .k), (3, .own 1 []), (4, .k), (19, .co (.sl 1 [(.sl 1 [])])), (20, .k), (21, .k)]
theorem x445a2n (s : XSt) : norm x445a2 s = norm [(0, .k), (3, .own 1 []), (4, .k), (19, .co (.sl 1 [(.sl 1 [])])), (20, .k), (21, .k)] s := rfl
def x445b2 : XCode :=
 (.seq
 (.reg [⟨some 22, .bin .lss (.t 21) (.t 20), none, false, false, []⟩])
 (.seq
 (.cond (.t 22)
 .skip
 (.norm [(4, .k)] (.exit 0))
 )
 (.seq
 (.blk 1
 (.seq
 (.reg [⟨some 23, .iad 1 (.t 19) (.t 21), none, false, false, []⟩,
 ⟨some 24, .load false 1 (.t 23), none, false, false, []⟩,
 ⟨some 6, .mv (.t 24), none, false, false, []⟩])
 (.seq
 (.seq
 (.reg [⟨some 25, .mv (.t 0), none, false, false, []⟩,
 ⟨some 26, .mv (.t 6), none, false, false, []⟩,
 ⟨some 27, .call 450 [(.t 25), (.t 26), (.c (.v (.int .i64 1)))], none, false, false, [.k, (.sl 1 []), .k]⟩])
 (.cond (.t 27)
 (.norm [(0, .k), (3, .own 1 []), (4, .k), (19, .co (.sl 1 [(.sl 1 [])])), (20, .k), (21, .k)] (.exit 1))
 .skip
 )
 )
 (.seq
 (.reg [⟨some 28, .mv (.t 6), none, false, false, []⟩,
 ⟨some 29, .len (.t 28), none, false, false, []⟩,
 ⟨some 30, .mv (.c (.v (.int .i64 0))), none, false, false, []⟩])
 (.blk 2
 (.loop x445a1 x445b1)
 )
 )
 )
 )
 )
 (.reg [⟨some 63, .bin .add (.t 21) (.c (.v (.int .i64 1))), none, false, false, []⟩,
 ⟨some 21, .mv (.t 63), none, false, false, []⟩])
 )
 )
 )

def x445 : XCode :=
 (.seq
 (.reg [⟨some 2, .mv (.c (.v (.int .i64 0))), none, false, false, []⟩])
 (.seq
 (.reg [⟨some 9, .mv (.t 0), none, false, false, []⟩,
 ⟨some 10, .nilc (.t 9), none, false, false, []⟩,
 ⟨some 11, .fad 2 (.t 10), none, false, false, []⟩,
 ⟨some 12, .load false 1 (.t 11), none, false, false, []⟩,
 ⟨some 13, .len (.t 12), none, false, false, []⟩,
 ⟨some 14, .mksl 1 [(.int .i64 0)] (.t 13) (.t 13), none, false, false, []⟩,
 ⟨some 3, .mv (.t 14), none, false, false, []⟩])
 (.seq
 (.reg [⟨some 4, .mv (.c (.v (.int .i64 (-1)))), none, false, false, []⟩])
 (.seq
 (.seq
 (.reg [⟨some 15, .mv (.t 0), none, false, false, []⟩,
 ⟨some 16, .nilc (.t 15), none, false, false, []⟩,
 ⟨some 17, .fad 0 (.t 16), none, false, false, []⟩,
 ⟨some 18, .fad 1 (.t 17), none, false, false, []⟩,
 ⟨some 19, .load false 1 (.t 18), none, false, false, []⟩,
 ⟨some 20, .len (.t 19), none, false, false, []⟩,
 ⟨some 21, .mv (.c (.v (.int .i64 0))), none, false, false, []⟩])
 (.blk 0
 (.loop x445a2 x445b2)
 )
 )
 (.seq
 (.reg [⟨some 64, .mv (.t 4), none, false, false, []⟩,
 ⟨some 2, .mv (.t 64), none, false, false, []⟩])
 (.norm [(2, .k)] .ret)
 )
 )
 )
 )
 )
def f445 : XFn := ⟨false, 65, [.t 2], .k, x445⟩
/-! 446 (*dross/hitset.search).shares (pf false): 3 parameters, 0 captured; names [0=s, 1=l, 2=bound, 3=s, 4=l, 5=bound, 7=load, 8=sum, 9=_, 10=x, 11=_, 12=v] -/
/-- alive: 0 s; 2 bound; 7 load; 8 sum; 10 x; 22 ; 23 ; 24 ; 77 ; 78 ; 79  -/
def x446a1 : List (Nat × Nk) := [(0, .k), (2, .k), (7, .own 1 []), (8, .k), (10, .k), (22, .co (.sl 2 [])), (23, .k), (24, .k), (77, .co (.sl 1 [])), (78, .k), (79, .k)]
theorem x446a1n (s : XSt) : norm x446a1 s = norm [(0, .k), (2, .k), (7, .own 1 []), (8, .k), (10, .k), (22, .co (.sl 2 [])), (23, .k), (24, .k), (77, .co (.sl 1 [])), (78, .k), (79, .k)] s := rfl
def x446b1 : XCode :=
 (.seq
 (.reg [⟨some 80, .bin .lss (.t 79) (.t 78), none, false, false, []⟩])
 (.seq
 (.cond (.t 80)
 .skip
 (.norm [(0, .k), (2, .k), (7, .own 1 []), (8, .k), (22, .co (.sl 2 [])), (23, .k), (24, .k)] (.exit 2))
 )
 (.seq
 (.blk 3
 (.seq
 (.reg [⟨some 81, .iad 1 (.t 77) (.t 79), none, false, false, []⟩,
 ⟨some 82, .load false 1 (.t 81), none, false, false, []⟩,
 ⟨some 12, .mv (.t 82), none, false, false, []⟩])
 (.seq
 (.reg [⟨some 83, .mv (.t 7), none, false, false, []⟩,
 ⟨some 84, .mv (.t 12), none, false, false, []⟩,
 ⟨some 85, .iad 1 (.t 83) (.t 84), none, false, false, []⟩,
 ⟨some 86, .load false 1 (.t 85), none, false, false, []⟩,
 ⟨some 87, .fad 1 (.t 10), none, false, false, []⟩,
 ⟨some 88, .load false 1 (.t 87), none, false, false, []⟩,
 ⟨some 89, .bin .add (.t 86) (.t 88), none, false, false, []⟩,
 ⟨some 90, .iad 1 (.t 83) (.t 84), none, false, false, []⟩,
 ⟨none, .store 1 (.t 90) (.t 89), none, false, false, []⟩])
 (.seq
 (.reg [⟨some 91, .mv (.t 0), none, false, false, []⟩,
 ⟨some 92, .nilc (.t 91), none, false, false, []⟩,
 ⟨some 93, .fad 2 (.t 92), none, false, false, []⟩,
 ⟨some 94, .load false 1 (.t 93), none, false, false, []⟩,
 ⟨some 95, .mv (.t 12), none, false, false, []⟩,
 ⟨some 96, .iad 1 (.t 94) (.t 95), none, false, false, []⟩,
 ⟨some 97, .load false 1 (.t 96), none, false, false, []⟩,
 ⟨some 98, .bin .eql (.t 97) (.c (.v (.int .i64 0))), none, false, false, []⟩,
 ⟨some 99, .mv (.t 98), none, false, false, []⟩,
 ⟨some 100, .mv (.t 7), some (99, true), false, false, []⟩,
 ⟨some 101, .mv (.t 12), some (99, true), false, false, []⟩,
 ⟨some 102, .iad 1 (.t 100) (.t 101), some (99, true), false, false, []⟩,
 ⟨some 103, .load false 1 (.t 102), some (99, true), false, false, []⟩,
 ⟨some 104, .mv (.t 0), some (99, true), false, false, []⟩,
 ⟨some 105, .nilc (.t 104), some (99, true), false, false, []⟩,
 ⟨some 106, .fad 0 (.t 105), some (99, true), false, false, []⟩,
 ⟨some 107, .fad 0 (.t 106), some (99, true), false, false, []⟩,
 ⟨some 108, .load false 1 (.t 107), some (99, true), false, false, []⟩,
 ⟨some 109, .mv (.t 12), some (99, true), false, false, []⟩,
 ⟨some 110, .iad 1 (.t 108) (.t 109), some (99, true), false, false, []⟩,
 ⟨some 111, .load false 1 (.t 110), some (99, true), false, false, []⟩,
 ⟨some 112, .bin .gtr (.t 103) (.t 111), some (99, true), false, false, []⟩,
 ⟨some 113, .pick (.t 99) (.t 112) (.c (.v (.bool false))), none, false, false, []⟩])
 (.cond (.t 113)
 (.seq
 (.reg [⟨some 6, .mv (.c (.v (.bool false))), none, false, false, []⟩])
 (.norm [(6, .k)] .ret)
 )
 .skip
 )
 )
 )
 )
 )
 (.reg [⟨some 114, .bin .add (.t 79) (.c (.v (.int .i64 1))), none, false, false, []⟩,
 ⟨some 79, .mv (.t 114), none, false, false, []⟩])
 )
 )
 )

/-- alive: 0 s; 2 bound; 7 load; 8 sum; 22 ; 23 ; 24  -/
def x446a2 : List (Nat × Nk) := [(0, .k), (2, .k), (7, .own 1 []), (8, .k), (22, .co (.sl 2 [])), (23, .k), (24, .k)]
theorem x446a2n (s : XSt) : norm x446a2 s = norm [(0, .k), (2, .k), (7, .own 1 []), (8, .k), (22, .co (.sl 2 [])), (23, .k), (24, .k)] s := rfl
def x446b2 : XCode :=
 (.seq
 (.reg [⟨some 25, .bin .lss (.t 24) (.t 23), none, false, false, []⟩])
 (.seq
 (.cond (.t 25)
 .skip
 (.norm [(2, .k), (8, .k)] (.exit 0))
 )
 (.seq
 (.blk 1
 (.seq
 (.reg [⟨some 26, .iad 2 (.t 22) (.t 24), none, false, false, []⟩,
 ⟨some 27, .load true 2 (.t 26), none, false, false, []⟩,
 ⟨some 10, .alloc [(.int .i64 0), (.int .i64 0)], none, false, false, []⟩,
 ⟨none, .store 2 (.t 10) (.t 27), none, false, false, []⟩])
 (.seq
 (.seq
 (.reg [⟨some 28, .fad 0 (.t 10), none, false, false, []⟩,
 ⟨some 29, .load false 1 (.t 28), none, false, false, []⟩,
 ⟨some 30, .bin .lss (.t 29) (.c (.v (.int .i64 0))), none, false, false, []⟩,
 ⟨some 31, .mv (.t 30), none, false, false, []⟩,
 ⟨some 32, .fad 0 (.t 10), some (31, false), false, false, []⟩,
 ⟨some 33, .load false 1 (.t 32), some (31, false), false, false, []⟩,
 ⟨some 34, .mv (.t 0), some (31, false), false, false, []⟩,
 ⟨some 35, .nilc (.t 34), some (31, false), false, false, []⟩,
 ⟨some 36, .fad 0 (.t 35), some (31, false), false, false, []⟩,
 ⟨some 37, .fad 1 (.t 36), some (31, false), false, false, []⟩,
 ⟨some 38, .load false 1 (.t 37), some (31, false), false, false, []⟩,
 ⟨some 39, .len (.t 38), some (31, false), false, false, []⟩,
 ⟨some 40, .bin .geq (.t 33) (.t 39), some (31, false), false, false, []⟩,
 ⟨some 41, .pick (.t 31) (.c (.v (.bool true))) (.t 40), none, false, false, []⟩,
 ⟨some 42, .mv (.t 41), none, false, false, []⟩,
 ⟨some 43, .fad 1 (.t 10), some (42, false), false, false, []⟩,
 ⟨some 44, .load false 1 (.t 43), some (42, false), false, false, []⟩,
 ⟨some 45, .bin .lss (.t 44) (.c (.v (.int .i64 1))), some (42, false), false, false, []⟩,
 ⟨some 46, .pick (.t 42) (.c (.v (.bool true))) (.t 45), none, false, false, []⟩,
 ⟨some 47, .mv (.t 46), none, false, false, []⟩,
 ⟨some 48, .fad 1 (.t 10), some (47, false), false, false, []⟩,
 ⟨some 49, .load false 1 (.t 48), some (47, false), false, false, []⟩,
 ⟨some 50, .bin .gtr (.t 49) (.c (.v (.int .i64 1000000000000))), some (47, false), false, false, []⟩,
 ⟨some 51, .pick (.t 47) (.c (.v (.bool true))) (.t 50), none, false, false, []⟩,
 ⟨some 52, .mv (.t 51), none, false, false, []⟩,
 ⟨some 53, .mv (.t 0), some (52, false), false, false, []⟩,
 ⟨some 54, .mv (.t 0), some (52, false), false, false, []⟩,
 ⟨some 55, .nilc (.t 54), some (52, false), false, false, []⟩,
 ⟨some 56, .fad 0 (.t 55), some (52, false), false, false, []⟩,
 ⟨some 57, .fad 1 (.t 56), some (52, false), false, false, []⟩,
 ⟨some 58, .load false 1 (.t 57), some (52, false), false, false, []⟩,
 ⟨some 59, .fad 0 (.t 10), some (52, false), false, false, []⟩,
 ⟨some 60, .load false 1 (.t 59), some (52, false), false, false, []⟩,
 ⟨some 61, .iad 1 (.t 58) (.t 60), some (52, false), false, false, []⟩,
 ⟨some 62, .load false 1 (.t 61), some (52, false), false, false, []⟩,
 ⟨some 63, .call 450 [(.t 53), (.t 62), (.c (.v (.int .i64 1)))], some (52, false), false, false, [.k, (.sl 1 []), .k]⟩,
 ⟨some 64, .pick (.t 52) (.c (.v (.bool true))) (.t 63), none, false, false, []⟩])
 (.cond (.t 64)
 (.seq
 (.reg [⟨some 6, .mv (.c (.v (.bool false))), none, false, false, []⟩])
 (.norm [(6, .k)] .ret)
 )
 .skip
 )
 )
 (.seq
 (.reg [⟨some 65, .mv (.t 8), none, false, false, []⟩,
 ⟨some 66, .fad 1 (.t 10), none, false, false, []⟩,
 ⟨some 67, .load false 1 (.t 66), none, false, false, []⟩,
 ⟨some 68, .bin .add (.t 65) (.t 67), none, false, false, []⟩,
 ⟨some 8, .mv (.t 68), none, false, false, []⟩])
 (.seq
 (.reg [⟨some 69, .mv (.t 0), none, false, false, []⟩,
 ⟨some 70, .nilc (.t 69), none, false, false, []⟩,
 ⟨some 71, .fad 0 (.t 70), none, false, false, []⟩,
 ⟨some 72, .fad 1 (.t 71), none, false, false, []⟩,
 ⟨some 73, .load false 1 (.t 72), none, false, false, []⟩,
 ⟨some 74, .fad 0 (.t 10), none, false, false, []⟩,
 ⟨some 75, .load false 1 (.t 74), none, false, false, []⟩,
 ⟨some 76, .iad 1 (.t 73) (.t 75), none, false, false, []⟩,
 ⟨some 77, .load false 1 (.t 76), none, false, false, []⟩,
 ⟨some 78, .len (.t 77), none, false, false, []⟩,
 ⟨some 79, .mv (.c (.v (.int .i64 0))), none, false, false, []⟩])
 (.blk 2
 (.loop x446a1 x446b1)
 )
 )
 )
 )
 )
 )
 (.reg [⟨some 115, .bin .add (.t 24) (.c (.v (.int .i64 1))), none, false, false, []⟩,
 ⟨some 24, .mv (.t 115), none, false, false, []⟩])
 )
 )
 )

def x446 : XCode :=
 (.seq
 (.reg [⟨some 6, .mv (.c (.v (.bool false))), none, false, false, []⟩])
 (.seq
 (.seq
 (.reg [⟨some 13, .mv (.t 1), none, false, false, []⟩,
 ⟨some 14, .len (.t 13), none, false, false, []⟩,
 ⟨some 15, .bin .gtr (.t 14) (.c (.v (.int .i64 10000))), none, false, false, []⟩])
 (.cond (.t 15)
 (.seq
 (.reg [⟨some 6, .mv (.c (.v (.bool false))), none, false, false, []⟩])
 (.norm [(6, .k)] .ret)
 )
 .skip
 )
 )
 (.seq
 (.reg [⟨some 16, .mv (.t 0), none, false, false, []⟩,
 ⟨some 17, .nilc (.t 16), none, false, false, []⟩,
 ⟨some 18, .fad 2 (.t 17), none, false, false, []⟩,
 ⟨some 19, .load false 1 (.t 18), none, false, false, []⟩,
 ⟨some 20, .len (.t 19), none, false, false, []⟩,
 ⟨some 21, .mksl 1 [(.int .i64 0)] (.t 20) (.t 20), none, false, false, []⟩,
 ⟨some 7, .mv (.t 21), none, false, false, []⟩])
 (.seq
 (.reg [⟨some 8, .mv (.c (.v (.int .i64 0))), none, false, false, []⟩])
 (.seq
 (.seq
 (.reg [⟨some 22, .mv (.t 1), none, false, false, []⟩,
 ⟨some 23, .len (.t 22), none, false, false, []⟩,
 ⟨some 24, .mv (.c (.v (.int .i64 0))), none, false, false, []⟩])
 (.blk 0
 (.loop x446a2 x446b2)
 )
 )
 (.seq
 (.reg [⟨some 116, .mv (.t 8), none, false, false, []⟩,
 ⟨some 117, .mv (.t 2), none, false, false, []⟩,
 ⟨some 118, .bin .geq (.t 116) (.t 117), none, false, false, []⟩,
 ⟨some 6, .mv (.t 118), none, false, false, []⟩])
 (.norm [(6, .k)] .ret)
 )
 )
 )
 )
 )
 )
def f446 : XFn := ⟨false, 119, [.t 6], .k, x446⟩
/-! 447 dross/drossref39.closed (pf true): 2 parameters, 0 captured; names [0=in, 1=s, 2=in, 3=s, 5=i, 6=all, 7=k] -/
/-- alive: 2 in; 3 s; 5 i; 6 all; 7 k -/
def x447a1 : List (Nat × Nk) := [(2, .k), (3, .k), (5, .k), (6, .k), (7, .k)]
theorem x447a1n (s : XSt) : norm x447a1 s = norm [(2, .k), (3, .k), (5, .k), (6, .k), (7, .k)] s := rfl
def x447b1 : XCode :=
 (.seq
 (.seq
 (.reg [⟨some 15, .mv (.t 7), none, false, false, []⟩,
 ⟨some 16, .fad 1 (.t 2), none, false, false, []⟩,
 ⟨some 17, .load false 1 (.t 16), none, false, false, []⟩,
 ⟨some 18, .mv (.t 5), none, false, false, []⟩,
 ⟨some 19, .iad 1 (.t 17) (.t 18), none, false, false, []⟩,
 ⟨some 20, .load false 1 (.t 19), none, false, false, []⟩,
 ⟨some 21, .len (.t 20), none, false, false, []⟩,
 ⟨some 22, .bin .lss (.t 15) (.t 21), none, false, false, []⟩])
 (.cond (.t 22)
 .skip
 (.norm [(2, .k), (3, .k), (5, .k), (6, .k)] (.exit 2))
 )
 )
 (.seq
 (.blk 3
 (.reg [⟨some 25, .mv (.t 6), none, false, false, []⟩,
 ⟨some 26, .mv (.t 25), none, false, false, []⟩,
 ⟨some 27, .fad 1 (.t 3), some (26, true), false, false, []⟩,
 ⟨some 28, .load false 1 (.t 27), some (26, true), false, false, []⟩,
 ⟨some 29, .fad 1 (.t 2), some (26, true), false, false, []⟩,
 ⟨some 30, .load false 1 (.t 29), some (26, true), false, false, []⟩,
 ⟨some 31, .mv (.t 5), some (26, true), false, false, []⟩,
 ⟨some 32, .iad 1 (.t 30) (.t 31), some (26, true), false, false, []⟩,
 ⟨some 33, .load false 1 (.t 32), some (26, true), false, false, []⟩,
 ⟨some 34, .mv (.t 7), some (26, true), false, false, []⟩,
 ⟨some 35, .iad 1 (.t 33) (.t 34), some (26, true), false, false, []⟩,
 ⟨some 36, .load false 1 (.t 35), some (26, true), false, false, []⟩,
 ⟨some 37, .call 428 [(.t 28), (.t 36)], some (26, true), false, false, [(.sl 1 []), .k]⟩,
 ⟨some 38, .pick (.t 26) (.t 37) (.c (.v (.bool false))), none, false, false, []⟩,
 ⟨some 6, .mv (.t 38), none, false, false, []⟩])
 )
 (.reg [⟨some 23, .mv (.t 7), none, false, false, []⟩,
 ⟨some 24, .bin .add (.t 23) (.c (.v (.int .i64 1))), none, false, false, []⟩,
 ⟨some 7, .mv (.t 24), none, false, false, []⟩])
 )
 )

/-- alive: 2 in; 3 s; 5 i -/
def x447a2 : List (Nat × Nk) := [(2, .k), (3, .k), (5, .k)]
theorem x447a2n (s : XSt) : norm x447a2 s = norm [(2, .k), (3, .k), (5, .k)] s := rfl
def x447b2 : XCode :=
 (.seq
 (.seq
 (.reg [⟨some 8, .mv (.t 5), none, false, false, []⟩,
 ⟨some 9, .fad 1 (.t 2), none, false, false, []⟩,
 ⟨some 10, .load false 1 (.t 9), none, false, false, []⟩,
 ⟨some 11, .len (.t 10), none, false, false, []⟩,
 ⟨some 12, .bin .lss (.t 8) (.t 11), none, false, false, []⟩])
 (.cond (.t 12)
 .skip
 (.norm [] (.exit 0))
 )
 )
 (.seq
 (.blk 1
 (.seq
 (.reg [⟨some 6, .mv (.c (.v (.bool true))), none, false, false, []⟩])
 (.seq
 (.seq
 (.reg [⟨some 7, .mv (.c (.v (.int .i64 0))), none, false, false, []⟩])
 (.blk 2
 (.loop x447a1 x447b1)
 )
 )
 (.seq
 (.reg [⟨some 39, .mv (.t 6), none, false, false, []⟩])
 (.cond (.t 39)
 (.seq
 (.reg [⟨some 4, .mv (.c (.v (.bool true))), none, false, false, []⟩])
 (.norm [(4, .fz .k)] .ret)
 )
 .skip
 )
 )
 )
 )
 )
 (.reg [⟨some 13, .mv (.t 5), none, false, false, []⟩,
 ⟨some 14, .bin .add (.t 13) (.c (.v (.int .i64 1))), none, false, false, []⟩,
 ⟨some 5, .mv (.t 14), none, false, false, []⟩])
 )
 )

def x447 : XCode :=
 (.seq
 (.reg [⟨some 2, .box (.t 0), none, false, false, []⟩,
 ⟨some 3, .box (.t 1), none, false, false, []⟩,
 ⟨some 4, .mv (.c (.v (.bool false))), none, false, false, []⟩])
 (.seq
 (.seq
 (.reg [⟨some 5, .mv (.c (.v (.int .i64 0))), none, false, false, []⟩])
 (.blk 0
 (.loop x447a2 x447b2)
 )
 )
 (.seq
 (.reg [⟨some 4, .mv (.c (.v (.bool false))), none, false, false, []⟩])
 (.norm [(4, .fz .k)] .ret)
 )
 )
 )
def f447 : XFn := ⟨true, 40, [.t 4], .k, x447⟩
/-! 448 slices.Index[[]int,int] (pf true): 2 parameters, 0 captured; names [0=s, 1=v, 2=s, 3=v, 5=i] -/
/-- alive: 0 s; 1 v; 7 ; 8  -/
def x448a1 : List (Nat × Nk) := [(0, .co (.sl 1 [])), (1, .k), (7, .k), (8, .k)]
theorem x448a1n (s : XSt) : norm x448a1 s = norm [(0, .co (.sl 1 [])), (1, .k), (7, .k), (8, .k)] s := rfl
def x448b1 : XCode :=
 (.seq
 (.reg [⟨some 9, .bin .lss (.t 8) (.t 7), none, false, false, []⟩])
 (.seq
 (.cond (.t 9)
 .skip
 (.norm [] (.exit 0))
 )
 (.seq
 (.blk 1
 (.seq
 (.reg [⟨some 10, .mv (.t 8), none, false, false, []⟩,
 ⟨some 5, .mv (.t 10), none, false, false, []⟩])
 (.seq
 (.reg [⟨some 11, .mv (.t 1), none, false, false, []⟩,
 ⟨some 12, .mv (.t 0), none, false, false, []⟩,
 ⟨some 13, .mv (.t 5), none, false, false, []⟩,
 ⟨some 14, .iad 1 (.t 12) (.t 13), none, false, false, []⟩,
 ⟨some 15, .load false 1 (.t 14), none, false, false, []⟩,
 ⟨some 16, .bin .eql (.t 11) (.t 15), none, false, false, []⟩])
 (.cond (.t 16)
 (.seq
 (.reg [⟨some 17, .mv (.t 5), none, false, false, []⟩,
 ⟨some 4, .mv (.t 17), none, false, false, []⟩])
 (.norm [(4, .fz .k)] .ret)
 )
 .skip
 )
 )
 )
 )
 (.reg [⟨some 18, .bin .add (.t 8) (.c (.v (.int .i64 1))), none, false, false, []⟩,
 ⟨some 8, .mv (.t 18), none, false, false, []⟩])
 )
 )
 )

def x448 : XCode :=
 (.seq
 (.reg [⟨some 4, .mv (.c (.v (.int .i64 0))), none, false, false, []⟩])
 (.seq
 (.seq
 (.reg [⟨some 6, .mv (.t 0), none, false, false, []⟩,
 ⟨some 7, .len (.t 6), none, false, false, []⟩,
 ⟨some 8, .mv (.c (.v (.int .i64 0))), none, false, false, []⟩])
 (.blk 0
 (.loop x448a1 x448b1)
 )
 )
 (.seq
 (.reg [⟨some 4, .mv (.c (.v (.int .i64 (-1)))), none, false, false, []⟩])
 (.norm [(4, .fz .k)] .ret)
 )
 )
 )
def f448 : XFn := ⟨true, 19, [.t 4], .k, x448⟩
/-! 449 slices.IndexFunc[[][]int,[]int] (pf false): 2 parameters, 0 captured; names [0=s, 1=f, 2=s, 3=f, 5=i] -/
/-- alive: 0 s; 1 f; 7 ; 8  -/
def x449a1 : List (Nat × Nk) := [(0, .co (.sl 1 [(.sl 1 [])])), (1, .k), (7, .k), (8, .k)]
theorem x449a1n (s : XSt) : norm x449a1 s = norm [(0, .co (.sl 1 [(.sl 1 [])])), (1, .k), (7, .k), (8, .k)] s := rfl
def x449b1 : XCode :=
 (.seq
 (.reg [⟨some 9, .bin .lss (.t 8) (.t 7), none, false, false, []⟩])
 (.seq
 (.cond (.t 9)
 .skip
 (.norm [] (.exit 0))
 )
 (.seq
 (.blk 1
 (.seq
 (.reg [⟨some 10, .mv (.t 8), none, false, false, []⟩,
 ⟨some 5, .mv (.t 10), none, false, false, []⟩])
 (.seq
 (.reg [⟨some 11, .mv (.t 1), none, false, false, []⟩,
 ⟨some 12, .mv (.t 0), none, false, false, []⟩,
 ⟨some 13, .mv (.t 5), none, false, false, []⟩,
 ⟨some 14, .iad 1 (.t 12) (.t 13), none, false, false, []⟩,
 ⟨some 15, .load false 1 (.t 14), none, false, false, []⟩,
 ⟨some 16, .dyn (.t 11) [(.t 15)], none, false, false, [(.sl 1 [])]⟩])
 (.cond (.t 16)
 (.seq
 (.reg [⟨some 17, .mv (.t 5), none, false, false, []⟩,
 ⟨some 4, .mv (.t 17), none, false, false, []⟩])
 (.norm [(4, .k)] .ret)
 )
 .skip
 )
 )
 )
 )
 (.reg [⟨some 18, .bin .add (.t 8) (.c (.v (.int .i64 1))), none, false, false, []⟩,
 ⟨some 8, .mv (.t 18), none, false, false, []⟩])
 )
 )
 )

def x449 : XCode :=
 (.seq
 (.reg [⟨some 4, .mv (.c (.v (.int .i64 0))), none, false, false, []⟩])
 (.seq
 (.seq
 (.reg [⟨some 6, .mv (.t 0), none, false, false, []⟩,
 ⟨some 7, .len (.t 6), none, false, false, []⟩,
 ⟨some 8, .mv (.c (.v (.int .i64 0))), none, false, false, []⟩])
 (.blk 0
 (.loop x449a1 x449b1)
 )
 )
 (.seq
 (.reg [⟨some 4, .mv (.c (.v (.int .i64 (-1)))), none, false, false, []⟩])
 (.norm [(4, .k)] .ret)
 )
 )
 )
def f449 : XFn := ⟨false, 19, [.t 4], .k, x449⟩
/-! 450 (*dross/hitset.search).has (pf false): 3 parameters, 0 captured; names [0=s, 1=e, 2=mark, 3=s, 4=e, 5=mark] -/
def x450 : XCode :=
 (.seq
 (.reg [⟨some 3, .box (.t 0), none, false, false, []⟩,
 ⟨some 5, .box (.t 2), none, false, false, []⟩,
 ⟨some 6, .mv (.c (.v (.bool false))), none, false, false, []⟩])
 (.seq
 (.reg [⟨some 7, .mv (.t 1), none, false, false, []⟩,
 ⟨some 8, .mkf 455 [(.t 3), (.t 5)], none, false, false, []⟩,
 ⟨some 9, .call 426 [(.t 7), (.t 8)], none, false, false, [(.sl 1 []), .k]⟩,
 ⟨some 6, .mv (.t 9), none, false, false, []⟩])
 (.norm [(6, .k)] .ret)
 )
 )
def f450 : XFn := ⟨false, 10, [.t 6], .k, x450⟩
/-! 451 slices.Concat[[]dross/api.Node,dross/api.Node] (pf true): 1 parameters, 0 captured; names [0=slices, 1=slices, 3=size, 4=_, 5=s, 6=newslice, 7=_, 8=s] -/
/-- alive: 0 slices; 3 size; 9 ; 10 ; 11  -/
def x451a1 : List (Nat × Nk) := [(0, .co (.sl 1 [(.sl 2 [.k, (.sl 2 [])])])), (3, .k), (9, .co (.sl 1 [(.sl 2 [.k, (.sl 2 [])])])), (10, .k), (11, .k)]
theorem x451a1n (s : XSt) : norm x451a1 s = norm [(0, .co (.sl 1 [(.sl 2 [.k, (.sl 2 [])])])), (3, .k), (9, .co (.sl 1 [(.sl 2 [.k, (.sl 2 [])])])), (10, .k), (11, .k)] s := rfl
def x451b1 : XCode :=
 (.seq
 (.reg [⟨some 12, .bin .lss (.t 11) (.t 10), none, false, false, []⟩])
 (.seq
 (.cond (.t 12)
 .skip
 (.norm [(0, .co (.sl 1 [(.sl 2 [.k, (.sl 2 [])])])), (3, .k)] (.exit 0))
 )
 (.seq
 (.blk 1
 (.seq
 (.reg [⟨some 13, .iad 1 (.t 9) (.t 11), none, false, false, []⟩,
 ⟨some 14, .load false 1 (.t 13), none, false, false, []⟩,
 ⟨some 5, .mv (.t 14), none, false, false, []⟩])
 (.seq
 (.reg [⟨some 15, .mv (.t 3), none, false, false, []⟩,
 ⟨some 16, .mv (.t 5), none, false, false, []⟩,
 ⟨some 17, .len (.t 16), none, false, false, []⟩,
 ⟨some 18, .bin .add (.t 15) (.t 17), none, false, false, []⟩,
 ⟨some 3, .mv (.t 18), none, false, false, []⟩])
 (.seq
 (.reg [⟨some 19, .mv (.t 3), none, false, false, []⟩,
 ⟨some 20, .bin .lss (.t 19) (.c (.v (.int .i64 0))), none, false, false, []⟩])
 (.cond (.t 20)
 .bad
 .skip
 )
 )
 )
 )
 )
 (.reg [⟨some 22, .bin .add (.t 11) (.c (.v (.int .i64 1))), none, false, false, []⟩,
 ⟨some 11, .mv (.t 22), none, false, false, []⟩])
 )
 )
 )

/-- alive: 6 newslice; 25 ; 26 ; 27  -/
def x451a2 : List (Nat × Nk) := [(6, .own 2 [.k, (.sl 2 [])]), (25, .co (.sl 1 [(.sl 2 [.k, (.sl 2 [])])])), (26, .k), (27, .k)]
theorem x451a2n (s : XSt) : norm x451a2 s = norm [(6, .own 2 [.k, (.sl 2 [])]), (25, .co (.sl 1 [(.sl 2 [.k, (.sl 2 [])])])), (26, .k), (27, .k)] s := rfl
def x451b2 : XCode :=
 (.seq
 (.reg [⟨some 28, .bin .lss (.t 27) (.t 26), none, false, false, []⟩])
 (.seq
 (.cond (.t 28)
 .skip
 (.norm [(6, .own 2 [.k, (.sl 2 [])])] (.exit 2))
 )
 (.seq
 (.blk 3
 (.seq
 (.reg [⟨some 29, .iad 1 (.t 25) (.t 27), none, false, false, []⟩,
 ⟨some 30, .load false 1 (.t 29), none, false, false, []⟩,
 ⟨some 8, .mv (.t 30), none, false, false, []⟩])
 (.reg [⟨some 31, .mv (.t 6), none, false, false, []⟩,
 ⟨some 32, .mv (.t 8), none, false, false, []⟩,
 ⟨some 33, .app 2 (.t 31) (.t 32), none, false, false, []⟩,
 ⟨some 6, .mv (.t 33), none, false, false, []⟩])
 )
 )
 (.reg [⟨some 34, .bin .add (.t 27) (.c (.v (.int .i64 1))), none, false, false, []⟩,
 ⟨some 27, .mv (.t 34), none, false, false, []⟩])
 )
 )
 )

def x451 : XCode :=
 (.seq
 (.reg [⟨some 2, .mv (.c .emp), none, false, false, []⟩])
 (.seq
 (.reg [⟨some 3, .mv (.c (.v (.int .i64 0))), none, false, false, []⟩])
 (.seq
 (.seq
 (.reg [⟨some 9, .mv (.t 0), none, false, false, []⟩,
 ⟨some 10, .len (.t 9), none, false, false, []⟩,
 ⟨some 11, .mv (.c (.v (.int .i64 0))), none, false, false, []⟩])
 (.blk 0
 (.loop x451a1 x451b1)
 )
 )
 (.seq
 (.reg [⟨some 23, .mv (.t 3), none, false, false, []⟩,
 ⟨some 24, .call 456 [(.c .emp), (.t 23)], none, false, false, []⟩,
 ⟨some 6, .mv (.t 24), none, false, false, []⟩])
 (.seq
 (.seq
 (.reg [⟨some 25, .mv (.t 0), none, false, false, []⟩,
 ⟨some 26, .len (.t 25), none, false, false, []⟩,
 ⟨some 27, .mv (.c (.v (.int .i64 0))), none, false, false, []⟩])
 (.blk 2
 (.loop x451a2 x451b2)
 )
 )
 (.seq
 (.reg [⟨some 35, .mv (.t 6), none, false, false, []⟩,
 ⟨some 2, .mv (.t 35), none, false, false, []⟩])
 (.norm [(2, .fz (.sl 2 [.k, (.sl 2 [])]))] .ret)
 )
 )
 )
 )
 )
 )
def f451 : XFn := ⟨true, 36, [.t 2], (.sl 2 [.k, (.sl 2 [])]), x451⟩
/-! 452 slices.insertionSortCmpFunc[int] (pf false): 4 parameters, 0 captured; names [0=data, 1=a, 2=b, 3=cmp, 4=data, 5=a, 6=b, 7=cmp, 8=i, 9=j] -/
/-- alive: 0 data; 1 a; 2 b; 3 cmp; 8 i; 9 j -/
def x452a1 : List (Nat × Nk) := [(0, .co (.sl 1 [])), (1, .k), (2, .k), (3, .k), (8, .k), (9, .k)]
theorem x452a1n (s : XSt) : norm x452a1 s = norm [(0, .co (.sl 1 [])), (1, .k), (2, .k), (3, .k), (8, .k), (9, .k)] s := rfl
def x452b1 : XCode :=
 (.seq
 (.seq
 (.reg [⟨some 18, .mv (.t 9), none, false, false, []⟩,
 ⟨some 19, .mv (.t 1), none, false, false, []⟩,
 ⟨some 20, .bin .gtr (.t 18) (.t 19), none, false, false, []⟩,
 ⟨some 21, .mv (.t 20), none, false, false, []⟩,
 ⟨some 22, .mv (.t 3), some (21, true), false, false, []⟩,
 ⟨some 23, .mv (.t 0), some (21, true), false, false, []⟩,
 ⟨some 24, .mv (.t 9), some (21, true), false, false, []⟩,
 ⟨some 25, .iad 1 (.t 23) (.t 24), some (21, true), false, false, []⟩,
 ⟨some 26, .load false 1 (.t 25), some (21, true), false, false, []⟩,
 ⟨some 27, .mv (.t 0), some (21, true), false, false, []⟩,
 ⟨some 28, .mv (.t 9), some (21, true), false, false, []⟩,
 ⟨some 29, .bin .sub (.t 28) (.c (.v (.int .i64 1))), some (21, true), false, false, []⟩,
 ⟨some 30, .iad 1 (.t 27) (.t 29), some (21, true), false, false, []⟩,
 ⟨some 31, .load false 1 (.t 30), some (21, true), false, false, []⟩,
 ⟨some 32, .dyn (.t 22) [(.t 26), (.t 31)], some (21, true), false, false, []⟩,
 ⟨some 33, .bin .lss (.t 32) (.c (.v (.int .i64 0))), some (21, true), false, false, []⟩,
 ⟨some 34, .pick (.t 21) (.t 33) (.c (.v (.bool false))), none, false, false, []⟩])
 (.cond (.t 34)
 .skip
 (.norm [(0, .co (.sl 1 [])), (1, .k), (2, .k), (3, .k), (8, .k)] (.exit 2))
 )
 )
 (.seq
 (.blk 3
 (.reg [⟨some 37, .mv (.t 0), none, false, false, []⟩,
 ⟨some 38, .mv (.t 9), none, false, false, []⟩,
 ⟨some 39, .mv (.t 0), none, false, false, []⟩,
 ⟨some 40, .mv (.t 9), none, false, false, []⟩,
 ⟨some 41, .bin .sub (.t 40) (.c (.v (.int .i64 1))), none, false, false, []⟩,
 ⟨some 42, .mv (.t 0), none, false, false, []⟩,
 ⟨some 43, .mv (.t 9), none, false, false, []⟩,
 ⟨some 44, .bin .sub (.t 43) (.c (.v (.int .i64 1))), none, false, false, []⟩,
 ⟨some 45, .iad 1 (.t 42) (.t 44), none, false, false, []⟩,
 ⟨some 46, .load false 1 (.t 45), none, false, false, []⟩,
 ⟨some 47, .mv (.t 0), none, false, false, []⟩,
 ⟨some 48, .mv (.t 9), none, false, false, []⟩,
 ⟨some 49, .iad 1 (.t 47) (.t 48), none, false, false, []⟩,
 ⟨some 50, .load false 1 (.t 49), none, false, false, []⟩,
 ⟨some 51, .iad 1 (.t 37) (.t 38), none, false, false, []⟩,
 ⟨none, .store 1 (.t 51) (.t 46), none, false, false, []⟩,
 ⟨some 52, .iad 1 (.t 39) (.t 41), none, false, false, []⟩,
 ⟨none, .store 1 (.t 52) (.t 50), none, false, false, []⟩])
 )
 (.reg [⟨some 35, .mv (.t 9), none, false, false, []⟩,
 ⟨some 36, .bin .sub (.t 35) (.c (.v (.int .i64 1))), none, false, false, []⟩,
 ⟨some 9, .mv (.t 36), none, false, false, []⟩])
 )
 )

/-- alive: 0 data; 1 a; 2 b; 3 cmp; 8 i -/
def x452a2 : List (Nat × Nk) := [(0, .co (.sl 1 [])), (1, .k), (2, .k), (3, .k), (8, .k)]
theorem x452a2n (s : XSt) : norm x452a2 s = norm [(0, .co (.sl 1 [])), (1, .k), (2, .k), (3, .k), (8, .k)] s := rfl
def x452b2 : XCode :=
 (.seq
 (.seq
 (.reg [⟨some 12, .mv (.t 8), none, false, false, []⟩,
 ⟨some 13, .mv (.t 2), none, false, false, []⟩,
 ⟨some 14, .bin .lss (.t 12) (.t 13), none, false, false, []⟩])
 (.cond (.t 14)
 .skip
 (.norm [] (.exit 0))
 )
 )
 (.seq
 (.blk 1
 (.seq
 (.reg [⟨some 17, .mv (.t 8), none, false, false, []⟩,
 ⟨some 9, .mv (.t 17), none, false, false, []⟩])
 (.blk 2
 (.loop x452a1 x452b1)
 )
 )
 )
 (.reg [⟨some 15, .mv (.t 8), none, false, false, []⟩,
 ⟨some 16, .bin .add (.t 15) (.c (.v (.int .i64 1))), none, false, false, []⟩,
 ⟨some 8, .mv (.t 16), none, false, false, []⟩])
 )
 )

def x452 : XCode :=
 (.seq
 (.reg [⟨some 10, .mv (.t 1), none, false, false, []⟩,
 ⟨some 11, .bin .add (.t 10) (.c (.v (.int .i64 1))), none, false, false, []⟩,
 ⟨some 8, .mv (.t 11), none, false, false, []⟩])
 (.blk 0
 (.loop x452a2 x452b2)
 )
 )
def f452 : XFn := ⟨false, 53, [], .k, x452⟩
/-! 453 slices.symMergeCmpFunc[int] (pf false): 5 parameters, 0 captured; names [0=data, 1=a, 2=m, 3=b, 4=cmp, 5=data, 6=a, 7=m, 8=b, 9=cmp, 10=i, 11=j, 12=h, 13=k, 14=i, 15=j, 16=h, 17=k, 18=mid, 19=n, 20=start, 21=r, 22=p, 23=c, 24=end] -/
/-- alive: 0 data; 1 a; 4 cmp; 10 i; 11 j -/
def x453a1 : List (Nat × Nk) := [(0, .co (.sl 1 [])), (1, .k), (4, .k), (10, .k), (11, .k)]
theorem x453a1n (s : XSt) : norm x453a1 s = norm [(0, .co (.sl 1 [])), (1, .k), (4, .k), (10, .k), (11, .k)] s := rfl
def x453b1 : XCode :=
 (.seq
 (.seq
 (.reg [⟨some 31, .mv (.t 10), none, false, false, []⟩,
 ⟨some 32, .mv (.t 11), none, false, false, []⟩,
 ⟨some 33, .bin .lss (.t 31) (.t 32), none, false, false, []⟩])
 (.cond (.t 33)
 .skip
 (.norm [(0, .co (.sl 1 [])), (1, .k), (10, .k)] (.exit 0))
 )
 )
 (.blk 1
 (.seq
 (.reg [⟨some 34, .mv (.t 10), none, false, false, []⟩,
 ⟨some 35, .mv (.t 11), none, false, false, []⟩,
 ⟨some 36, .bin .add (.t 34) (.t 35), none, false, false, []⟩,
 ⟨some 37, .conv .u64 (.t 36), none, false, false, []⟩,
 ⟨some 38, .bin .shr (.t 37) (.c (.v (.int .u64 1))), none, false, false, []⟩,
 ⟨some 39, .conv .i64 (.t 38), none, false, false, []⟩,
 ⟨some 12, .mv (.t 39), none, false, false, []⟩])
 (.seq
 (.reg [⟨some 40, .mv (.t 4), none, false, false, []⟩,
 ⟨some 41, .mv (.t 0), none, false, false, []⟩,
 ⟨some 42, .mv (.t 12), none, false, false, []⟩,
 ⟨some 43, .iad 1 (.t 41) (.t 42), none, false, false, []⟩,
 ⟨some 44, .load false 1 (.t 43), none, false, false, []⟩,
 ⟨some 45, .mv (.t 0), none, false, false, []⟩,
 ⟨some 46, .mv (.t 1), none, false, false, []⟩,
 ⟨some 47, .iad 1 (.t 45) (.t 46), none, false, false, []⟩,
 ⟨some 48, .load false 1 (.t 47), none, false, false, []⟩,
 ⟨some 49, .dyn (.t 40) [(.t 44), (.t 48)], none, false, false, []⟩,
 ⟨some 50, .bin .lss (.t 49) (.c (.v (.int .i64 0))), none, false, false, []⟩])
 (.cond (.t 50)
 (.reg [⟨some 51, .mv (.t 12), none, false, false, []⟩,
 ⟨some 52, .bin .add (.t 51) (.c (.v (.int .i64 1))), none, false, false, []⟩,
 ⟨some 10, .mv (.t 52), none, false, false, []⟩])
 (.reg [⟨some 53, .mv (.t 12), none, false, false, []⟩,
 ⟨some 11, .mv (.t 53), none, false, false, []⟩])
 )
 )
 )
 )
 )

/-- alive: 0 data; 10 i; 13 k -/
def x453a2 : List (Nat × Nk) := [(0, .co (.sl 1 [])), (10, .k), (13, .k)]
theorem x453a2n (s : XSt) : norm x453a2 s = norm [(0, .co (.sl 1 [])), (10, .k), (13, .k)] s := rfl
def x453b2 : XCode :=
 (.seq
 (.seq
 (.reg [⟨some 55, .mv (.t 13), none, false, false, []⟩,
 ⟨some 56, .mv (.t 10), none, false, false, []⟩,
 ⟨some 57, .bin .sub (.t 56) (.c (.v (.int .i64 1))), none, false, false, []⟩,
 ⟨some 58, .bin .lss (.t 55) (.t 57), none, false, false, []⟩])
 (.cond (.t 58)
 .skip
 (.norm [] (.exit 2))
 )
 )
 (.seq
 (.blk 3
 (.reg [⟨some 61, .mv (.t 0), none, false, false, []⟩,
 ⟨some 62, .mv (.t 13), none, false, false, []⟩,
 ⟨some 63, .mv (.t 0), none, false, false, []⟩,
 ⟨some 64, .mv (.t 13), none, false, false, []⟩,
 ⟨some 65, .bin .add (.t 64) (.c (.v (.int .i64 1))), none, false, false, []⟩,
 ⟨some 66, .mv (.t 0), none, false, false, []⟩,
 ⟨some 67, .mv (.t 13), none, false, false, []⟩,
 ⟨some 68, .bin .add (.t 67) (.c (.v (.int .i64 1))), none, false, false, []⟩,
 ⟨some 69, .iad 1 (.t 66) (.t 68), none, false, false, []⟩,
 ⟨some 70, .load false 1 (.t 69), none, false, false, []⟩,
 ⟨some 71, .mv (.t 0), none, false, false, []⟩,
 ⟨some 72, .mv (.t 13), none, false, false, []⟩,
 ⟨some 73, .iad 1 (.t 71) (.t 72), none, false, false, []⟩,
 ⟨some 74, .load false 1 (.t 73), none, false, false, []⟩,
 ⟨some 75, .iad 1 (.t 61) (.t 62), none, false, false, []⟩,
 ⟨none, .store 1 (.t 75) (.t 70), none, false, false, []⟩,
 ⟨some 76, .iad 1 (.t 63) (.t 65), none, false, false, []⟩,
 ⟨none, .store 1 (.t 76) (.t 74), none, false, false, []⟩])
 )
 (.reg [⟨some 59, .mv (.t 13), none, false, false, []⟩,
 ⟨some 60, .bin .add (.t 59) (.c (.v (.int .i64 1))), none, false, false, []⟩,
 ⟨some 13, .mv (.t 60), none, false, false, []⟩])
 )
 )

/-- alive: 0 data; 2 m; 4 cmp; 14 i; 15 j -/
def x453a3 : List (Nat × Nk) := [(0, .co (.sl 1 [])), (2, .k), (4, .k), (14, .k), (15, .k)]
theorem x453a3n (s : XSt) : norm x453a3 s = norm [(0, .co (.sl 1 [])), (2, .k), (4, .k), (14, .k), (15, .k)] s := rfl
def x453b3 : XCode :=
 (.seq
 (.seq
 (.reg [⟨some 83, .mv (.t 14), none, false, false, []⟩,
 ⟨some 84, .mv (.t 15), none, false, false, []⟩,
 ⟨some 85, .bin .lss (.t 83) (.t 84), none, false, false, []⟩])
 (.cond (.t 85)
 .skip
 (.norm [(0, .co (.sl 1 [])), (2, .k), (14, .k)] (.exit 4))
 )
 )
 (.blk 5
 (.seq
 (.reg [⟨some 86, .mv (.t 14), none, false, false, []⟩,
 ⟨some 87, .mv (.t 15), none, false, false, []⟩,
 ⟨some 88, .bin .add (.t 86) (.t 87), none, false, false, []⟩,
 ⟨some 89, .conv .u64 (.t 88), none, false, false, []⟩,
 ⟨some 90, .bin .shr (.t 89) (.c (.v (.int .u64 1))), none, false, false, []⟩,
 ⟨some 91, .conv .i64 (.t 90), none, false, false, []⟩,
 ⟨some 16, .mv (.t 91), none, false, false, []⟩])
 (.seq
 (.reg [⟨some 92, .mv (.t 4), none, false, false, []⟩,
 ⟨some 93, .mv (.t 0), none, false, false, []⟩,
 ⟨some 94, .mv (.t 2), none, false, false, []⟩,
 ⟨some 95, .iad 1 (.t 93) (.t 94), none, false, false, []⟩,
 ⟨some 96, .load false 1 (.t 95), none, false, false, []⟩,
 ⟨some 97, .mv (.t 0), none, false, false, []⟩,
 ⟨some 98, .mv (.t 16), none, false, false, []⟩,
 ⟨some 99, .iad 1 (.t 97) (.t 98), none, false, false, []⟩,
 ⟨some 100, .load false 1 (.t 99), none, false, false, []⟩,
 ⟨some 101, .dyn (.t 92) [(.t 96), (.t 100)], none, false, false, []⟩,
 ⟨some 102, .bin .lss (.t 101) (.c (.v (.int .i64 0))), none, false, false, []⟩,
 ⟨some 103, .not (.t 102), none, false, false, []⟩])
 (.cond (.t 103)
 (.reg [⟨some 104, .mv (.t 16), none, false, false, []⟩,
 ⟨some 105, .bin .add (.t 104) (.c (.v (.int .i64 1))), none, false, false, []⟩,
 ⟨some 14, .mv (.t 105), none, false, false, []⟩])
 (.reg [⟨some 106, .mv (.t 16), none, false, false, []⟩,
 ⟨some 15, .mv (.t 106), none, false, false, []⟩])
 )
 )
 )
 )
 )

/-- alive: 0 data; 14 i; 17 k -/
def x453a4 : List (Nat × Nk) := [(0, .co (.sl 1 [])), (14, .k), (17, .k)]
theorem x453a4n (s : XSt) : norm x453a4 s = norm [(0, .co (.sl 1 [])), (14, .k), (17, .k)] s := rfl
def x453b4 : XCode :=
 (.seq
 (.seq
 (.reg [⟨some 108, .mv (.t 17), none, false, false, []⟩,
 ⟨some 109, .mv (.t 14), none, false, false, []⟩,
 ⟨some 110, .bin .gtr (.t 108) (.t 109), none, false, false, []⟩])
 (.cond (.t 110)
 .skip
 (.norm [] (.exit 6))
 )
 )
 (.seq
 (.blk 7
 (.reg [⟨some 113, .mv (.t 0), none, false, false, []⟩,
 ⟨some 114, .mv (.t 17), none, false, false, []⟩,
 ⟨some 115, .mv (.t 0), none, false, false, []⟩,
 ⟨some 116, .mv (.t 17), none, false, false, []⟩,
 ⟨some 117, .bin .sub (.t 116) (.c (.v (.int .i64 1))), none, false, false, []⟩,
 ⟨some 118, .mv (.t 0), none, false, false, []⟩,
 ⟨some 119, .mv (.t 17), none, false, false, []⟩,
 ⟨some 120, .bin .sub (.t 119) (.c (.v (.int .i64 1))), none, false, false, []⟩,
 ⟨some 121, .iad 1 (.t 118) (.t 120), none, false, false, []⟩,
 ⟨some 122, .load false 1 (.t 121), none, false, false, []⟩,
 ⟨some 123, .mv (.t 0), none, false, false, []⟩,
 ⟨some 124, .mv (.t 17), none, false, false, []⟩,
 ⟨some 125, .iad 1 (.t 123) (.t 124), none, false, false, []⟩,
 ⟨some 126, .load false 1 (.t 125), none, false, false, []⟩,
 ⟨some 127, .iad 1 (.t 113) (.t 114), none, false, false, []⟩,
 ⟨none, .store 1 (.t 127) (.t 122), none, false, false, []⟩,
 ⟨some 128, .iad 1 (.t 115) (.t 117), none, false, false, []⟩,
 ⟨none, .store 1 (.t 128) (.t 126), none, false, false, []⟩])
 )
 (.reg [⟨some 111, .mv (.t 17), none, false, false, []⟩,
 ⟨some 112, .bin .sub (.t 111) (.c (.v (.int .i64 1))), none, false, false, []⟩,
 ⟨some 17, .mv (.t 112), none, false, false, []⟩])
 )
 )

/-- alive: 0 data; 1 a; 2 m; 3 b; 4 cmp; 18 mid; 19 n; 20 start; 21 r; 22 p -/
def x453a5 : List (Nat × Nk) := [(0, .co (.sl 1 [])), (1, .k), (2, .k), (3, .k), (4, .k), (18, .k), (19, .k), (20, .k), (21, .k), (22, .k)]
theorem x453a5n (s : XSt) : norm x453a5 s = norm [(0, .co (.sl 1 [])), (1, .k), (2, .k), (3, .k), (4, .k), (18, .k), (19, .k), (20, .k), (21, .k), (22, .k)] s := rfl
def x453b5 : XCode :=
 (.seq
 (.seq
 (.reg [⟨some 149, .mv (.t 20), none, false, false, []⟩,
 ⟨some 150, .mv (.t 21), none, false, false, []⟩,
 ⟨some 151, .bin .lss (.t 149) (.t 150), none, false, false, []⟩])
 (.cond (.t 151)
 .skip
 (.norm [(0, .co (.sl 1 [])), (1, .k), (2, .k), (3, .k), (4, .k), (18, .k), (19, .k), (20, .k)] (.exit 8))
 )
 )
 (.blk 9
 (.seq
 (.reg [⟨some 152, .mv (.t 20), none, false, false, []⟩,
 ⟨some 153, .mv (.t 21), none, false, false, []⟩,
 ⟨some 154, .bin .add (.t 152) (.t 153), none, false, false, []⟩,
 ⟨some 155, .conv .u64 (.t 154), none, false, false, []⟩,
 ⟨some 156, .bin .shr (.t 155) (.c (.v (.int .u64 1))), none, false, false, []⟩,
 ⟨some 157, .conv .i64 (.t 156), none, false, false, []⟩,
 ⟨some 23, .mv (.t 157), none, false, false, []⟩])
 (.seq
 (.reg [⟨some 158, .mv (.t 4), none, false, false, []⟩,
 ⟨some 159, .mv (.t 0), none, false, false, []⟩,
 ⟨some 160, .mv (.t 22), none, false, false, []⟩,
 ⟨some 161, .mv (.t 23), none, false, false, []⟩,
 ⟨some 162, .bin .sub (.t 160) (.t 161), none, false, false, []⟩,
 ⟨some 163, .iad 1 (.t 159) (.t 162), none, false, false, []⟩,
 ⟨some 164, .load false 1 (.t 163), none, false, false, []⟩,
 ⟨some 165, .mv (.t 0), none, false, false, []⟩,
 ⟨some 166, .mv (.t 23), none, false, false, []⟩,
 ⟨some 167, .iad 1 (.t 165) (.t 166), none, false, false, []⟩,
 ⟨some 168, .load false 1 (.t 167), none, false, false, []⟩,
 ⟨some 169, .dyn (.t 158) [(.t 164), (.t 168)], none, false, false, []⟩,
 ⟨some 170, .bin .lss (.t 169) (.c (.v (.int .i64 0))), none, false, false, []⟩,
 ⟨some 171, .not (.t 170), none, false, false, []⟩])
 (.cond (.t 171)
 (.reg [⟨some 172, .mv (.t 23), none, false, false, []⟩,
 ⟨some 173, .bin .add (.t 172) (.c (.v (.int .i64 1))), none, false, false, []⟩,
 ⟨some 20, .mv (.t 173), none, false, false, []⟩])
 (.reg [⟨some 174, .mv (.t 23), none, false, false, []⟩,
 ⟨some 21, .mv (.t 174), none, false, false, []⟩])
 )
 )
 )
 )
 )

def x453 : XCode :=
 (.seq
 (.seq
 (.reg [⟨some 25, .mv (.t 2), none, false, false, []⟩,
 ⟨some 26, .mv (.t 1), none, false, false, []⟩,
 ⟨some 27, .bin .sub (.t 25) (.t 26), none, false, false, []⟩,
 ⟨some 28, .bin .eql (.t 27) (.c (.v (.int .i64 1))), none, false, false, []⟩])
 (.cond (.t 28)
 (.seq
 (.reg [⟨some 29, .mv (.t 2), none, false, false, []⟩,
 ⟨some 10, .mv (.t 29), none, false, false, []⟩])
 (.seq
 (.reg [⟨some 30, .mv (.t 3), none, false, false, []⟩,
 ⟨some 11, .mv (.t 30), none, false, false, []⟩])
 (.seq
 (.blk 0
 (.loop x453a1 x453b1)
 )
 (.seq
 (.seq
 (.reg [⟨some 54, .mv (.t 1), none, false, false, []⟩,
 ⟨some 13, .mv (.t 54), none, false, false, []⟩])
 (.blk 2
 (.loop x453a2 x453b2)
 )
 )
 (.norm [] .ret)
 )
 )
 )
 )
 .skip
 )
 )
 (.seq
 (.seq
 (.reg [⟨some 77, .mv (.t 3), none, false, false, []⟩,
 ⟨some 78, .mv (.t 2), none, false, false, []⟩,
 ⟨some 79, .bin .sub (.t 77) (.t 78), none, false, false, []⟩,
 ⟨some 80, .bin .eql (.t 79) (.c (.v (.int .i64 1))), none, false, false, []⟩])
 (.cond (.t 80)
 (.seq
 (.reg [⟨some 81, .mv (.t 1), none, false, false, []⟩,
 ⟨some 14, .mv (.t 81), none, false, false, []⟩])
 (.seq
 (.reg [⟨some 82, .mv (.t 2), none, false, false, []⟩,
 ⟨some 15, .mv (.t 82), none, false, false, []⟩])
 (.seq
 (.blk 4
 (.loop x453a3 x453b3)
 )
 (.seq
 (.seq
 (.reg [⟨some 107, .mv (.t 2), none, false, false, []⟩,
 ⟨some 17, .mv (.t 107), none, false, false, []⟩])
 (.blk 6
 (.loop x453a4 x453b4)
 )
 )
 (.norm [] .ret)
 )
 )
 )
 )
 .skip
 )
 )
 (.seq
 (.reg [⟨some 129, .mv (.t 1), none, false, false, []⟩,
 ⟨some 130, .mv (.t 3), none, false, false, []⟩,
 ⟨some 131, .bin .add (.t 129) (.t 130), none, false, false, []⟩,
 ⟨some 132, .conv .u64 (.t 131), none, false, false, []⟩,
 ⟨some 133, .bin .shr (.t 132) (.c (.v (.int .u64 1))), none, false, false, []⟩,
 ⟨some 134, .conv .i64 (.t 133), none, false, false, []⟩,
 ⟨some 18, .mv (.t 134), none, false, false, []⟩])
 (.seq
 (.reg [⟨some 135, .mv (.t 18), none, false, false, []⟩,
 ⟨some 136, .mv (.t 2), none, false, false, []⟩,
 ⟨some 137, .bin .add (.t 135) (.t 136), none, false, false, []⟩,
 ⟨some 19, .mv (.t 137), none, false, false, []⟩])
 (.seq
 (.reg [⟨some 20, .mv (.c (.v (.int .i64 0))), none, false, false, []⟩,
 ⟨some 21, .mv (.c (.v (.int .i64 0))), none, false, false, []⟩])
 (.seq
 (.seq
 (.reg [⟨some 138, .mv (.t 2), none, false, false, []⟩,
 ⟨some 139, .mv (.t 18), none, false, false, []⟩,
 ⟨some 140, .bin .gtr (.t 138) (.t 139), none, false, false, []⟩])
 (.cond (.t 140)
 (.seq
 (.reg [⟨some 141, .mv (.t 19), none, false, false, []⟩,
 ⟨some 142, .mv (.t 3), none, false, false, []⟩,
 ⟨some 143, .bin .sub (.t 141) (.t 142), none, false, false, []⟩,
 ⟨some 20, .mv (.t 143), none, false, false, []⟩])
 (.reg [⟨some 144, .mv (.t 18), none, false, false, []⟩,
 ⟨some 21, .mv (.t 144), none, false, false, []⟩])
 )
 (.seq
 (.reg [⟨some 145, .mv (.t 1), none, false, false, []⟩,
 ⟨some 20, .mv (.t 145), none, false, false, []⟩])
 (.reg [⟨some 146, .mv (.t 2), none, false, false, []⟩,
 ⟨some 21, .mv (.t 146), none, false, false, []⟩])
 )
 )
 )
 (.seq
 (.reg [⟨some 147, .mv (.t 19), none, false, false, []⟩,
 ⟨some 148, .bin .sub (.t 147) (.c (.v (.int .i64 1))), none, false, false, []⟩,
 ⟨some 22, .mv (.t 148), none, false, false, []⟩])
 (.seq
 (.blk 8
 (.loop x453a5 x453b5)
 )
 (.seq
 (.reg [⟨some 175, .mv (.t 19), none, false, false, []⟩,
 ⟨some 176, .mv (.t 20), none, false, false, []⟩,
 ⟨some 177, .bin .sub (.t 175) (.t 176), none, false, false, []⟩,
 ⟨some 24, .mv (.t 177), none, false, false, []⟩])
 (.seq
 (.seq
 (.reg [⟨some 178, .mv (.t 20), none, false, false, []⟩,
 ⟨some 179, .mv (.t 2), none, false, false, []⟩,
 ⟨some 180, .bin .lss (.t 178) (.t 179), none, false, false, []⟩,
 ⟨some 181, .mv (.t 180), none, false, false, []⟩,
 ⟨some 182, .mv (.t 2), some (181, true), false, false, []⟩,
 ⟨some 183, .mv (.t 24), some (181, true), false, false, []⟩,
 ⟨some 184, .bin .lss (.t 182) (.t 183), some (181, true), false, false, []⟩,
 ⟨some 185, .pick (.t 181) (.t 184) (.c (.v (.bool false))), none, false, false, []⟩])
 (.cond (.t 185)
 (.reg [⟨some 186, .mv (.t 0), none, false, false, []⟩,
 ⟨some 187, .mv (.t 20), none, false, false, []⟩,
 ⟨some 188, .mv (.t 2), none, false, false, []⟩,
 ⟨some 189, .mv (.t 24), none, false, false, []⟩,
 ⟨some 190, .mv (.t 4), none, false, false, []⟩,
 ⟨some 191, .call 457 [(.t 186), (.t 187), (.t 188), (.t 189), (.t 190)], none, false, false, [(.sl 1 []), .k, .k, .k, .k]⟩])
 .skip
 )
 )
 (.seq
 (.seq
 (.reg [⟨some 192, .mv (.t 1), none, false, false, []⟩,
 ⟨some 193, .mv (.t 20), none, false, false, []⟩,
 ⟨some 194, .bin .lss (.t 192) (.t 193), none, false, false, []⟩,
 ⟨some 195, .mv (.t 194), none, false, false, []⟩,
 ⟨some 196, .mv (.t 20), some (195, true), false, false, []⟩,
 ⟨some 197, .mv (.t 18), some (195, true), false, false, []⟩,
 ⟨some 198, .bin .lss (.t 196) (.t 197), some (195, true), false, false, []⟩,
 ⟨some 199, .pick (.t 195) (.t 198) (.c (.v (.bool false))), none, false, false, []⟩])
 (.cond (.t 199)
 (.reg [⟨some 200, .mv (.t 0), none, false, false, []⟩,
 ⟨some 201, .mv (.t 1), none, false, false, []⟩,
 ⟨some 202, .mv (.t 20), none, false, false, []⟩,
 ⟨some 203, .mv (.t 18), none, false, false, []⟩,
 ⟨some 204, .mv (.t 4), none, false, false, []⟩,
 ⟨some 205, .call 453 [(.t 200), (.t 201), (.t 202), (.t 203), (.t 204)], none, false, false, [(.sl 1 []), .k, .k, .k, .k]⟩])
 .skip
 )
 )
 (.seq
 (.reg [⟨some 206, .mv (.t 18), none, false, false, []⟩,
 ⟨some 207, .mv (.t 24), none, false, false, []⟩,
 ⟨some 208, .bin .lss (.t 206) (.t 207), none, false, false, []⟩,
 ⟨some 209, .mv (.t 208), none, false, false, []⟩,
 ⟨some 210, .mv (.t 24), some (209, true), false, false, []⟩,
 ⟨some 211, .mv (.t 3), some (209, true), false, false, []⟩,
 ⟨some 212, .bin .lss (.t 210) (.t 211), some (209, true), false, false, []⟩,
 ⟨some 213, .pick (.t 209) (.t 212) (.c (.v (.bool false))), none, false, false, []⟩])
 (.cond (.t 213)
 (.reg [⟨some 214, .mv (.t 0), none, false, false, []⟩,
 ⟨some 215, .mv (.t 18), none, false, false, []⟩,
 ⟨some 216, .mv (.t 24), none, false, false, []⟩,
 ⟨some 217, .mv (.t 3), none, false, false, []⟩,
 ⟨some 218, .mv (.t 4), none, false, false, []⟩,
 ⟨some 219, .call 453 [(.t 214), (.t 215), (.t 216), (.t 217), (.t 218)], none, false, false, [(.sl 1 []), .k, .k, .k, .k]⟩])
 .skip
 )
 )
 )
 )
 )
 )
 )
 )
 )
 )
 )
 )
 )
def f453 : XFn := ⟨false, 220, [], .k, x453⟩
end Go.Abs
