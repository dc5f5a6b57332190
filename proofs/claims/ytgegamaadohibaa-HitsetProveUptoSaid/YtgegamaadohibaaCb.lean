/- Functions that the statements of this chapter reach, as code that is run (written by program). No condition. -/
import Derived.Test.YtgegamaadohibaaCa
namespace Go.Abs
open Go
/-! 177 slices.insertionSortOrdered[int] (pf false): 3 parameters, 0 captured; names [0=data, 1=a, 2=b, 3=data, 4=a, 5=b, 6=i, 7=j] -/
/-- alive: 0 data; 1 a; 2 b; 6 i; 7 j -/
def x177a1 : List (Nat × Nk) := [(0, .co (.sl 1 [])), (1, .k), (2, .k), (6, .k), (7, .k)]
theorem x177a1n (s : XSt) : norm x177a1 s = norm [(0, .co (.sl 1 [])), (1, .k), (2, .k), (6, .k), (7, .k)] s := rfl
def x177b1 : XCode :=
 (.seq
 (.seq
 (.reg [⟨some 16, .mv (.t 7), none, false, false, []⟩,
 ⟨some 17, .mv (.t 1), none, false, false, []⟩,
 ⟨some 18, .bin .gtr (.t 16) (.t 17), none, false, false, []⟩,
 ⟨some 19, .mv (.t 18), none, false, false, []⟩,
 ⟨some 20, .mv (.t 0), some (19, true), false, false, []⟩,
 ⟨some 21, .mv (.t 7), some (19, true), false, false, []⟩,
 ⟨some 22, .iad 1 (.t 20) (.t 21), some (19, true), false, false, []⟩,
 ⟨some 23, .load false 1 (.t 22), some (19, true), false, false, []⟩,
 ⟨some 24, .mv (.t 0), some (19, true), false, false, []⟩,
 ⟨some 25, .mv (.t 7), some (19, true), false, false, []⟩,
 ⟨some 26, .bin .sub (.t 25) (.c (.v (.int .i64 1))), some (19, true), false, false, []⟩,
 ⟨some 27, .iad 1 (.t 24) (.t 26), some (19, true), false, false, []⟩,
 ⟨some 28, .load false 1 (.t 27), some (19, true), false, false, []⟩,
 ⟨some 29, .call 183 [(.t 23), (.t 28)], some (19, true), false, false, []⟩,
 ⟨some 30, .pick (.t 19) (.t 29) (.c (.v (.bool false))), none, false, false, []⟩])
 (.cond (.t 30)
 .skip
 (.norm [(0, .co (.sl 1 [])), (1, .k), (2, .k), (6, .k)] (.exit 2))
 )
 )
 (.seq
 (.blk 3
 (.reg [⟨some 33, .mv (.t 0), none, false, false, []⟩,
 ⟨some 34, .mv (.t 7), none, false, false, []⟩,
 ⟨some 35, .mv (.t 0), none, false, false, []⟩,
 ⟨some 36, .mv (.t 7), none, false, false, []⟩,
 ⟨some 37, .bin .sub (.t 36) (.c (.v (.int .i64 1))), none, false, false, []⟩,
 ⟨some 38, .mv (.t 0), none, false, false, []⟩,
 ⟨some 39, .mv (.t 7), none, false, false, []⟩,
 ⟨some 40, .bin .sub (.t 39) (.c (.v (.int .i64 1))), none, false, false, []⟩,
 ⟨some 41, .iad 1 (.t 38) (.t 40), none, false, false, []⟩,
 ⟨some 42, .load false 1 (.t 41), none, false, false, []⟩,
 ⟨some 43, .mv (.t 0), none, false, false, []⟩,
 ⟨some 44, .mv (.t 7), none, false, false, []⟩,
 ⟨some 45, .iad 1 (.t 43) (.t 44), none, false, false, []⟩,
 ⟨some 46, .load false 1 (.t 45), none, false, false, []⟩,
 ⟨some 47, .iad 1 (.t 33) (.t 34), none, false, false, []⟩,
 ⟨none, .store 1 (.t 47) (.t 42), none, false, false, []⟩,
 ⟨some 48, .iad 1 (.t 35) (.t 37), none, false, false, []⟩,
 ⟨none, .store 1 (.t 48) (.t 46), none, false, false, []⟩])
 )
 (.reg [⟨some 31, .mv (.t 7), none, false, false, []⟩,
 ⟨some 32, .bin .sub (.t 31) (.c (.v (.int .i64 1))), none, false, false, []⟩,
 ⟨some 7, .mv (.t 32), none, false, false, []⟩])
 )
 )

/-- alive: 0 data; 1 a; 2 b; 6 i -/
def x177a2 : List (Nat × Nk) := [(0, .co (.sl 1 [])), (1, .k), (2, .k), (6, .k)]
theorem x177a2n (s : XSt) : norm x177a2 s = norm [(0, .co (.sl 1 [])), (1, .k), (2, .k), (6, .k)] s := rfl
def x177b2 : XCode :=
 (.seq
 (.seq
 (.reg [⟨some 10, .mv (.t 6), none, false, false, []⟩,
 ⟨some 11, .mv (.t 2), none, false, false, []⟩,
 ⟨some 12, .bin .lss (.t 10) (.t 11), none, false, false, []⟩])
 (.cond (.t 12)
 .skip
 (.norm [] (.exit 0))
 )
 )
 (.seq
 (.blk 1
 (.seq
 (.reg [⟨some 15, .mv (.t 6), none, false, false, []⟩,
 ⟨some 7, .mv (.t 15), none, false, false, []⟩])
 (.blk 2
 (.loop x177a1 x177b1)
 )
 )
 )
 (.reg [⟨some 13, .mv (.t 6), none, false, false, []⟩,
 ⟨some 14, .bin .add (.t 13) (.c (.v (.int .i64 1))), none, false, false, []⟩,
 ⟨some 6, .mv (.t 14), none, false, false, []⟩])
 )
 )

def x177 : XCode :=
 (.seq
 (.reg [⟨some 8, .mv (.t 1), none, false, false, []⟩,
 ⟨some 9, .bin .add (.t 8) (.c (.v (.int .i64 1))), none, false, false, []⟩,
 ⟨some 6, .mv (.t 9), none, false, false, []⟩])
 (.blk 0
 (.loop x177a2 x177b2)
 )
 )
def f177 : XFn := ⟨false, 49, [], .k, x177⟩
/-! 178 slices.heapSortOrdered[int] (pf false): 3 parameters, 0 captured; names [0=data, 1=a, 2=b, 3=data, 4=a, 5=b, 6=first, 7=lo, 8=hi, 9=i, 10=i] -/
/-- alive: 0 data; 6 first; 7 lo; 8 hi; 9 i -/
def x178a1 : List (Nat × Nk) := [(0, .co (.sl 1 [])), (6, .k), (7, .k), (8, .k), (9, .k)]
theorem x178a1n (s : XSt) : norm x178a1 s = norm [(0, .co (.sl 1 [])), (6, .k), (7, .k), (8, .k), (9, .k)] s := rfl
def x178b1 : XCode :=
 (.seq
 (.seq
 (.reg [⟨some 18, .mv (.t 9), none, false, false, []⟩,
 ⟨some 19, .bin .geq (.t 18) (.c (.v (.int .i64 0))), none, false, false, []⟩])
 (.cond (.t 19)
 .skip
 (.norm [(0, .co (.sl 1 [])), (6, .k), (7, .k), (8, .k)] (.exit 0))
 )
 )
 (.seq
 (.blk 1
 (.reg [⟨some 22, .mv (.t 0), none, false, false, []⟩,
 ⟨some 23, .mv (.t 9), none, false, false, []⟩,
 ⟨some 24, .mv (.t 8), none, false, false, []⟩,
 ⟨some 25, .mv (.t 6), none, false, false, []⟩,
 ⟨some 26, .call 194 [(.t 22), (.t 23), (.t 24), (.t 25)], none, false, false, [(.sl 1 []), .k, .k, .k]⟩])
 )
 (.reg [⟨some 20, .mv (.t 9), none, false, false, []⟩,
 ⟨some 21, .bin .sub (.t 20) (.c (.v (.int .i64 1))), none, false, false, []⟩,
 ⟨some 9, .mv (.t 21), none, false, false, []⟩])
 )
 )

/-- alive: 0 data; 6 first; 7 lo; 10 i -/
def x178a2 : List (Nat × Nk) := [(0, .co (.sl 1 [])), (6, .k), (7, .k), (10, .k)]
theorem x178a2n (s : XSt) : norm x178a2 s = norm [(0, .co (.sl 1 [])), (6, .k), (7, .k), (10, .k)] s := rfl
def x178b2 : XCode :=
 (.seq
 (.seq
 (.reg [⟨some 29, .mv (.t 10), none, false, false, []⟩,
 ⟨some 30, .bin .geq (.t 29) (.c (.v (.int .i64 0))), none, false, false, []⟩])
 (.cond (.t 30)
 .skip
 (.norm [] (.exit 2))
 )
 )
 (.seq
 (.blk 3
 (.seq
 (.reg [⟨some 33, .mv (.t 0), none, false, false, []⟩,
 ⟨some 34, .mv (.t 6), none, false, false, []⟩,
 ⟨some 35, .mv (.t 0), none, false, false, []⟩,
 ⟨some 36, .mv (.t 6), none, false, false, []⟩,
 ⟨some 37, .mv (.t 10), none, false, false, []⟩,
 ⟨some 38, .bin .add (.t 36) (.t 37), none, false, false, []⟩,
 ⟨some 39, .mv (.t 0), none, false, false, []⟩,
 ⟨some 40, .mv (.t 6), none, false, false, []⟩,
 ⟨some 41, .mv (.t 10), none, false, false, []⟩,
 ⟨some 42, .bin .add (.t 40) (.t 41), none, false, false, []⟩,
 ⟨some 43, .iad 1 (.t 39) (.t 42), none, false, false, []⟩,
 ⟨some 44, .load false 1 (.t 43), none, false, false, []⟩,
 ⟨some 45, .mv (.t 0), none, false, false, []⟩,
 ⟨some 46, .mv (.t 6), none, false, false, []⟩,
 ⟨some 47, .iad 1 (.t 45) (.t 46), none, false, false, []⟩,
 ⟨some 48, .load false 1 (.t 47), none, false, false, []⟩,
 ⟨some 49, .iad 1 (.t 33) (.t 34), none, false, false, []⟩,
 ⟨none, .store 1 (.t 49) (.t 44), none, false, false, []⟩,
 ⟨some 50, .iad 1 (.t 35) (.t 38), none, false, false, []⟩,
 ⟨none, .store 1 (.t 50) (.t 48), none, false, false, []⟩])
 (.reg [⟨some 51, .mv (.t 0), none, false, false, []⟩,
 ⟨some 52, .mv (.t 7), none, false, false, []⟩,
 ⟨some 53, .mv (.t 10), none, false, false, []⟩,
 ⟨some 54, .mv (.t 6), none, false, false, []⟩,
 ⟨some 55, .call 194 [(.t 51), (.t 52), (.t 53), (.t 54)], none, false, false, [(.sl 1 []), .k, .k, .k]⟩])
 )
 )
 (.reg [⟨some 31, .mv (.t 10), none, false, false, []⟩,
 ⟨some 32, .bin .sub (.t 31) (.c (.v (.int .i64 1))), none, false, false, []⟩,
 ⟨some 10, .mv (.t 32), none, false, false, []⟩])
 )
 )

def x178 : XCode :=
 (.seq
 (.reg [⟨some 11, .mv (.t 1), none, false, false, []⟩,
 ⟨some 6, .mv (.t 11), none, false, false, []⟩])
 (.seq
 (.reg [⟨some 7, .mv (.c (.v (.int .i64 0))), none, false, false, []⟩])
 (.seq
 (.reg [⟨some 12, .mv (.t 2), none, false, false, []⟩,
 ⟨some 13, .mv (.t 1), none, false, false, []⟩,
 ⟨some 14, .bin .sub (.t 12) (.t 13), none, false, false, []⟩,
 ⟨some 8, .mv (.t 14), none, false, false, []⟩])
 (.seq
 (.seq
 (.reg [⟨some 15, .mv (.t 8), none, false, false, []⟩,
 ⟨some 16, .bin .sub (.t 15) (.c (.v (.int .i64 1))), none, false, false, []⟩,
 ⟨some 17, .bin .quo (.t 16) (.c (.v (.int .i64 2))), none, false, false, []⟩,
 ⟨some 9, .mv (.t 17), none, false, false, []⟩])
 (.blk 0
 (.loop x178a1 x178b1)
 )
 )
 (.seq
 (.reg [⟨some 27, .mv (.t 8), none, false, false, []⟩,
 ⟨some 28, .bin .sub (.t 27) (.c (.v (.int .i64 1))), none, false, false, []⟩,
 ⟨some 10, .mv (.t 28), none, false, false, []⟩])
 (.blk 2
 (.loop x178a2 x178b2)
 )
 )
 )
 )
 )
 )
def f178 : XFn := ⟨false, 56, [], .k, x178⟩
/-! 179 slices.breakPatternsOrdered[int] (pf false): 3 parameters, 0 captured; names [0=data, 1=a, 2=b, 3=data, 4=a, 5=b, 6=length, 7=random, 8=modulus, 9=idx, 10=other] -/
/-- alive: 0 data; 1 a; 6 length; 7 random; 8 modulus; 9 idx -/
def x179a1 : List (Nat × Nk) := [(0, .co (.sl 1 [])), (1, .k), (6, .k), (7, .k), (8, .k), (9, .k)]
theorem x179a1n (s : XSt) : norm x179a1 s = norm [(0, .co (.sl 1 [])), (1, .k), (6, .k), (7, .k), (8, .k), (9, .k)] s := rfl
def x179b1 : XCode :=
 (.seq
 (.seq
 (.reg [⟨some 26, .mv (.t 9), none, false, false, []⟩,
 ⟨some 27, .mv (.t 1), none, false, false, []⟩,
 ⟨some 28, .mv (.t 6), none, false, false, []⟩,
 ⟨some 29, .bin .quo (.t 28) (.c (.v (.int .i64 4))), none, false, false, []⟩,
 ⟨some 30, .bin .mul (.t 29) (.c (.v (.int .i64 2))), none, false, false, []⟩,
 ⟨some 31, .bin .add (.t 27) (.t 30), none, false, false, []⟩,
 ⟨some 32, .bin .add (.t 31) (.c (.v (.int .i64 1))), none, false, false, []⟩,
 ⟨some 33, .bin .leq (.t 26) (.t 32), none, false, false, []⟩])
 (.cond (.t 33)
 .skip
 (.norm [] (.exit 0))
 )
 )
 (.seq
 (.blk 1
 (.seq
 (.reg [⟨some 36, .call 196 [(.t 7)], none, false, false, []⟩,
 ⟨some 37, .mv (.t 8), none, false, false, []⟩,
 ⟨some 38, .bin .sub (.t 37) (.c (.v (.int .u64 1))), none, false, false, []⟩,
 ⟨some 39, .bin .and (.t 36) (.t 38), none, false, false, []⟩,
 ⟨some 40, .conv .i64 (.t 39), none, false, false, []⟩,
 ⟨some 10, .mv (.t 40), none, false, false, []⟩])
 (.seq
 (.seq
 (.reg [⟨some 41, .mv (.t 10), none, false, false, []⟩,
 ⟨some 42, .mv (.t 6), none, false, false, []⟩,
 ⟨some 43, .bin .geq (.t 41) (.t 42), none, false, false, []⟩])
 (.cond (.t 43)
 (.reg [⟨some 44, .mv (.t 10), none, false, false, []⟩,
 ⟨some 45, .mv (.t 6), none, false, false, []⟩,
 ⟨some 46, .bin .sub (.t 44) (.t 45), none, false, false, []⟩,
 ⟨some 10, .mv (.t 46), none, false, false, []⟩])
 .skip
 )
 )
 (.reg [⟨some 47, .mv (.t 0), none, false, false, []⟩,
 ⟨some 48, .mv (.t 9), none, false, false, []⟩,
 ⟨some 49, .mv (.t 0), none, false, false, []⟩,
 ⟨some 50, .mv (.t 1), none, false, false, []⟩,
 ⟨some 51, .mv (.t 10), none, false, false, []⟩,
 ⟨some 52, .bin .add (.t 50) (.t 51), none, false, false, []⟩,
 ⟨some 53, .mv (.t 0), none, false, false, []⟩,
 ⟨some 54, .mv (.t 1), none, false, false, []⟩,
 ⟨some 55, .mv (.t 10), none, false, false, []⟩,
 ⟨some 56, .bin .add (.t 54) (.t 55), none, false, false, []⟩,
 ⟨some 57, .iad 1 (.t 53) (.t 56), none, false, false, []⟩,
 ⟨some 58, .load false 1 (.t 57), none, false, false, []⟩,
 ⟨some 59, .mv (.t 0), none, false, false, []⟩,
 ⟨some 60, .mv (.t 9), none, false, false, []⟩,
 ⟨some 61, .iad 1 (.t 59) (.t 60), none, false, false, []⟩,
 ⟨some 62, .load false 1 (.t 61), none, false, false, []⟩,
 ⟨some 63, .iad 1 (.t 47) (.t 48), none, false, false, []⟩,
 ⟨none, .store 1 (.t 63) (.t 58), none, false, false, []⟩,
 ⟨some 64, .iad 1 (.t 49) (.t 52), none, false, false, []⟩,
 ⟨none, .store 1 (.t 64) (.t 62), none, false, false, []⟩])
 )
 )
 )
 (.reg [⟨some 34, .mv (.t 9), none, false, false, []⟩,
 ⟨some 35, .bin .add (.t 34) (.c (.v (.int .i64 1))), none, false, false, []⟩,
 ⟨some 9, .mv (.t 35), none, false, false, []⟩])
 )
 )

def x179 : XCode :=
 (.seq
 (.reg [⟨some 11, .mv (.t 2), none, false, false, []⟩,
 ⟨some 12, .mv (.t 1), none, false, false, []⟩,
 ⟨some 13, .bin .sub (.t 11) (.t 12), none, false, false, []⟩,
 ⟨some 6, .mv (.t 13), none, false, false, []⟩])
 (.seq
 (.reg [⟨some 14, .mv (.t 6), none, false, false, []⟩,
 ⟨some 15, .bin .geq (.t 14) (.c (.v (.int .i64 8))), none, false, false, []⟩])
 (.cond (.t 15)
 (.seq
 (.reg [⟨some 16, .mv (.t 6), none, false, false, []⟩,
 ⟨some 17, .conv .u64 (.t 16), none, false, false, []⟩,
 ⟨some 7, .alloc [(.int .u64 0)], none, false, false, []⟩,
 ⟨none, .store 1 (.t 7) (.t 17), none, false, false, []⟩])
 (.seq
 (.reg [⟨some 18, .mv (.t 6), none, false, false, []⟩,
 ⟨some 19, .call 195 [(.t 18)], none, false, false, []⟩,
 ⟨some 8, .mv (.t 19), none, false, false, []⟩])
 (.seq
 (.reg [⟨some 20, .mv (.t 1), none, false, false, []⟩,
 ⟨some 21, .mv (.t 6), none, false, false, []⟩,
 ⟨some 22, .bin .quo (.t 21) (.c (.v (.int .i64 4))), none, false, false, []⟩,
 ⟨some 23, .bin .mul (.t 22) (.c (.v (.int .i64 2))), none, false, false, []⟩,
 ⟨some 24, .bin .add (.t 20) (.t 23), none, false, false, []⟩,
 ⟨some 25, .bin .sub (.t 24) (.c (.v (.int .i64 1))), none, false, false, []⟩,
 ⟨some 9, .mv (.t 25), none, false, false, []⟩])
 (.blk 0
 (.loop x179a1 x179b1)
 )
 )
 )
 )
 .skip
 )
 )
 )
def f179 : XFn := ⟨false, 65, [], .k, x179⟩
/-! 180 slices.choosePivotOrdered[int] (pf true): 3 parameters, 0 captured; names [0=data, 1=a, 2=b, 3=data, 4=a, 5=b, 6=pivot, 7=hint, 8=l, 9=swaps, 10=i, 11=j, 12=k] -/
def x180 : XCode :=
 (.seq
 (.reg [⟨some 6, .mv (.c (.v (.int .i64 0))), none, false, false, []⟩,
 ⟨some 7, .mv (.c (.v (.int .i64 0))), none, false, false, []⟩])
 (.seq
 (.reg [⟨some 13, .mv (.t 2), none, false, false, []⟩,
 ⟨some 14, .mv (.t 1), none, false, false, []⟩,
 ⟨some 15, .bin .sub (.t 13) (.t 14), none, false, false, []⟩,
 ⟨some 8, .mv (.t 15), none, false, false, []⟩])
 (.seq
 (.reg [⟨some 9, .alloc [(.int .i64 0)], none, false, false, []⟩])
 (.seq
 (.reg [⟨some 16, .mv (.t 1), none, false, false, []⟩,
 ⟨some 17, .mv (.t 8), none, false, false, []⟩,
 ⟨some 18, .bin .quo (.t 17) (.c (.v (.int .i64 4))), none, false, false, []⟩,
 ⟨some 19, .bin .mul (.t 18) (.c (.v (.int .i64 1))), none, false, false, []⟩,
 ⟨some 20, .bin .add (.t 16) (.t 19), none, false, false, []⟩,
 ⟨some 10, .mv (.t 20), none, false, false, []⟩])
 (.seq
 (.reg [⟨some 21, .mv (.t 1), none, false, false, []⟩,
 ⟨some 22, .mv (.t 8), none, false, false, []⟩,
 ⟨some 23, .bin .quo (.t 22) (.c (.v (.int .i64 4))), none, false, false, []⟩,
 ⟨some 24, .bin .mul (.t 23) (.c (.v (.int .i64 2))), none, false, false, []⟩,
 ⟨some 25, .bin .add (.t 21) (.t 24), none, false, false, []⟩,
 ⟨some 11, .mv (.t 25), none, false, false, []⟩])
 (.seq
 (.reg [⟨some 26, .mv (.t 1), none, false, false, []⟩,
 ⟨some 27, .mv (.t 8), none, false, false, []⟩,
 ⟨some 28, .bin .quo (.t 27) (.c (.v (.int .i64 4))), none, false, false, []⟩,
 ⟨some 29, .bin .mul (.t 28) (.c (.v (.int .i64 3))), none, false, false, []⟩,
 ⟨some 30, .bin .add (.t 26) (.t 29), none, false, false, []⟩,
 ⟨some 12, .mv (.t 30), none, false, false, []⟩])
 (.seq
 (.seq
 (.reg [⟨some 31, .mv (.t 8), none, false, false, []⟩,
 ⟨some 32, .bin .geq (.t 31) (.c (.v (.int .i64 8))), none, false, false, []⟩])
 (.cond (.t 32)
 (.seq
 (.seq
 (.reg [⟨some 33, .mv (.t 8), none, false, false, []⟩,
 ⟨some 34, .bin .geq (.t 33) (.c (.v (.int .i64 50))), none, false, false, []⟩])
 (.cond (.t 34)
 (.seq
 (.reg [⟨some 35, .mv (.t 0), none, false, false, []⟩,
 ⟨some 36, .mv (.t 10), none, false, false, []⟩,
 ⟨some 37, .call 197 [(.t 35), (.t 36), (.t 9)], none, false, false, [(.sl 1 []), .k, .k]⟩,
 ⟨some 10, .mv (.t 37), none, false, false, []⟩])
 (.seq
 (.reg [⟨some 38, .mv (.t 0), none, false, false, []⟩,
 ⟨some 39, .mv (.t 11), none, false, false, []⟩,
 ⟨some 40, .call 197 [(.t 38), (.t 39), (.t 9)], none, false, false, [(.sl 1 []), .k, .k]⟩,
 ⟨some 11, .mv (.t 40), none, false, false, []⟩])
 (.reg [⟨some 41, .mv (.t 0), none, false, false, []⟩,
 ⟨some 42, .mv (.t 12), none, false, false, []⟩,
 ⟨some 43, .call 197 [(.t 41), (.t 42), (.t 9)], none, false, false, [(.sl 1 []), .k, .k]⟩,
 ⟨some 12, .mv (.t 43), none, false, false, []⟩])
 )
 )
 .skip
 )
 )
 (.reg [⟨some 44, .mv (.t 0), none, false, false, []⟩,
 ⟨some 45, .mv (.t 10), none, false, false, []⟩,
 ⟨some 46, .mv (.t 11), none, false, false, []⟩,
 ⟨some 47, .mv (.t 12), none, false, false, []⟩,
 ⟨some 48, .call 198 [(.t 44), (.t 45), (.t 46), (.t 47), (.t 9)], none, false, false, [(.sl 1 []), .k, .k, .k, .k]⟩,
 ⟨some 11, .mv (.t 48), none, false, false, []⟩])
 )
 .skip
 )
 )
 (.seq
 (.reg [⟨some 49, .load false 1 (.t 9), none, false, false, []⟩])
 (.blk 0
 (.seq
 (.reg [⟨some 52, .bin .eql (.t 49) (.c (.v (.int .i64 0))), none, false, false, []⟩,
 ⟨some 51, .mv (.t 52), none, false, false, []⟩])
 (.cond (.t 51)
 (.seq
 (.reg [⟨some 53, .mv (.t 11), none, false, false, []⟩,
 ⟨some 6, .mv (.t 53), none, false, false, []⟩,
 ⟨some 7, .mv (.c (.v (.int .i64 1))), none, false, false, []⟩])
 (.norm [(6, .fz .k), (7, .fz .k)] .ret)
 )
 (.seq
 (.reg [⟨some 55, .bin .eql (.t 49) (.c (.v (.int .i64 12))), none, false, false, []⟩,
 ⟨some 54, .mv (.t 55), none, false, false, []⟩])
 (.cond (.t 54)
 (.seq
 (.reg [⟨some 56, .mv (.t 11), none, false, false, []⟩,
 ⟨some 6, .mv (.t 56), none, false, false, []⟩,
 ⟨some 7, .mv (.c (.v (.int .i64 2))), none, false, false, []⟩])
 (.norm [(6, .fz .k), (7, .fz .k)] .ret)
 )
 (.seq
 (.reg [⟨some 50, .mv (.t 11), none, false, false, []⟩,
 ⟨some 6, .mv (.t 50), none, false, false, []⟩,
 ⟨some 7, .mv (.c (.v (.int .i64 0))), none, false, false, []⟩])
 (.norm [(6, .fz .k), (7, .fz .k)] .ret)
 )
 )
 )
 )
 )
 )
 )
 )
 )
 )
 )
 )
 )
 )
def f180 : XFn := ⟨true, 57, [.t 6, .t 7], .k, x180⟩
/-! 181 slices.reverseRangeOrdered[int] (pf false): 3 parameters, 0 captured; names [0=data, 1=a, 2=b, 3=data, 4=a, 5=b, 6=i, 7=j] -/
/-- alive: 0 data; 6 i; 7 j -/
def x181a1 : List (Nat × Nk) := [(0, .co (.sl 1 [])), (6, .k), (7, .k)]
theorem x181a1n (s : XSt) : norm x181a1 s = norm [(0, .co (.sl 1 [])), (6, .k), (7, .k)] s := rfl
def x181b1 : XCode :=
 (.seq
 (.seq
 (.reg [⟨some 11, .mv (.t 6), none, false, false, []⟩,
 ⟨some 12, .mv (.t 7), none, false, false, []⟩,
 ⟨some 13, .bin .lss (.t 11) (.t 12), none, false, false, []⟩])
 (.cond (.t 13)
 .skip
 (.norm [] (.exit 0))
 )
 )
 (.blk 1
 (.seq
 (.reg [⟨some 14, .mv (.t 0), none, false, false, []⟩,
 ⟨some 15, .mv (.t 6), none, false, false, []⟩,
 ⟨some 16, .mv (.t 0), none, false, false, []⟩,
 ⟨some 17, .mv (.t 7), none, false, false, []⟩,
 ⟨some 18, .mv (.t 0), none, false, false, []⟩,
 ⟨some 19, .mv (.t 7), none, false, false, []⟩,
 ⟨some 20, .iad 1 (.t 18) (.t 19), none, false, false, []⟩,
 ⟨some 21, .load false 1 (.t 20), none, false, false, []⟩,
 ⟨some 22, .mv (.t 0), none, false, false, []⟩,
 ⟨some 23, .mv (.t 6), none, false, false, []⟩,
 ⟨some 24, .iad 1 (.t 22) (.t 23), none, false, false, []⟩,
 ⟨some 25, .load false 1 (.t 24), none, false, false, []⟩,
 ⟨some 26, .iad 1 (.t 14) (.t 15), none, false, false, []⟩,
 ⟨none, .store 1 (.t 26) (.t 21), none, false, false, []⟩,
 ⟨some 27, .iad 1 (.t 16) (.t 17), none, false, false, []⟩,
 ⟨none, .store 1 (.t 27) (.t 25), none, false, false, []⟩])
 (.seq
 (.reg [⟨some 28, .mv (.t 6), none, false, false, []⟩,
 ⟨some 29, .bin .add (.t 28) (.c (.v (.int .i64 1))), none, false, false, []⟩,
 ⟨some 6, .mv (.t 29), none, false, false, []⟩])
 (.reg [⟨some 30, .mv (.t 7), none, false, false, []⟩,
 ⟨some 31, .bin .sub (.t 30) (.c (.v (.int .i64 1))), none, false, false, []⟩,
 ⟨some 7, .mv (.t 31), none, false, false, []⟩])
 )
 )
 )
 )

def x181 : XCode :=
 (.seq
 (.reg [⟨some 8, .mv (.t 1), none, false, false, []⟩,
 ⟨some 6, .mv (.t 8), none, false, false, []⟩])
 (.seq
 (.reg [⟨some 9, .mv (.t 2), none, false, false, []⟩,
 ⟨some 10, .bin .sub (.t 9) (.c (.v (.int .i64 1))), none, false, false, []⟩,
 ⟨some 7, .mv (.t 10), none, false, false, []⟩])
 (.blk 0
 (.loop x181a1 x181b1)
 )
 )
 )
def f181 : XFn := ⟨false, 32, [], .k, x181⟩
/-! 182 slices.partialInsertionSortOrdered[int] (pf false): 3 parameters, 0 captured; names [0=data, 1=a, 2=b, 3=data, 4=a, 5=b, 7=i, 8=j, 9=j, 10=j] -/
/-- alive: 0 data; 1 a; 2 b; 7 i; 8 j -/
def x182a1 : List (Nat × Nk) := [(0, .co (.sl 1 [])), (1, .k), (2, .k), (7, .k), (8, .k)]
theorem x182a1n (s : XSt) : norm x182a1 s = norm [(0, .co (.sl 1 [])), (1, .k), (2, .k), (7, .k), (8, .k)] s := rfl
def x182b1 : XCode :=
 (.seq
 (.seq
 (.reg [⟨some 17, .mv (.t 7), none, false, false, []⟩,
 ⟨some 18, .mv (.t 2), none, false, false, []⟩,
 ⟨some 19, .bin .lss (.t 17) (.t 18), none, false, false, []⟩,
 ⟨some 20, .mv (.t 19), none, false, false, []⟩,
 ⟨some 21, .mv (.t 0), some (20, true), false, false, []⟩,
 ⟨some 22, .mv (.t 7), some (20, true), false, false, []⟩,
 ⟨some 23, .iad 1 (.t 21) (.t 22), some (20, true), false, false, []⟩,
 ⟨some 24, .load false 1 (.t 23), some (20, true), false, false, []⟩,
 ⟨some 25, .mv (.t 0), some (20, true), false, false, []⟩,
 ⟨some 26, .mv (.t 7), some (20, true), false, false, []⟩,
 ⟨some 27, .bin .sub (.t 26) (.c (.v (.int .i64 1))), some (20, true), false, false, []⟩,
 ⟨some 28, .iad 1 (.t 25) (.t 27), some (20, true), false, false, []⟩,
 ⟨some 29, .load false 1 (.t 28), some (20, true), false, false, []⟩,
 ⟨some 30, .call 183 [(.t 24), (.t 29)], some (20, true), false, false, []⟩,
 ⟨some 31, .not (.t 30), some (20, true), false, false, []⟩,
 ⟨some 32, .pick (.t 20) (.t 31) (.c (.v (.bool false))), none, false, false, []⟩])
 (.cond (.t 32)
 .skip
 (.norm [(0, .co (.sl 1 [])), (1, .k), (2, .k), (7, .k), (8, .k)] (.exit 2))
 )
 )
 (.blk 3
 (.reg [⟨some 33, .mv (.t 7), none, false, false, []⟩,
 ⟨some 34, .bin .add (.t 33) (.c (.v (.int .i64 1))), none, false, false, []⟩,
 ⟨some 7, .mv (.t 34), none, false, false, []⟩])
 )
 )

/-- alive: 0 data; 1 a; 2 b; 7 i; 8 j; 9 j -/
def x182a2 : List (Nat × Nk) := [(0, .co (.sl 1 [])), (1, .k), (2, .k), (7, .k), (8, .k), (9, .k)]
theorem x182a2n (s : XSt) : norm x182a2 s = norm [(0, .co (.sl 1 [])), (1, .k), (2, .k), (7, .k), (8, .k), (9, .k)] s := rfl
def x182b2 : XCode :=
 (.seq
 (.seq
 (.reg [⟨some 64, .mv (.t 9), none, false, false, []⟩,
 ⟨some 65, .bin .geq (.t 64) (.c (.v (.int .i64 1))), none, false, false, []⟩])
 (.cond (.t 65)
 .skip
 (.norm [(0, .co (.sl 1 [])), (1, .k), (2, .k), (7, .k), (8, .k)] (.exit 4))
 )
 )
 (.seq
 (.blk 5
 (.seq
 (.seq
 (.reg [⟨some 68, .mv (.t 0), none, false, false, []⟩,
 ⟨some 69, .mv (.t 9), none, false, false, []⟩,
 ⟨some 70, .iad 1 (.t 68) (.t 69), none, false, false, []⟩,
 ⟨some 71, .load false 1 (.t 70), none, false, false, []⟩,
 ⟨some 72, .mv (.t 0), none, false, false, []⟩,
 ⟨some 73, .mv (.t 9), none, false, false, []⟩,
 ⟨some 74, .bin .sub (.t 73) (.c (.v (.int .i64 1))), none, false, false, []⟩,
 ⟨some 75, .iad 1 (.t 72) (.t 74), none, false, false, []⟩,
 ⟨some 76, .load false 1 (.t 75), none, false, false, []⟩,
 ⟨some 77, .call 183 [(.t 71), (.t 76)], none, false, false, []⟩,
 ⟨some 78, .not (.t 77), none, false, false, []⟩])
 (.cond (.t 78)
 (.norm [(0, .co (.sl 1 [])), (1, .k), (2, .k), (7, .k), (8, .k)] (.exit 4))
 .skip
 )
 )
 (.reg [⟨some 79, .mv (.t 0), none, false, false, []⟩,
 ⟨some 80, .mv (.t 9), none, false, false, []⟩,
 ⟨some 81, .mv (.t 0), none, false, false, []⟩,
 ⟨some 82, .mv (.t 9), none, false, false, []⟩,
 ⟨some 83, .bin .sub (.t 82) (.c (.v (.int .i64 1))), none, false, false, []⟩,
 ⟨some 84, .mv (.t 0), none, false, false, []⟩,
 ⟨some 85, .mv (.t 9), none, false, false, []⟩,
 ⟨some 86, .bin .sub (.t 85) (.c (.v (.int .i64 1))), none, false, false, []⟩,
 ⟨some 87, .iad 1 (.t 84) (.t 86), none, false, false, []⟩,
 ⟨some 88, .load false 1 (.t 87), none, false, false, []⟩,
 ⟨some 89, .mv (.t 0), none, false, false, []⟩,
 ⟨some 90, .mv (.t 9), none, false, false, []⟩,
 ⟨some 91, .iad 1 (.t 89) (.t 90), none, false, false, []⟩,
 ⟨some 92, .load false 1 (.t 91), none, false, false, []⟩,
 ⟨some 93, .iad 1 (.t 79) (.t 80), none, false, false, []⟩,
 ⟨none, .store 1 (.t 93) (.t 88), none, false, false, []⟩,
 ⟨some 94, .iad 1 (.t 81) (.t 83), none, false, false, []⟩,
 ⟨none, .store 1 (.t 94) (.t 92), none, false, false, []⟩])
 )
 )
 (.reg [⟨some 66, .mv (.t 9), none, false, false, []⟩,
 ⟨some 67, .bin .sub (.t 66) (.c (.v (.int .i64 1))), none, false, false, []⟩,
 ⟨some 9, .mv (.t 67), none, false, false, []⟩])
 )
 )

/-- alive: 0 data; 1 a; 2 b; 7 i; 8 j; 10 j -/
def x182a3 : List (Nat × Nk) := [(0, .co (.sl 1 [])), (1, .k), (2, .k), (7, .k), (8, .k), (10, .k)]
theorem x182a3n (s : XSt) : norm x182a3 s = norm [(0, .co (.sl 1 [])), (1, .k), (2, .k), (7, .k), (8, .k), (10, .k)] s := rfl
def x182b3 : XCode :=
 (.seq
 (.seq
 (.reg [⟨some 101, .mv (.t 10), none, false, false, []⟩,
 ⟨some 102, .mv (.t 2), none, false, false, []⟩,
 ⟨some 103, .bin .lss (.t 101) (.t 102), none, false, false, []⟩])
 (.cond (.t 103)
 .skip
 (.norm [(0, .co (.sl 1 [])), (1, .k), (2, .k), (7, .k), (8, .k)] (.exit 6))
 )
 )
 (.seq
 (.blk 7
 (.seq
 (.seq
 (.reg [⟨some 106, .mv (.t 0), none, false, false, []⟩,
 ⟨some 107, .mv (.t 10), none, false, false, []⟩,
 ⟨some 108, .iad 1 (.t 106) (.t 107), none, false, false, []⟩,
 ⟨some 109, .load false 1 (.t 108), none, false, false, []⟩,
 ⟨some 110, .mv (.t 0), none, false, false, []⟩,
 ⟨some 111, .mv (.t 10), none, false, false, []⟩,
 ⟨some 112, .bin .sub (.t 111) (.c (.v (.int .i64 1))), none, false, false, []⟩,
 ⟨some 113, .iad 1 (.t 110) (.t 112), none, false, false, []⟩,
 ⟨some 114, .load false 1 (.t 113), none, false, false, []⟩,
 ⟨some 115, .call 183 [(.t 109), (.t 114)], none, false, false, []⟩,
 ⟨some 116, .not (.t 115), none, false, false, []⟩])
 (.cond (.t 116)
 (.norm [(0, .co (.sl 1 [])), (1, .k), (2, .k), (7, .k), (8, .k)] (.exit 6))
 .skip
 )
 )
 (.reg [⟨some 117, .mv (.t 0), none, false, false, []⟩,
 ⟨some 118, .mv (.t 10), none, false, false, []⟩,
 ⟨some 119, .mv (.t 0), none, false, false, []⟩,
 ⟨some 120, .mv (.t 10), none, false, false, []⟩,
 ⟨some 121, .bin .sub (.t 120) (.c (.v (.int .i64 1))), none, false, false, []⟩,
 ⟨some 122, .mv (.t 0), none, false, false, []⟩,
 ⟨some 123, .mv (.t 10), none, false, false, []⟩,
 ⟨some 124, .bin .sub (.t 123) (.c (.v (.int .i64 1))), none, false, false, []⟩,
 ⟨some 125, .iad 1 (.t 122) (.t 124), none, false, false, []⟩,
 ⟨some 126, .load false 1 (.t 125), none, false, false, []⟩,
 ⟨some 127, .mv (.t 0), none, false, false, []⟩,
 ⟨some 128, .mv (.t 10), none, false, false, []⟩,
 ⟨some 129, .iad 1 (.t 127) (.t 128), none, false, false, []⟩,
 ⟨some 130, .load false 1 (.t 129), none, false, false, []⟩,
 ⟨some 131, .iad 1 (.t 117) (.t 118), none, false, false, []⟩,
 ⟨none, .store 1 (.t 131) (.t 126), none, false, false, []⟩,
 ⟨some 132, .iad 1 (.t 119) (.t 121), none, false, false, []⟩,
 ⟨none, .store 1 (.t 132) (.t 130), none, false, false, []⟩])
 )
 )
 (.reg [⟨some 104, .mv (.t 10), none, false, false, []⟩,
 ⟨some 105, .bin .add (.t 104) (.c (.v (.int .i64 1))), none, false, false, []⟩,
 ⟨some 10, .mv (.t 105), none, false, false, []⟩])
 )
 )

/-- alive: 0 data; 1 a; 2 b; 7 i; 8 j -/
def x182a4 : List (Nat × Nk) := [(0, .co (.sl 1 [])), (1, .k), (2, .k), (7, .k), (8, .k)]
theorem x182a4n (s : XSt) : norm x182a4 s = norm [(0, .co (.sl 1 [])), (1, .k), (2, .k), (7, .k), (8, .k)] s := rfl
def x182b4 : XCode :=
 (.seq
 (.seq
 (.reg [⟨some 13, .mv (.t 8), none, false, false, []⟩,
 ⟨some 14, .bin .lss (.t 13) (.c (.v (.int .i64 5))), none, false, false, []⟩])
 (.cond (.t 14)
 .skip
 (.norm [] (.exit 0))
 )
 )
 (.seq
 (.blk 1
 (.seq
 (.blk 2
 (.loop x182a1 x182b1)
 )
 (.seq
 (.seq
 (.reg [⟨some 35, .mv (.t 7), none, false, false, []⟩,
 ⟨some 36, .mv (.t 2), none, false, false, []⟩,
 ⟨some 37, .bin .eql (.t 35) (.t 36), none, false, false, []⟩])
 (.cond (.t 37)
 (.seq
 (.reg [⟨some 6, .mv (.c (.v (.bool true))), none, false, false, []⟩])
 (.norm [(6, .k)] .ret)
 )
 .skip
 )
 )
 (.seq
 (.seq
 (.reg [⟨some 38, .mv (.t 2), none, false, false, []⟩,
 ⟨some 39, .mv (.t 1), none, false, false, []⟩,
 ⟨some 40, .bin .sub (.t 38) (.t 39), none, false, false, []⟩,
 ⟨some 41, .bin .lss (.t 40) (.c (.v (.int .i64 50))), none, false, false, []⟩])
 (.cond (.t 41)
 (.seq
 (.reg [⟨some 6, .mv (.c (.v (.bool false))), none, false, false, []⟩])
 (.norm [(6, .k)] .ret)
 )
 .skip
 )
 )
 (.seq
 (.reg [⟨some 42, .mv (.t 0), none, false, false, []⟩,
 ⟨some 43, .mv (.t 7), none, false, false, []⟩,
 ⟨some 44, .mv (.t 0), none, false, false, []⟩,
 ⟨some 45, .mv (.t 7), none, false, false, []⟩,
 ⟨some 46, .bin .sub (.t 45) (.c (.v (.int .i64 1))), none, false, false, []⟩,
 ⟨some 47, .mv (.t 0), none, false, false, []⟩,
 ⟨some 48, .mv (.t 7), none, false, false, []⟩,
 ⟨some 49, .bin .sub (.t 48) (.c (.v (.int .i64 1))), none, false, false, []⟩,
 ⟨some 50, .iad 1 (.t 47) (.t 49), none, false, false, []⟩,
 ⟨some 51, .load false 1 (.t 50), none, false, false, []⟩,
 ⟨some 52, .mv (.t 0), none, false, false, []⟩,
 ⟨some 53, .mv (.t 7), none, false, false, []⟩,
 ⟨some 54, .iad 1 (.t 52) (.t 53), none, false, false, []⟩,
 ⟨some 55, .load false 1 (.t 54), none, false, false, []⟩,
 ⟨some 56, .iad 1 (.t 42) (.t 43), none, false, false, []⟩,
 ⟨none, .store 1 (.t 56) (.t 51), none, false, false, []⟩,
 ⟨some 57, .iad 1 (.t 44) (.t 46), none, false, false, []⟩,
 ⟨none, .store 1 (.t 57) (.t 55), none, false, false, []⟩])
 (.seq
 (.seq
 (.reg [⟨some 58, .mv (.t 7), none, false, false, []⟩,
 ⟨some 59, .mv (.t 1), none, false, false, []⟩,
 ⟨some 60, .bin .sub (.t 58) (.t 59), none, false, false, []⟩,
 ⟨some 61, .bin .geq (.t 60) (.c (.v (.int .i64 2))), none, false, false, []⟩])
 (.cond (.t 61)
 (.seq
 (.reg [⟨some 62, .mv (.t 7), none, false, false, []⟩,
 ⟨some 63, .bin .sub (.t 62) (.c (.v (.int .i64 1))), none, false, false, []⟩,
 ⟨some 9, .mv (.t 63), none, false, false, []⟩])
 (.blk 4
 (.loop x182a2 x182b2)
 )
 )
 .skip
 )
 )
 (.seq
 (.reg [⟨some 95, .mv (.t 2), none, false, false, []⟩,
 ⟨some 96, .mv (.t 7), none, false, false, []⟩,
 ⟨some 97, .bin .sub (.t 95) (.t 96), none, false, false, []⟩,
 ⟨some 98, .bin .geq (.t 97) (.c (.v (.int .i64 2))), none, false, false, []⟩])
 (.cond (.t 98)
 (.seq
 (.reg [⟨some 99, .mv (.t 7), none, false, false, []⟩,
 ⟨some 100, .bin .add (.t 99) (.c (.v (.int .i64 1))), none, false, false, []⟩,
 ⟨some 10, .mv (.t 100), none, false, false, []⟩])
 (.blk 6
 (.loop x182a3 x182b3)
 )
 )
 .skip
 )
 )
 )
 )
 )
 )
 )
 )
 (.reg [⟨some 15, .mv (.t 8), none, false, false, []⟩,
 ⟨some 16, .bin .add (.t 15) (.c (.v (.int .i64 1))), none, false, false, []⟩,
 ⟨some 8, .mv (.t 16), none, false, false, []⟩])
 )
 )

def x182 : XCode :=
 (.seq
 (.reg [⟨some 6, .mv (.c (.v (.bool false))), none, false, false, []⟩])
 (.seq
 (.reg [⟨some 11, .mv (.t 1), none, false, false, []⟩,
 ⟨some 12, .bin .add (.t 11) (.c (.v (.int .i64 1))), none, false, false, []⟩,
 ⟨some 7, .mv (.t 12), none, false, false, []⟩])
 (.seq
 (.seq
 (.reg [⟨some 8, .mv (.c (.v (.int .i64 0))), none, false, false, []⟩])
 (.blk 0
 (.loop x182a4 x182b4)
 )
 )
 (.seq
 (.reg [⟨some 6, .mv (.c (.v (.bool false))), none, false, false, []⟩])
 (.norm [(6, .k)] .ret)
 )
 )
 )
 )
def f182 : XFn := ⟨false, 133, [.t 6], .k, x182⟩
/-! 183 cmp.Less[int] (pf true): 2 parameters, 0 captured; names [0=x, 1=y, 2=x, 3=y] -/
def x183 : XCode :=
 (.seq
 (.reg [⟨some 4, .mv (.c (.v (.bool false))), none, false, false, []⟩])
 (.seq
 (.reg [⟨some 5, .mv (.t 0), none, false, false, []⟩,
 ⟨some 6, .call 199 [(.t 5)], none, false, false, []⟩,
 ⟨some 7, .mv (.t 6), none, false, false, []⟩,
 ⟨some 8, .mv (.t 1), some (7, true), false, false, []⟩,
 ⟨some 9, .call 199 [(.t 8)], some (7, true), false, false, []⟩,
 ⟨some 10, .not (.t 9), some (7, true), false, false, []⟩,
 ⟨some 11, .pick (.t 7) (.t 10) (.c (.v (.bool false))), none, false, false, []⟩,
 ⟨some 12, .mv (.t 11), none, false, false, []⟩,
 ⟨some 13, .mv (.t 0), some (12, false), false, false, []⟩,
 ⟨some 14, .mv (.t 1), some (12, false), false, false, []⟩,
 ⟨some 15, .bin .lss (.t 13) (.t 14), some (12, false), false, false, []⟩,
 ⟨some 16, .pick (.t 12) (.c (.v (.bool true))) (.t 15), none, false, false, []⟩,
 ⟨some 4, .mv (.t 16), none, false, false, []⟩])
 (.norm [(4, .fz .k)] .ret)
 )
 )
def f183 : XFn := ⟨true, 17, [.t 4], .k, x183⟩
/-! 184 slices.partitionEqualOrdered[int] (pf false): 4 parameters, 0 captured; names [0=data, 1=a, 2=b, 3=pivot, 4=data, 5=a, 6=b, 7=pivot, 8=newpivot, 9=i, 10=j] -/
/-- alive: 0 data; 1 a; 9 i; 10 j -/
def x184a1 : List (Nat × Nk) := [(0, .co (.sl 1 [])), (1, .k), (9, .k), (10, .k)]
theorem x184a1n (s : XSt) : norm x184a1 s = norm [(0, .co (.sl 1 [])), (1, .k), (9, .k), (10, .k)] s := rfl
def x184b1 : XCode :=
 (.seq
 (.seq
 (.reg [⟨some 29, .mv (.t 9), none, false, false, []⟩,
 ⟨some 30, .mv (.t 10), none, false, false, []⟩,
 ⟨some 31, .bin .leq (.t 29) (.t 30), none, false, false, []⟩,
 ⟨some 32, .mv (.t 31), none, false, false, []⟩,
 ⟨some 33, .mv (.t 0), some (32, true), false, false, []⟩,
 ⟨some 34, .mv (.t 1), some (32, true), false, false, []⟩,
 ⟨some 35, .iad 1 (.t 33) (.t 34), some (32, true), false, false, []⟩,
 ⟨some 36, .load false 1 (.t 35), some (32, true), false, false, []⟩,
 ⟨some 37, .mv (.t 0), some (32, true), false, false, []⟩,
 ⟨some 38, .mv (.t 9), some (32, true), false, false, []⟩,
 ⟨some 39, .iad 1 (.t 37) (.t 38), some (32, true), false, false, []⟩,
 ⟨some 40, .load false 1 (.t 39), some (32, true), false, false, []⟩,
 ⟨some 41, .call 183 [(.t 36), (.t 40)], some (32, true), false, false, []⟩,
 ⟨some 42, .not (.t 41), some (32, true), false, false, []⟩,
 ⟨some 43, .pick (.t 32) (.t 42) (.c (.v (.bool false))), none, false, false, []⟩])
 (.cond (.t 43)
 .skip
 (.norm [(0, .co (.sl 1 [])), (1, .k), (9, .k), (10, .k)] (.exit 2))
 )
 )
 (.blk 3
 (.reg [⟨some 44, .mv (.t 9), none, false, false, []⟩,
 ⟨some 45, .bin .add (.t 44) (.c (.v (.int .i64 1))), none, false, false, []⟩,
 ⟨some 9, .mv (.t 45), none, false, false, []⟩])
 )
 )

/-- alive: 0 data; 1 a; 9 i; 10 j -/
def x184a2 : List (Nat × Nk) := [(0, .co (.sl 1 [])), (1, .k), (9, .k), (10, .k)]
theorem x184a2n (s : XSt) : norm x184a2 s = norm [(0, .co (.sl 1 [])), (1, .k), (9, .k), (10, .k)] s := rfl
def x184b2 : XCode :=
 (.seq
 (.seq
 (.reg [⟨some 46, .mv (.t 9), none, false, false, []⟩,
 ⟨some 47, .mv (.t 10), none, false, false, []⟩,
 ⟨some 48, .bin .leq (.t 46) (.t 47), none, false, false, []⟩,
 ⟨some 49, .mv (.t 48), none, false, false, []⟩,
 ⟨some 50, .mv (.t 0), some (49, true), false, false, []⟩,
 ⟨some 51, .mv (.t 1), some (49, true), false, false, []⟩,
 ⟨some 52, .iad 1 (.t 50) (.t 51), some (49, true), false, false, []⟩,
 ⟨some 53, .load false 1 (.t 52), some (49, true), false, false, []⟩,
 ⟨some 54, .mv (.t 0), some (49, true), false, false, []⟩,
 ⟨some 55, .mv (.t 10), some (49, true), false, false, []⟩,
 ⟨some 56, .iad 1 (.t 54) (.t 55), some (49, true), false, false, []⟩,
 ⟨some 57, .load false 1 (.t 56), some (49, true), false, false, []⟩,
 ⟨some 58, .call 183 [(.t 53), (.t 57)], some (49, true), false, false, []⟩,
 ⟨some 59, .pick (.t 49) (.t 58) (.c (.v (.bool false))), none, false, false, []⟩])
 (.cond (.t 59)
 .skip
 (.norm [(0, .co (.sl 1 [])), (1, .k), (9, .k), (10, .k)] (.exit 4))
 )
 )
 (.blk 5
 (.reg [⟨some 60, .mv (.t 10), none, false, false, []⟩,
 ⟨some 61, .bin .sub (.t 60) (.c (.v (.int .i64 1))), none, false, false, []⟩,
 ⟨some 10, .mv (.t 61), none, false, false, []⟩])
 )
 )

/-- alive: 0 data; 1 a; 9 i; 10 j -/
def x184a3 : List (Nat × Nk) := [(0, .co (.sl 1 [])), (1, .k), (9, .k), (10, .k)]
theorem x184a3n (s : XSt) : norm x184a3 s = norm [(0, .co (.sl 1 [])), (1, .k), (9, .k), (10, .k)] s := rfl
def x184b3 : XCode :=
 (.blk 1
 (.seq
 (.blk 2
 (.loop x184a1 x184b1)
 )
 (.seq
 (.blk 4
 (.loop x184a2 x184b2)
 )
 (.seq
 (.seq
 (.reg [⟨some 62, .mv (.t 9), none, false, false, []⟩,
 ⟨some 63, .mv (.t 10), none, false, false, []⟩,
 ⟨some 64, .bin .gtr (.t 62) (.t 63), none, false, false, []⟩])
 (.cond (.t 64)
 (.norm [(9, .k)] (.exit 0))
 .skip
 )
 )
 (.seq
 (.reg [⟨some 65, .mv (.t 0), none, false, false, []⟩,
 ⟨some 66, .mv (.t 9), none, false, false, []⟩,
 ⟨some 67, .mv (.t 0), none, false, false, []⟩,
 ⟨some 68, .mv (.t 10), none, false, false, []⟩,
 ⟨some 69, .mv (.t 0), none, false, false, []⟩,
 ⟨some 70, .mv (.t 10), none, false, false, []⟩,
 ⟨some 71, .iad 1 (.t 69) (.t 70), none, false, false, []⟩,
 ⟨some 72, .load false 1 (.t 71), none, false, false, []⟩,
 ⟨some 73, .mv (.t 0), none, false, false, []⟩,
 ⟨some 74, .mv (.t 9), none, false, false, []⟩,
 ⟨some 75, .iad 1 (.t 73) (.t 74), none, false, false, []⟩,
 ⟨some 76, .load false 1 (.t 75), none, false, false, []⟩,
 ⟨some 77, .iad 1 (.t 65) (.t 66), none, false, false, []⟩,
 ⟨none, .store 1 (.t 77) (.t 72), none, false, false, []⟩,
 ⟨some 78, .iad 1 (.t 67) (.t 68), none, false, false, []⟩,
 ⟨none, .store 1 (.t 78) (.t 76), none, false, false, []⟩])
 (.seq
 (.reg [⟨some 79, .mv (.t 9), none, false, false, []⟩,
 ⟨some 80, .bin .add (.t 79) (.c (.v (.int .i64 1))), none, false, false, []⟩,
 ⟨some 9, .mv (.t 80), none, false, false, []⟩])
 (.reg [⟨some 81, .mv (.t 10), none, false, false, []⟩,
 ⟨some 82, .bin .sub (.t 81) (.c (.v (.int .i64 1))), none, false, false, []⟩,
 ⟨some 10, .mv (.t 82), none, false, false, []⟩])
 )
 )
 )
 )
 )
 )

def x184 : XCode :=
 (.seq
 (.reg [⟨some 8, .mv (.c (.v (.int .i64 0))), none, false, false, []⟩])
 (.seq
 (.reg [⟨some 11, .mv (.t 0), none, false, false, []⟩,
 ⟨some 12, .mv (.t 1), none, false, false, []⟩,
 ⟨some 13, .mv (.t 0), none, false, false, []⟩,
 ⟨some 14, .mv (.t 3), none, false, false, []⟩,
 ⟨some 15, .mv (.t 0), none, false, false, []⟩,
 ⟨some 16, .mv (.t 3), none, false, false, []⟩,
 ⟨some 17, .iad 1 (.t 15) (.t 16), none, false, false, []⟩,
 ⟨some 18, .load false 1 (.t 17), none, false, false, []⟩,
 ⟨some 19, .mv (.t 0), none, false, false, []⟩,
 ⟨some 20, .mv (.t 1), none, false, false, []⟩,
 ⟨some 21, .iad 1 (.t 19) (.t 20), none, false, false, []⟩,
 ⟨some 22, .load false 1 (.t 21), none, false, false, []⟩,
 ⟨some 23, .iad 1 (.t 11) (.t 12), none, false, false, []⟩,
 ⟨none, .store 1 (.t 23) (.t 18), none, false, false, []⟩,
 ⟨some 24, .iad 1 (.t 13) (.t 14), none, false, false, []⟩,
 ⟨none, .store 1 (.t 24) (.t 22), none, false, false, []⟩])
 (.seq
 (.reg [⟨some 25, .mv (.t 1), none, false, false, []⟩,
 ⟨some 26, .bin .add (.t 25) (.c (.v (.int .i64 1))), none, false, false, []⟩,
 ⟨some 27, .mv (.t 2), none, false, false, []⟩,
 ⟨some 28, .bin .sub (.t 27) (.c (.v (.int .i64 1))), none, false, false, []⟩,
 ⟨some 9, .mv (.t 26), none, false, false, []⟩,
 ⟨some 10, .mv (.t 28), none, false, false, []⟩])
 (.seq
 (.blk 0
 (.loop x184a3 x184b3)
 )
 (.seq
 (.reg [⟨some 83, .mv (.t 9), none, false, false, []⟩,
 ⟨some 8, .mv (.t 83), none, false, false, []⟩])
 (.norm [(8, .k)] .ret)
 )
 )
 )
 )
 )
def f184 : XFn := ⟨false, 84, [.t 8], .k, x184⟩
/-! 185 slices.partitionOrdered[int] (pf false): 4 parameters, 0 captured; names [0=data, 1=a, 2=b, 3=pivot, 4=data, 5=a, 6=b, 7=pivot, 8=newpivot, 9=alreadyPartitioned, 10=i, 11=j] -/
/-- alive: 0 data; 1 a; 10 i; 11 j -/
def x185a1 : List (Nat × Nk) := [(0, .co (.sl 1 [])), (1, .k), (10, .k), (11, .k)]
theorem x185a1n (s : XSt) : norm x185a1 s = norm [(0, .co (.sl 1 [])), (1, .k), (10, .k), (11, .k)] s := rfl
def x185b1 : XCode :=
 (.seq
 (.seq
 (.reg [⟨some 30, .mv (.t 10), none, false, false, []⟩,
 ⟨some 31, .mv (.t 11), none, false, false, []⟩,
 ⟨some 32, .bin .leq (.t 30) (.t 31), none, false, false, []⟩,
 ⟨some 33, .mv (.t 32), none, false, false, []⟩,
 ⟨some 34, .mv (.t 0), some (33, true), false, false, []⟩,
 ⟨some 35, .mv (.t 10), some (33, true), false, false, []⟩,
 ⟨some 36, .iad 1 (.t 34) (.t 35), some (33, true), false, false, []⟩,
 ⟨some 37, .load false 1 (.t 36), some (33, true), false, false, []⟩,
 ⟨some 38, .mv (.t 0), some (33, true), false, false, []⟩,
 ⟨some 39, .mv (.t 1), some (33, true), false, false, []⟩,
 ⟨some 40, .iad 1 (.t 38) (.t 39), some (33, true), false, false, []⟩,
 ⟨some 41, .load false 1 (.t 40), some (33, true), false, false, []⟩,
 ⟨some 42, .call 183 [(.t 37), (.t 41)], some (33, true), false, false, []⟩,
 ⟨some 43, .pick (.t 33) (.t 42) (.c (.v (.bool false))), none, false, false, []⟩])
 (.cond (.t 43)
 .skip
 (.norm [(0, .co (.sl 1 [])), (1, .k), (10, .k), (11, .k)] (.exit 0))
 )
 )
 (.blk 1
 (.reg [⟨some 44, .mv (.t 10), none, false, false, []⟩,
 ⟨some 45, .bin .add (.t 44) (.c (.v (.int .i64 1))), none, false, false, []⟩,
 ⟨some 10, .mv (.t 45), none, false, false, []⟩])
 )
 )

/-- alive: 0 data; 1 a; 10 i; 11 j -/
def x185a2 : List (Nat × Nk) := [(0, .co (.sl 1 [])), (1, .k), (10, .k), (11, .k)]
theorem x185a2n (s : XSt) : norm x185a2 s = norm [(0, .co (.sl 1 [])), (1, .k), (10, .k), (11, .k)] s := rfl
def x185b2 : XCode :=
 (.seq
 (.seq
 (.reg [⟨some 46, .mv (.t 10), none, false, false, []⟩,
 ⟨some 47, .mv (.t 11), none, false, false, []⟩,
 ⟨some 48, .bin .leq (.t 46) (.t 47), none, false, false, []⟩,
 ⟨some 49, .mv (.t 48), none, false, false, []⟩,
 ⟨some 50, .mv (.t 0), some (49, true), false, false, []⟩,
 ⟨some 51, .mv (.t 11), some (49, true), false, false, []⟩,
 ⟨some 52, .iad 1 (.t 50) (.t 51), some (49, true), false, false, []⟩,
 ⟨some 53, .load false 1 (.t 52), some (49, true), false, false, []⟩,
 ⟨some 54, .mv (.t 0), some (49, true), false, false, []⟩,
 ⟨some 55, .mv (.t 1), some (49, true), false, false, []⟩,
 ⟨some 56, .iad 1 (.t 54) (.t 55), some (49, true), false, false, []⟩,
 ⟨some 57, .load false 1 (.t 56), some (49, true), false, false, []⟩,
 ⟨some 58, .call 183 [(.t 53), (.t 57)], some (49, true), false, false, []⟩,
 ⟨some 59, .not (.t 58), some (49, true), false, false, []⟩,
 ⟨some 60, .pick (.t 49) (.t 59) (.c (.v (.bool false))), none, false, false, []⟩])
 (.cond (.t 60)
 .skip
 (.norm [(0, .co (.sl 1 [])), (1, .k), (10, .k), (11, .k)] (.exit 2))
 )
 )
 (.blk 3
 (.reg [⟨some 61, .mv (.t 11), none, false, false, []⟩,
 ⟨some 62, .bin .sub (.t 61) (.c (.v (.int .i64 1))), none, false, false, []⟩,
 ⟨some 11, .mv (.t 62), none, false, false, []⟩])
 )
 )

/-- alive: 0 data; 1 a; 10 i; 11 j -/
def x185a3 : List (Nat × Nk) := [(0, .co (.sl 1 [])), (1, .k), (10, .k), (11, .k)]
theorem x185a3n (s : XSt) : norm x185a3 s = norm [(0, .co (.sl 1 [])), (1, .k), (10, .k), (11, .k)] s := rfl
def x185b3 : XCode :=
 (.seq
 (.seq
 (.reg [⟨some 99, .mv (.t 10), none, false, false, []⟩,
 ⟨some 100, .mv (.t 11), none, false, false, []⟩,
 ⟨some 101, .bin .leq (.t 99) (.t 100), none, false, false, []⟩,
 ⟨some 102, .mv (.t 101), none, false, false, []⟩,
 ⟨some 103, .mv (.t 0), some (102, true), false, false, []⟩,
 ⟨some 104, .mv (.t 10), some (102, true), false, false, []⟩,
 ⟨some 105, .iad 1 (.t 103) (.t 104), some (102, true), false, false, []⟩,
 ⟨some 106, .load false 1 (.t 105), some (102, true), false, false, []⟩,
 ⟨some 107, .mv (.t 0), some (102, true), false, false, []⟩,
 ⟨some 108, .mv (.t 1), some (102, true), false, false, []⟩,
 ⟨some 109, .iad 1 (.t 107) (.t 108), some (102, true), false, false, []⟩,
 ⟨some 110, .load false 1 (.t 109), some (102, true), false, false, []⟩,
 ⟨some 111, .call 183 [(.t 106), (.t 110)], some (102, true), false, false, []⟩,
 ⟨some 112, .pick (.t 102) (.t 111) (.c (.v (.bool false))), none, false, false, []⟩])
 (.cond (.t 112)
 .skip
 (.norm [(0, .co (.sl 1 [])), (1, .k), (10, .k), (11, .k)] (.exit 6))
 )
 )
 (.blk 7
 (.reg [⟨some 113, .mv (.t 10), none, false, false, []⟩,
 ⟨some 114, .bin .add (.t 113) (.c (.v (.int .i64 1))), none, false, false, []⟩,
 ⟨some 10, .mv (.t 114), none, false, false, []⟩])
 )
 )

/-- alive: 0 data; 1 a; 10 i; 11 j -/
def x185a4 : List (Nat × Nk) := [(0, .co (.sl 1 [])), (1, .k), (10, .k), (11, .k)]
theorem x185a4n (s : XSt) : norm x185a4 s = norm [(0, .co (.sl 1 [])), (1, .k), (10, .k), (11, .k)] s := rfl
def x185b4 : XCode :=
 (.seq
 (.seq
 (.reg [⟨some 115, .mv (.t 10), none, false, false, []⟩,
 ⟨some 116, .mv (.t 11), none, false, false, []⟩,
 ⟨some 117, .bin .leq (.t 115) (.t 116), none, false, false, []⟩,
 ⟨some 118, .mv (.t 117), none, false, false, []⟩,
 ⟨some 119, .mv (.t 0), some (118, true), false, false, []⟩,
 ⟨some 120, .mv (.t 11), some (118, true), false, false, []⟩,
 ⟨some 121, .iad 1 (.t 119) (.t 120), some (118, true), false, false, []⟩,
 ⟨some 122, .load false 1 (.t 121), some (118, true), false, false, []⟩,
 ⟨some 123, .mv (.t 0), some (118, true), false, false, []⟩,
 ⟨some 124, .mv (.t 1), some (118, true), false, false, []⟩,
 ⟨some 125, .iad 1 (.t 123) (.t 124), some (118, true), false, false, []⟩,
 ⟨some 126, .load false 1 (.t 125), some (118, true), false, false, []⟩,
 ⟨some 127, .call 183 [(.t 122), (.t 126)], some (118, true), false, false, []⟩,
 ⟨some 128, .not (.t 127), some (118, true), false, false, []⟩,
 ⟨some 129, .pick (.t 118) (.t 128) (.c (.v (.bool false))), none, false, false, []⟩])
 (.cond (.t 129)
 .skip
 (.norm [(0, .co (.sl 1 [])), (1, .k), (10, .k), (11, .k)] (.exit 8))
 )
 )
 (.blk 9
 (.reg [⟨some 130, .mv (.t 11), none, false, false, []⟩,
 ⟨some 131, .bin .sub (.t 130) (.c (.v (.int .i64 1))), none, false, false, []⟩,
 ⟨some 11, .mv (.t 131), none, false, false, []⟩])
 )
 )

/-- alive: 0 data; 1 a; 10 i; 11 j -/
def x185a5 : List (Nat × Nk) := [(0, .co (.sl 1 [])), (1, .k), (10, .k), (11, .k)]
theorem x185a5n (s : XSt) : norm x185a5 s = norm [(0, .co (.sl 1 [])), (1, .k), (10, .k), (11, .k)] s := rfl
def x185b5 : XCode :=
 (.blk 5
 (.seq
 (.blk 6
 (.loop x185a3 x185b3)
 )
 (.seq
 (.blk 8
 (.loop x185a4 x185b4)
 )
 (.seq
 (.seq
 (.reg [⟨some 132, .mv (.t 10), none, false, false, []⟩,
 ⟨some 133, .mv (.t 11), none, false, false, []⟩,
 ⟨some 134, .bin .gtr (.t 132) (.t 133), none, false, false, []⟩])
 (.cond (.t 134)
 (.norm [(0, .co (.sl 1 [])), (1, .k), (11, .k)] (.exit 4))
 .skip
 )
 )
 (.seq
 (.reg [⟨some 135, .mv (.t 0), none, false, false, []⟩,
 ⟨some 136, .mv (.t 10), none, false, false, []⟩,
 ⟨some 137, .mv (.t 0), none, false, false, []⟩,
 ⟨some 138, .mv (.t 11), none, false, false, []⟩,
 ⟨some 139, .mv (.t 0), none, false, false, []⟩,
 ⟨some 140, .mv (.t 11), none, false, false, []⟩,
 ⟨some 141, .iad 1 (.t 139) (.t 140), none, false, false, []⟩,
 ⟨some 142, .load false 1 (.t 141), none, false, false, []⟩,
 ⟨some 143, .mv (.t 0), none, false, false, []⟩,
 ⟨some 144, .mv (.t 10), none, false, false, []⟩,
 ⟨some 145, .iad 1 (.t 143) (.t 144), none, false, false, []⟩,
 ⟨some 146, .load false 1 (.t 145), none, false, false, []⟩,
 ⟨some 147, .iad 1 (.t 135) (.t 136), none, false, false, []⟩,
 ⟨none, .store 1 (.t 147) (.t 142), none, false, false, []⟩,
 ⟨some 148, .iad 1 (.t 137) (.t 138), none, false, false, []⟩,
 ⟨none, .store 1 (.t 148) (.t 146), none, false, false, []⟩])
 (.seq
 (.reg [⟨some 149, .mv (.t 10), none, false, false, []⟩,
 ⟨some 150, .bin .add (.t 149) (.c (.v (.int .i64 1))), none, false, false, []⟩,
 ⟨some 10, .mv (.t 150), none, false, false, []⟩])
 (.reg [⟨some 151, .mv (.t 11), none, false, false, []⟩,
 ⟨some 152, .bin .sub (.t 151) (.c (.v (.int .i64 1))), none, false, false, []⟩,
 ⟨some 11, .mv (.t 152), none, false, false, []⟩])
 )
 )
 )
 )
 )
 )

def x185 : XCode :=
 (.seq
 (.reg [⟨some 8, .mv (.c (.v (.int .i64 0))), none, false, false, []⟩,
 ⟨some 9, .mv (.c (.v (.bool false))), none, false, false, []⟩])
 (.seq
 (.reg [⟨some 12, .mv (.t 0), none, false, false, []⟩,
 ⟨some 13, .mv (.t 1), none, false, false, []⟩,
 ⟨some 14, .mv (.t 0), none, false, false, []⟩,
 ⟨some 15, .mv (.t 3), none, false, false, []⟩,
 ⟨some 16, .mv (.t 0), none, false, false, []⟩,
 ⟨some 17, .mv (.t 3), none, false, false, []⟩,
 ⟨some 18, .iad 1 (.t 16) (.t 17), none, false, false, []⟩,
 ⟨some 19, .load false 1 (.t 18), none, false, false, []⟩,
 ⟨some 20, .mv (.t 0), none, false, false, []⟩,
 ⟨some 21, .mv (.t 1), none, false, false, []⟩,
 ⟨some 22, .iad 1 (.t 20) (.t 21), none, false, false, []⟩,
 ⟨some 23, .load false 1 (.t 22), none, false, false, []⟩,
 ⟨some 24, .iad 1 (.t 12) (.t 13), none, false, false, []⟩,
 ⟨none, .store 1 (.t 24) (.t 19), none, false, false, []⟩,
 ⟨some 25, .iad 1 (.t 14) (.t 15), none, false, false, []⟩,
 ⟨none, .store 1 (.t 25) (.t 23), none, false, false, []⟩])
 (.seq
 (.reg [⟨some 26, .mv (.t 1), none, false, false, []⟩,
 ⟨some 27, .bin .add (.t 26) (.c (.v (.int .i64 1))), none, false, false, []⟩,
 ⟨some 28, .mv (.t 2), none, false, false, []⟩,
 ⟨some 29, .bin .sub (.t 28) (.c (.v (.int .i64 1))), none, false, false, []⟩,
 ⟨some 10, .mv (.t 27), none, false, false, []⟩,
 ⟨some 11, .mv (.t 29), none, false, false, []⟩])
 (.seq
 (.blk 0
 (.loop x185a1 x185b1)
 )
 (.seq
 (.blk 2
 (.loop x185a2 x185b2)
 )
 (.seq
 (.seq
 (.reg [⟨some 63, .mv (.t 10), none, false, false, []⟩,
 ⟨some 64, .mv (.t 11), none, false, false, []⟩,
 ⟨some 65, .bin .gtr (.t 63) (.t 64), none, false, false, []⟩])
 (.cond (.t 65)
 (.seq
 (.reg [⟨some 66, .mv (.t 0), none, false, false, []⟩,
 ⟨some 67, .mv (.t 11), none, false, false, []⟩,
 ⟨some 68, .mv (.t 0), none, false, false, []⟩,
 ⟨some 69, .mv (.t 1), none, false, false, []⟩,
 ⟨some 70, .mv (.t 0), none, false, false, []⟩,
 ⟨some 71, .mv (.t 1), none, false, false, []⟩,
 ⟨some 72, .iad 1 (.t 70) (.t 71), none, false, false, []⟩,
 ⟨some 73, .load false 1 (.t 72), none, false, false, []⟩,
 ⟨some 74, .mv (.t 0), none, false, false, []⟩,
 ⟨some 75, .mv (.t 11), none, false, false, []⟩,
 ⟨some 76, .iad 1 (.t 74) (.t 75), none, false, false, []⟩,
 ⟨some 77, .load false 1 (.t 76), none, false, false, []⟩,
 ⟨some 78, .iad 1 (.t 66) (.t 67), none, false, false, []⟩,
 ⟨none, .store 1 (.t 78) (.t 73), none, false, false, []⟩,
 ⟨some 79, .iad 1 (.t 68) (.t 69), none, false, false, []⟩,
 ⟨none, .store 1 (.t 79) (.t 77), none, false, false, []⟩])
 (.seq
 (.reg [⟨some 80, .mv (.t 11), none, false, false, []⟩,
 ⟨some 8, .mv (.t 80), none, false, false, []⟩,
 ⟨some 9, .mv (.c (.v (.bool true))), none, false, false, []⟩])
 (.norm [(8, .k), (9, .k)] .ret)
 )
 )
 .skip
 )
 )
 (.seq
 (.reg [⟨some 81, .mv (.t 0), none, false, false, []⟩,
 ⟨some 82, .mv (.t 10), none, false, false, []⟩,
 ⟨some 83, .mv (.t 0), none, false, false, []⟩,
 ⟨some 84, .mv (.t 11), none, false, false, []⟩,
 ⟨some 85, .mv (.t 0), none, false, false, []⟩,
 ⟨some 86, .mv (.t 11), none, false, false, []⟩,
 ⟨some 87, .iad 1 (.t 85) (.t 86), none, false, false, []⟩,
 ⟨some 88, .load false 1 (.t 87), none, false, false, []⟩,
 ⟨some 89, .mv (.t 0), none, false, false, []⟩,
 ⟨some 90, .mv (.t 10), none, false, false, []⟩,
 ⟨some 91, .iad 1 (.t 89) (.t 90), none, false, false, []⟩,
 ⟨some 92, .load false 1 (.t 91), none, false, false, []⟩,
 ⟨some 93, .iad 1 (.t 81) (.t 82), none, false, false, []⟩,
 ⟨none, .store 1 (.t 93) (.t 88), none, false, false, []⟩,
 ⟨some 94, .iad 1 (.t 83) (.t 84), none, false, false, []⟩,
 ⟨none, .store 1 (.t 94) (.t 92), none, false, false, []⟩])
 (.seq
 (.reg [⟨some 95, .mv (.t 10), none, false, false, []⟩,
 ⟨some 96, .bin .add (.t 95) (.c (.v (.int .i64 1))), none, false, false, []⟩,
 ⟨some 10, .mv (.t 96), none, false, false, []⟩])
 (.seq
 (.reg [⟨some 97, .mv (.t 11), none, false, false, []⟩,
 ⟨some 98, .bin .sub (.t 97) (.c (.v (.int .i64 1))), none, false, false, []⟩,
 ⟨some 11, .mv (.t 98), none, false, false, []⟩])
 (.seq
 (.blk 4
 (.loop x185a5 x185b5)
 )
 (.seq
 (.reg [⟨some 153, .mv (.t 0), none, false, false, []⟩,
 ⟨some 154, .mv (.t 11), none, false, false, []⟩,
 ⟨some 155, .mv (.t 0), none, false, false, []⟩,
 ⟨some 156, .mv (.t 1), none, false, false, []⟩,
 ⟨some 157, .mv (.t 0), none, false, false, []⟩,
 ⟨some 158, .mv (.t 1), none, false, false, []⟩,
 ⟨some 159, .iad 1 (.t 157) (.t 158), none, false, false, []⟩,
 ⟨some 160, .load false 1 (.t 159), none, false, false, []⟩,
 ⟨some 161, .mv (.t 0), none, false, false, []⟩,
 ⟨some 162, .mv (.t 11), none, false, false, []⟩,
 ⟨some 163, .iad 1 (.t 161) (.t 162), none, false, false, []⟩,
 ⟨some 164, .load false 1 (.t 163), none, false, false, []⟩,
 ⟨some 165, .iad 1 (.t 153) (.t 154), none, false, false, []⟩,
 ⟨none, .store 1 (.t 165) (.t 160), none, false, false, []⟩,
 ⟨some 166, .iad 1 (.t 155) (.t 156), none, false, false, []⟩,
 ⟨none, .store 1 (.t 166) (.t 164), none, false, false, []⟩])
 (.seq
 (.reg [⟨some 167, .mv (.t 11), none, false, false, []⟩,
 ⟨some 8, .mv (.t 167), none, false, false, []⟩,
 ⟨some 9, .mv (.c (.v (.bool false))), none, false, false, []⟩])
 (.norm [(8, .k), (9, .k)] .ret)
 )
 )
 )
 )
 )
 )
 )
 )
 )
 )
 )
 )
def f185 : XFn := ⟨false, 168, [.t 8, .t 9], .k, x185⟩
/-! 186 math/bits.Len32 (pf true): 1 parameters, 0 captured; names [0=x, 1=x, 2=n] -/
def x186 : XCode :=
 (.seq
 (.reg [⟨some 2, .mv (.c (.v (.int .i64 0))), none, false, false, []⟩])
 (.seq
 (.seq
 (.reg [⟨some 3, .mv (.t 0), none, false, false, []⟩,
 ⟨some 4, .bin .geq (.t 3) (.c (.v (.int .u32 65536))), none, false, false, []⟩])
 (.cond (.t 4)
 (.seq
 (.reg [⟨some 5, .mv (.t 0), none, false, false, []⟩,
 ⟨some 6, .bin .shr (.t 5) (.c (.v (.int .u64 16))), none, false, false, []⟩,
 ⟨some 0, .mv (.t 6), none, false, false, []⟩])
 (.reg [⟨some 2, .mv (.c (.v (.int .i64 16))), none, false, false, []⟩])
 )
 .skip
 )
 )
 (.seq
 (.seq
 (.reg [⟨some 7, .mv (.t 0), none, false, false, []⟩,
 ⟨some 8, .bin .geq (.t 7) (.c (.v (.int .u32 256))), none, false, false, []⟩])
 (.cond (.t 8)
 (.seq
 (.reg [⟨some 9, .mv (.t 0), none, false, false, []⟩,
 ⟨some 10, .bin .shr (.t 9) (.c (.v (.int .u64 8))), none, false, false, []⟩,
 ⟨some 0, .mv (.t 10), none, false, false, []⟩])
 (.reg [⟨some 11, .mv (.t 2), none, false, false, []⟩,
 ⟨some 12, .bin .add (.t 11) (.c (.v (.int .i64 8))), none, false, false, []⟩,
 ⟨some 2, .mv (.t 12), none, false, false, []⟩])
 )
 .skip
 )
 )
 (.seq
 (.reg [⟨some 13, .mv (.t 2), none, false, false, []⟩,
 ⟨some 14, .mv (.t 0), none, false, false, []⟩,
 ⟨some 15, .conv .u8 (.t 14), none, false, false, []⟩,
 ⟨some 16, .idx (.c (.v (.string (⟨#[0, 1, 2, 2, 3, 3, 3, 3, 4, 4, 4, 4, 4, 4, 4, 4, 5, 5, 5, 5, 5, 5, 5, 5, 5, 5, 5, 5, 5, 5, 5, 5, 6, 6, 6, 6, 6, 6, 6, 6, 6, 6, 6, 6, 6, 6, 6, 6, 6, 6, 6, 6, 6, 6, 6, 6, 6, 6, 6, 6, 6, 6, 6, 6, 7, 7, 7, 7, 7, 7, 7, 7, 7, 7, 7, 7, 7, 7, 7, 7, 7, 7, 7, 7, 7, 7, 7, 7, 7, 7, 7, 7, 7, 7, 7, 7, 7, 7, 7, 7, 7, 7, 7, 7, 7, 7, 7, 7, 7, 7, 7, 7, 7, 7, 7, 7, 7, 7, 7, 7, 7, 7, 7, 7, 7, 7, 7, 7, 8, 8, 8, 8, 8, 8, 8, 8, 8, 8, 8, 8, 8, 8, 8, 8, 8, 8, 8, 8, 8, 8, 8, 8, 8, 8, 8, 8, 8, 8, 8, 8, 8, 8, 8, 8, 8, 8, 8, 8, 8, 8, 8, 8, 8, 8, 8, 8, 8, 8, 8, 8, 8, 8, 8, 8, 8, 8, 8, 8, 8, 8, 8, 8, 8, 8, 8, 8, 8, 8, 8, 8, 8, 8, 8, 8, 8, 8, 8, 8, 8, 8, 8, 8, 8, 8, 8, 8, 8, 8, 8, 8, 8, 8, 8, 8, 8, 8, 8, 8, 8, 8, 8, 8, 8, 8, 8, 8, 8, 8, 8, 8, 8, 8, 8, 8, 8, 8, 8, 8, 8, 8, 8, 8, 8, 8, 8, 8]⟩)))) (.t 15), none, false, false, []⟩,
 ⟨some 17, .conv .i64 (.t 16), none, false, false, []⟩,
 ⟨some 18, .bin .add (.t 13) (.t 17), none, false, false, []⟩,
 ⟨some 2, .mv (.t 18), none, false, false, []⟩])
 (.norm [(2, .fz .k)] .ret)
 )
 )
 )
 )
def f186 : XFn := ⟨true, 19, [.t 2], .k, x186⟩
/-! 187 math/bits.Len64 (pf true): 1 parameters, 0 captured; names [0=x, 1=x, 2=n] -/
def x187 : XCode :=
 (.seq
 (.reg [⟨some 2, .mv (.c (.v (.int .i64 0))), none, false, false, []⟩])
 (.seq
 (.seq
 (.reg [⟨some 3, .mv (.t 0), none, false, false, []⟩,
 ⟨some 4, .bin .geq (.t 3) (.c (.v (.int .u64 4294967296))), none, false, false, []⟩])
 (.cond (.t 4)
 (.seq
 (.reg [⟨some 5, .mv (.t 0), none, false, false, []⟩,
 ⟨some 6, .bin .shr (.t 5) (.c (.v (.int .u64 32))), none, false, false, []⟩,
 ⟨some 0, .mv (.t 6), none, false, false, []⟩])
 (.reg [⟨some 2, .mv (.c (.v (.int .i64 32))), none, false, false, []⟩])
 )
 .skip
 )
 )
 (.seq
 (.seq
 (.reg [⟨some 7, .mv (.t 0), none, false, false, []⟩,
 ⟨some 8, .bin .geq (.t 7) (.c (.v (.int .u64 65536))), none, false, false, []⟩])
 (.cond (.t 8)
 (.seq
 (.reg [⟨some 9, .mv (.t 0), none, false, false, []⟩,
 ⟨some 10, .bin .shr (.t 9) (.c (.v (.int .u64 16))), none, false, false, []⟩,
 ⟨some 0, .mv (.t 10), none, false, false, []⟩])
 (.reg [⟨some 11, .mv (.t 2), none, false, false, []⟩,
 ⟨some 12, .bin .add (.t 11) (.c (.v (.int .i64 16))), none, false, false, []⟩,
 ⟨some 2, .mv (.t 12), none, false, false, []⟩])
 )
 .skip
 )
 )
 (.seq
 (.seq
 (.reg [⟨some 13, .mv (.t 0), none, false, false, []⟩,
 ⟨some 14, .bin .geq (.t 13) (.c (.v (.int .u64 256))), none, false, false, []⟩])
 (.cond (.t 14)
 (.seq
 (.reg [⟨some 15, .mv (.t 0), none, false, false, []⟩,
 ⟨some 16, .bin .shr (.t 15) (.c (.v (.int .u64 8))), none, false, false, []⟩,
 ⟨some 0, .mv (.t 16), none, false, false, []⟩])
 (.reg [⟨some 17, .mv (.t 2), none, false, false, []⟩,
 ⟨some 18, .bin .add (.t 17) (.c (.v (.int .i64 8))), none, false, false, []⟩,
 ⟨some 2, .mv (.t 18), none, false, false, []⟩])
 )
 .skip
 )
 )
 (.seq
 (.reg [⟨some 19, .mv (.t 2), none, false, false, []⟩,
 ⟨some 20, .mv (.t 0), none, false, false, []⟩,
 ⟨some 21, .conv .u8 (.t 20), none, false, false, []⟩,
 ⟨some 22, .idx (.c (.v (.string (⟨#[0, 1, 2, 2, 3, 3, 3, 3, 4, 4, 4, 4, 4, 4, 4, 4, 5, 5, 5, 5, 5, 5, 5, 5, 5, 5, 5, 5, 5, 5, 5, 5, 6, 6, 6, 6, 6, 6, 6, 6, 6, 6, 6, 6, 6, 6, 6, 6, 6, 6, 6, 6, 6, 6, 6, 6, 6, 6, 6, 6, 6, 6, 6, 6, 7, 7, 7, 7, 7, 7, 7, 7, 7, 7, 7, 7, 7, 7, 7, 7, 7, 7, 7, 7, 7, 7, 7, 7, 7, 7, 7, 7, 7, 7, 7, 7, 7, 7, 7, 7, 7, 7, 7, 7, 7, 7, 7, 7, 7, 7, 7, 7, 7, 7, 7, 7, 7, 7, 7, 7, 7, 7, 7, 7, 7, 7, 7, 7, 8, 8, 8, 8, 8, 8, 8, 8, 8, 8, 8, 8, 8, 8, 8, 8, 8, 8, 8, 8, 8, 8, 8, 8, 8, 8, 8, 8, 8, 8, 8, 8, 8, 8, 8, 8, 8, 8, 8, 8, 8, 8, 8, 8, 8, 8, 8, 8, 8, 8, 8, 8, 8, 8, 8, 8, 8, 8, 8, 8, 8, 8, 8, 8, 8, 8, 8, 8, 8, 8, 8, 8, 8, 8, 8, 8, 8, 8, 8, 8, 8, 8, 8, 8, 8, 8, 8, 8, 8, 8, 8, 8, 8, 8, 8, 8, 8, 8, 8, 8, 8, 8, 8, 8, 8, 8, 8, 8, 8, 8, 8, 8, 8, 8, 8, 8, 8, 8, 8, 8, 8, 8, 8, 8, 8, 8, 8, 8]⟩)))) (.t 21), none, false, false, []⟩,
 ⟨some 23, .conv .i64 (.t 22), none, false, false, []⟩,
 ⟨some 24, .bin .add (.t 19) (.t 23), none, false, false, []⟩,
 ⟨some 2, .mv (.t 24), none, false, false, []⟩])
 (.norm [(2, .fz .k)] .ret)
 )
 )
 )
 )
 )
def f187 : XFn := ⟨true, 25, [.t 2], .k, x187⟩
/-! 454 (*dross/hitset.search).dead$1 (pf false): 1 parameters, 1 captured; names [0=e, 2=e] -/
def x454 : XCode :=
 (.seq
 (.reg [⟨some 3, .mv (.c (.v (.bool false))), none, false, false, []⟩])
 (.seq
 (.reg [⟨some 4, .load false 1 (.t 1), none, false, false, []⟩,
 ⟨some 5, .mv (.t 0), none, false, false, []⟩,
 ⟨some 6, .call 450 [(.t 4), (.t 5), (.c (.v (.int .i64 1)))], none, false, false, [.k, (.sl 1 []), .k]⟩,
 ⟨some 7, .not (.t 6), none, false, false, []⟩,
 ⟨some 8, .mv (.t 7), none, false, false, []⟩,
 ⟨some 9, .load false 1 (.t 1), some (8, true), false, false, []⟩,
 ⟨some 10, .mv (.t 0), some (8, true), false, false, []⟩,
 ⟨some 11, .call 450 [(.t 9), (.t 10), (.c (.v (.int .i64 0)))], some (8, true), false, false, [.k, (.sl 1 []), .k]⟩,
 ⟨some 12, .not (.t 11), some (8, true), false, false, []⟩,
 ⟨some 13, .pick (.t 8) (.t 12) (.c (.v (.bool false))), none, false, false, []⟩,
 ⟨some 3, .mv (.t 13), none, false, false, []⟩])
 (.norm [(3, .k)] .ret)
 )
 )
def f454 : XFn := ⟨false, 14, [.t 3], .k, x454⟩
/-! 455 (*dross/hitset.search).has$1 (pf false): 1 parameters, 2 captured; names [0=v, 3=v] -/
def x455 : XCode :=
 (.seq
 (.reg [⟨some 4, .mv (.c (.v (.bool false))), none, false, false, []⟩])
 (.seq
 (.reg [⟨some 5, .load false 1 (.t 1), none, false, false, []⟩,
 ⟨some 6, .nilc (.t 5), none, false, false, []⟩,
 ⟨some 7, .fad 2 (.t 6), none, false, false, []⟩,
 ⟨some 8, .load false 1 (.t 7), none, false, false, []⟩,
 ⟨some 9, .mv (.t 0), none, false, false, []⟩,
 ⟨some 10, .iad 1 (.t 8) (.t 9), none, false, false, []⟩,
 ⟨some 11, .load false 1 (.t 10), none, false, false, []⟩,
 ⟨some 12, .load false 1 (.t 2), none, false, false, []⟩,
 ⟨some 13, .bin .eql (.t 11) (.t 12), none, false, false, []⟩,
 ⟨some 4, .mv (.t 13), none, false, false, []⟩])
 (.norm [(4, .k)] .ret)
 )
 )
def f455 : XFn := ⟨false, 14, [.t 4], .k, x455⟩
/-! 457 slices.rotateCmpFunc[int] (pf false): 5 parameters, 0 captured; names [0=data, 1=a, 2=m, 3=b, 4=cmp, 5=data, 6=a, 7=m, 8=b, 9=cmp, 10=i, 11=j] -/
/-- alive: 0 data; 2 m; 4 cmp; 10 i; 11 j -/
def x457a1 : List (Nat × Nk) := [(0, .co (.sl 1 [])), (2, .k), (4, .k), (10, .k), (11, .k)]
theorem x457a1n (s : XSt) : norm x457a1 s = norm [(0, .co (.sl 1 [])), (2, .k), (4, .k), (10, .k), (11, .k)] s := rfl
def x457b1 : XCode :=
 (.seq
 (.seq
 (.reg [⟨some 18, .mv (.t 10), none, false, false, []⟩,
 ⟨some 19, .mv (.t 11), none, false, false, []⟩,
 ⟨some 20, .bin .neq (.t 18) (.t 19), none, false, false, []⟩])
 (.cond (.t 20)
 .skip
 (.norm [(0, .co (.sl 1 [])), (2, .k), (4, .k), (10, .k)] (.exit 0))
 )
 )
 (.blk 1
 (.seq
 (.reg [⟨some 21, .mv (.t 10), none, false, false, []⟩,
 ⟨some 22, .mv (.t 11), none, false, false, []⟩,
 ⟨some 23, .bin .gtr (.t 21) (.t 22), none, false, false, []⟩])
 (.cond (.t 23)
 (.seq
 (.reg [⟨some 24, .mv (.t 0), none, false, false, []⟩,
 ⟨some 25, .mv (.t 2), none, false, false, []⟩,
 ⟨some 26, .mv (.t 10), none, false, false, []⟩,
 ⟨some 27, .bin .sub (.t 25) (.t 26), none, false, false, []⟩,
 ⟨some 28, .mv (.t 2), none, false, false, []⟩,
 ⟨some 29, .mv (.t 11), none, false, false, []⟩,
 ⟨some 30, .mv (.t 4), none, false, false, []⟩,
 ⟨some 31, .call 458 [(.t 24), (.t 27), (.t 28), (.t 29), (.t 30)], none, false, false, [(.sl 1 []), .k, .k, .k, .k]⟩])
 (.reg [⟨some 32, .mv (.t 10), none, false, false, []⟩,
 ⟨some 33, .mv (.t 11), none, false, false, []⟩,
 ⟨some 34, .bin .sub (.t 32) (.t 33), none, false, false, []⟩,
 ⟨some 10, .mv (.t 34), none, false, false, []⟩])
 )
 (.seq
 (.reg [⟨some 35, .mv (.t 0), none, false, false, []⟩,
 ⟨some 36, .mv (.t 2), none, false, false, []⟩,
 ⟨some 37, .mv (.t 10), none, false, false, []⟩,
 ⟨some 38, .bin .sub (.t 36) (.t 37), none, false, false, []⟩,
 ⟨some 39, .mv (.t 2), none, false, false, []⟩,
 ⟨some 40, .mv (.t 11), none, false, false, []⟩,
 ⟨some 41, .bin .add (.t 39) (.t 40), none, false, false, []⟩,
 ⟨some 42, .mv (.t 10), none, false, false, []⟩,
 ⟨some 43, .bin .sub (.t 41) (.t 42), none, false, false, []⟩,
 ⟨some 44, .mv (.t 10), none, false, false, []⟩,
 ⟨some 45, .mv (.t 4), none, false, false, []⟩,
 ⟨some 46, .call 458 [(.t 35), (.t 38), (.t 43), (.t 44), (.t 45)], none, false, false, [(.sl 1 []), .k, .k, .k, .k]⟩])
 (.reg [⟨some 47, .mv (.t 11), none, false, false, []⟩,
 ⟨some 48, .mv (.t 10), none, false, false, []⟩,
 ⟨some 49, .bin .sub (.t 47) (.t 48), none, false, false, []⟩,
 ⟨some 11, .mv (.t 49), none, false, false, []⟩])
 )
 )
 )
 )
 )

def x457 : XCode :=
 (.seq
 (.reg [⟨some 12, .mv (.t 2), none, false, false, []⟩,
 ⟨some 13, .mv (.t 1), none, false, false, []⟩,
 ⟨some 14, .bin .sub (.t 12) (.t 13), none, false, false, []⟩,
 ⟨some 10, .mv (.t 14), none, false, false, []⟩])
 (.seq
 (.reg [⟨some 15, .mv (.t 3), none, false, false, []⟩,
 ⟨some 16, .mv (.t 2), none, false, false, []⟩,
 ⟨some 17, .bin .sub (.t 15) (.t 16), none, false, false, []⟩,
 ⟨some 11, .mv (.t 17), none, false, false, []⟩])
 (.seq
 (.blk 0
 (.loop x457a1 x457b1)
 )
 (.reg [⟨some 50, .mv (.t 0), none, false, false, []⟩,
 ⟨some 51, .mv (.t 2), none, false, false, []⟩,
 ⟨some 52, .mv (.t 10), none, false, false, []⟩,
 ⟨some 53, .bin .sub (.t 51) (.t 52), none, false, false, []⟩,
 ⟨some 54, .mv (.t 2), none, false, false, []⟩,
 ⟨some 55, .mv (.t 10), none, false, false, []⟩,
 ⟨some 56, .mv (.t 4), none, false, false, []⟩,
 ⟨some 57, .call 458 [(.t 50), (.t 53), (.t 54), (.t 55), (.t 56)], none, false, false, [(.sl 1 []), .k, .k, .k, .k]⟩])
 )
 )
 )
def f457 : XFn := ⟨false, 58, [], .k, x457⟩
/-! 194 slices.siftDownOrdered[int] (pf false): 4 parameters, 0 captured; names [0=data, 1=lo, 2=hi, 3=first, 4=data, 5=lo, 6=hi, 7=first, 8=root, 9=child] -/
/-- alive: 0 data; 2 hi; 3 first; 8 root -/
def x194a1 : List (Nat × Nk) := [(0, .co (.sl 1 [])), (2, .k), (3, .k), (8, .k)]
theorem x194a1n (s : XSt) : norm x194a1 s = norm [(0, .co (.sl 1 [])), (2, .k), (3, .k), (8, .k)] s := rfl
def x194b1 : XCode :=
 (.blk 1
 (.seq
 (.reg [⟨some 11, .mv (.t 8), none, false, false, []⟩,
 ⟨some 12, .bin .mul (.c (.v (.int .i64 2))) (.t 11), none, false, false, []⟩,
 ⟨some 13, .bin .add (.t 12) (.c (.v (.int .i64 1))), none, false, false, []⟩,
 ⟨some 9, .mv (.t 13), none, false, false, []⟩])
 (.seq
 (.seq
 (.reg [⟨some 14, .mv (.t 9), none, false, false, []⟩,
 ⟨some 15, .mv (.t 2), none, false, false, []⟩,
 ⟨some 16, .bin .geq (.t 14) (.t 15), none, false, false, []⟩])
 (.cond (.t 16)
 (.norm [] (.exit 0))
 .skip
 )
 )
 (.seq
 (.seq
 (.reg [⟨some 17, .mv (.t 9), none, false, false, []⟩,
 ⟨some 18, .bin .add (.t 17) (.c (.v (.int .i64 1))), none, false, false, []⟩,
 ⟨some 19, .mv (.t 2), none, false, false, []⟩,
 ⟨some 20, .bin .lss (.t 18) (.t 19), none, false, false, []⟩,
 ⟨some 21, .mv (.t 20), none, false, false, []⟩,
 ⟨some 22, .mv (.t 0), some (21, true), false, false, []⟩,
 ⟨some 23, .mv (.t 3), some (21, true), false, false, []⟩,
 ⟨some 24, .mv (.t 9), some (21, true), false, false, []⟩,
 ⟨some 25, .bin .add (.t 23) (.t 24), some (21, true), false, false, []⟩,
 ⟨some 26, .iad 1 (.t 22) (.t 25), some (21, true), false, false, []⟩,
 ⟨some 27, .load false 1 (.t 26), some (21, true), false, false, []⟩,
 ⟨some 28, .mv (.t 0), some (21, true), false, false, []⟩,
 ⟨some 29, .mv (.t 3), some (21, true), false, false, []⟩,
 ⟨some 30, .mv (.t 9), some (21, true), false, false, []⟩,
 ⟨some 31, .bin .add (.t 29) (.t 30), some (21, true), false, false, []⟩,
 ⟨some 32, .bin .add (.t 31) (.c (.v (.int .i64 1))), some (21, true), false, false, []⟩,
 ⟨some 33, .iad 1 (.t 28) (.t 32), some (21, true), false, false, []⟩,
 ⟨some 34, .load false 1 (.t 33), some (21, true), false, false, []⟩,
 ⟨some 35, .call 183 [(.t 27), (.t 34)], some (21, true), false, false, []⟩,
 ⟨some 36, .pick (.t 21) (.t 35) (.c (.v (.bool false))), none, false, false, []⟩])
 (.cond (.t 36)
 (.reg [⟨some 37, .mv (.t 9), none, false, false, []⟩,
 ⟨some 38, .bin .add (.t 37) (.c (.v (.int .i64 1))), none, false, false, []⟩,
 ⟨some 9, .mv (.t 38), none, false, false, []⟩])
 .skip
 )
 )
 (.seq
 (.seq
 (.reg [⟨some 39, .mv (.t 0), none, false, false, []⟩,
 ⟨some 40, .mv (.t 3), none, false, false, []⟩,
 ⟨some 41, .mv (.t 8), none, false, false, []⟩,
 ⟨some 42, .bin .add (.t 40) (.t 41), none, false, false, []⟩,
 ⟨some 43, .iad 1 (.t 39) (.t 42), none, false, false, []⟩,
 ⟨some 44, .load false 1 (.t 43), none, false, false, []⟩,
 ⟨some 45, .mv (.t 0), none, false, false, []⟩,
 ⟨some 46, .mv (.t 3), none, false, false, []⟩,
 ⟨some 47, .mv (.t 9), none, false, false, []⟩,
 ⟨some 48, .bin .add (.t 46) (.t 47), none, false, false, []⟩,
 ⟨some 49, .iad 1 (.t 45) (.t 48), none, false, false, []⟩,
 ⟨some 50, .load false 1 (.t 49), none, false, false, []⟩,
 ⟨some 51, .call 183 [(.t 44), (.t 50)], none, false, false, []⟩,
 ⟨some 52, .not (.t 51), none, false, false, []⟩])
 (.cond (.t 52)
 (.norm [] .ret)
 .skip
 )
 )
 (.seq
 (.reg [⟨some 53, .mv (.t 0), none, false, false, []⟩,
 ⟨some 54, .mv (.t 3), none, false, false, []⟩,
 ⟨some 55, .mv (.t 8), none, false, false, []⟩,
 ⟨some 56, .bin .add (.t 54) (.t 55), none, false, false, []⟩,
 ⟨some 57, .mv (.t 0), none, false, false, []⟩,
 ⟨some 58, .mv (.t 3), none, false, false, []⟩,
 ⟨some 59, .mv (.t 9), none, false, false, []⟩,
 ⟨some 60, .bin .add (.t 58) (.t 59), none, false, false, []⟩,
 ⟨some 61, .mv (.t 0), none, false, false, []⟩,
 ⟨some 62, .mv (.t 3), none, false, false, []⟩,
 ⟨some 63, .mv (.t 9), none, false, false, []⟩,
 ⟨some 64, .bin .add (.t 62) (.t 63), none, false, false, []⟩,
 ⟨some 65, .iad 1 (.t 61) (.t 64), none, false, false, []⟩,
 ⟨some 66, .load false 1 (.t 65), none, false, false, []⟩,
 ⟨some 67, .mv (.t 0), none, false, false, []⟩,
 ⟨some 68, .mv (.t 3), none, false, false, []⟩,
 ⟨some 69, .mv (.t 8), none, false, false, []⟩,
 ⟨some 70, .bin .add (.t 68) (.t 69), none, false, false, []⟩,
 ⟨some 71, .iad 1 (.t 67) (.t 70), none, false, false, []⟩,
 ⟨some 72, .load false 1 (.t 71), none, false, false, []⟩,
 ⟨some 73, .iad 1 (.t 53) (.t 56), none, false, false, []⟩,
 ⟨none, .store 1 (.t 73) (.t 66), none, false, false, []⟩,
 ⟨some 74, .iad 1 (.t 57) (.t 60), none, false, false, []⟩,
 ⟨none, .store 1 (.t 74) (.t 72), none, false, false, []⟩])
 (.reg [⟨some 75, .mv (.t 9), none, false, false, []⟩,
 ⟨some 8, .mv (.t 75), none, false, false, []⟩])
 )
 )
 )
 )
 )
 )

def x194 : XCode :=
 (.seq
 (.reg [⟨some 10, .mv (.t 1), none, false, false, []⟩,
 ⟨some 8, .mv (.t 10), none, false, false, []⟩])
 (.blk 0
 (.loop x194a1 x194b1)
 )
 )
def f194 : XFn := ⟨false, 76, [], .k, x194⟩
/-! 195 slices.nextPowerOfTwo (pf true): 1 parameters, 0 captured; names [0=length, 1=length] -/
def x195 : XCode :=
 (.seq
 (.reg [⟨some 2, .mv (.c (.v (.int .u64 0))), none, false, false, []⟩])
 (.seq
 (.reg [⟨some 3, .mv (.t 0), none, false, false, []⟩,
 ⟨some 4, .conv .u64 (.t 3), none, false, false, []⟩,
 ⟨some 5, .call 163 [(.t 4)], none, false, false, []⟩,
 ⟨some 6, .bin .shl (.c (.v (.int .u64 1))) (.t 5), none, false, false, []⟩,
 ⟨some 2, .mv (.t 6), none, false, false, []⟩])
 (.norm [(2, .fz .k)] .ret)
 )
 )
def f195 : XFn := ⟨true, 7, [.t 2], .k, x195⟩
/-! 196 (*slices.xorshift).Next (pf false): 1 parameters, 0 captured; names [0=r, 1=r] -/
def x196 : XCode :=
 (.seq
 (.reg [⟨some 2, .mv (.c (.v (.int .u64 0))), none, false, false, []⟩])
 (.seq
 (.reg [⟨some 3, .mv (.t 0), none, false, false, []⟩,
 ⟨some 4, .nilc (.t 3), none, false, false, []⟩,
 ⟨some 5, .load false 1 (.t 4), none, false, false, []⟩,
 ⟨some 6, .mv (.t 0), none, false, false, []⟩,
 ⟨some 7, .nilc (.t 6), none, false, false, []⟩,
 ⟨some 8, .load false 1 (.t 7), none, false, false, []⟩,
 ⟨some 9, .bin .shl (.t 8) (.c (.v (.int .u64 13))), none, false, false, []⟩,
 ⟨some 10, .bin .xor (.t 5) (.t 9), none, false, false, []⟩,
 ⟨some 11, .nilc (.t 3), none, false, false, []⟩,
 ⟨none, .store 1 (.t 11) (.t 10), none, false, false, []⟩])
 (.seq
 (.reg [⟨some 12, .mv (.t 0), none, false, false, []⟩,
 ⟨some 13, .nilc (.t 12), none, false, false, []⟩,
 ⟨some 14, .load false 1 (.t 13), none, false, false, []⟩,
 ⟨some 15, .mv (.t 0), none, false, false, []⟩,
 ⟨some 16, .nilc (.t 15), none, false, false, []⟩,
 ⟨some 17, .load false 1 (.t 16), none, false, false, []⟩,
 ⟨some 18, .bin .shr (.t 17) (.c (.v (.int .u64 7))), none, false, false, []⟩,
 ⟨some 19, .bin .xor (.t 14) (.t 18), none, false, false, []⟩,
 ⟨some 20, .nilc (.t 12), none, false, false, []⟩,
 ⟨none, .store 1 (.t 20) (.t 19), none, false, false, []⟩])
 (.seq
 (.reg [⟨some 21, .mv (.t 0), none, false, false, []⟩,
 ⟨some 22, .nilc (.t 21), none, false, false, []⟩,
 ⟨some 23, .load false 1 (.t 22), none, false, false, []⟩,
 ⟨some 24, .mv (.t 0), none, false, false, []⟩,
 ⟨some 25, .nilc (.t 24), none, false, false, []⟩,
 ⟨some 26, .load false 1 (.t 25), none, false, false, []⟩,
 ⟨some 27, .bin .shl (.t 26) (.c (.v (.int .u64 17))), none, false, false, []⟩,
 ⟨some 28, .bin .xor (.t 23) (.t 27), none, false, false, []⟩,
 ⟨some 29, .nilc (.t 21), none, false, false, []⟩,
 ⟨none, .store 1 (.t 29) (.t 28), none, false, false, []⟩])
 (.seq
 (.reg [⟨some 30, .mv (.t 0), none, false, false, []⟩,
 ⟨some 31, .nilc (.t 30), none, false, false, []⟩,
 ⟨some 32, .load false 1 (.t 31), none, false, false, []⟩,
 ⟨some 2, .mv (.t 32), none, false, false, []⟩])
 (.norm [(2, .k)] .ret)
 )
 )
 )
 )
 )
def f196 : XFn := ⟨false, 33, [.t 2], .k, x196⟩
/-! 197 slices.medianAdjacentOrdered[int] (pf false): 3 parameters, 0 captured; names [0=data, 1=a, 2=swaps, 3=data, 4=a, 5=swaps] -/
def x197 : XCode :=
 (.seq
 (.reg [⟨some 6, .mv (.c (.v (.int .i64 0))), none, false, false, []⟩])
 (.seq
 (.reg [⟨some 7, .mv (.t 0), none, false, false, []⟩,
 ⟨some 8, .mv (.t 1), none, false, false, []⟩,
 ⟨some 9, .bin .sub (.t 8) (.c (.v (.int .i64 1))), none, false, false, []⟩,
 ⟨some 10, .mv (.t 1), none, false, false, []⟩,
 ⟨some 11, .mv (.t 1), none, false, false, []⟩,
 ⟨some 12, .bin .add (.t 11) (.c (.v (.int .i64 1))), none, false, false, []⟩,
 ⟨some 13, .mv (.t 2), none, false, false, []⟩,
 ⟨some 14, .call 198 [(.t 7), (.t 9), (.t 10), (.t 12), (.t 13)], none, false, false, [(.sl 1 []), .k, .k, .k, .k]⟩,
 ⟨some 6, .mv (.t 14), none, false, false, []⟩])
 (.norm [(6, .k)] .ret)
 )
 )
def f197 : XFn := ⟨false, 15, [.t 6], .k, x197⟩
/-! 198 slices.medianOrdered[int] (pf false): 5 parameters, 0 captured; names [0=data, 1=a, 2=b, 3=c, 4=swaps, 5=data, 6=a, 7=b, 8=c, 9=swaps] -/
def x198 : XCode :=
 (.seq
 (.reg [⟨some 10, .mv (.c (.v (.int .i64 0))), none, false, false, []⟩])
 (.seq
 (.reg [⟨some 12, .mv (.t 0), none, false, false, []⟩,
 ⟨some 13, .mv (.t 1), none, false, false, []⟩,
 ⟨some 14, .mv (.t 2), none, false, false, []⟩,
 ⟨some 15, .mv (.t 4), none, false, false, []⟩,
 ⟨some 16, .call 208 [(.t 12), (.t 13), (.t 14), (.t 15)], none, false, false, [(.sl 1 []), .k, .k, .k]⟩,
 ⟨some 11, .mv (.t 16), none, false, false, []⟩,
 ⟨some 17, .ext (.t 11) 0, none, false, false, []⟩,
 ⟨some 18, .ext (.t 11) 1, none, false, false, []⟩,
 ⟨some 1, .mv (.t 17), none, false, false, []⟩,
 ⟨some 2, .mv (.t 18), none, false, false, []⟩])
 (.seq
 (.reg [⟨some 20, .mv (.t 0), none, false, false, []⟩,
 ⟨some 21, .mv (.t 2), none, false, false, []⟩,
 ⟨some 22, .mv (.t 3), none, false, false, []⟩,
 ⟨some 23, .mv (.t 4), none, false, false, []⟩,
 ⟨some 24, .call 208 [(.t 20), (.t 21), (.t 22), (.t 23)], none, false, false, [(.sl 1 []), .k, .k, .k]⟩,
 ⟨some 19, .mv (.t 24), none, false, false, []⟩,
 ⟨some 25, .ext (.t 19) 0, none, false, false, []⟩,
 ⟨some 26, .ext (.t 19) 1, none, false, false, []⟩,
 ⟨some 2, .mv (.t 25), none, false, false, []⟩,
 ⟨some 3, .mv (.t 26), none, false, false, []⟩])
 (.seq
 (.reg [⟨some 28, .mv (.t 0), none, false, false, []⟩,
 ⟨some 29, .mv (.t 1), none, false, false, []⟩,
 ⟨some 30, .mv (.t 2), none, false, false, []⟩,
 ⟨some 31, .mv (.t 4), none, false, false, []⟩,
 ⟨some 32, .call 208 [(.t 28), (.t 29), (.t 30), (.t 31)], none, false, false, [(.sl 1 []), .k, .k, .k]⟩,
 ⟨some 27, .mv (.t 32), none, false, false, []⟩,
 ⟨some 33, .ext (.t 27) 0, none, false, false, []⟩,
 ⟨some 34, .ext (.t 27) 1, none, false, false, []⟩,
 ⟨some 1, .mv (.t 33), none, false, false, []⟩,
 ⟨some 2, .mv (.t 34), none, false, false, []⟩])
 (.seq
 (.reg [⟨some 35, .mv (.t 2), none, false, false, []⟩,
 ⟨some 10, .mv (.t 35), none, false, false, []⟩])
 (.norm [(10, .k)] .ret)
 )
 )
 )
 )
 )
def f198 : XFn := ⟨false, 36, [.t 10], .k, x198⟩
/-! 199 cmp.isNaN[int] (pf true): 1 parameters, 0 captured; names [0=x, 1=x] -/
def x199 : XCode :=
 (.seq
 (.reg [⟨some 2, .mv (.c (.v (.bool false))), none, false, false, []⟩])
 (.seq
 (.reg [⟨some 3, .mv (.t 0), none, false, false, []⟩,
 ⟨some 4, .mv (.t 0), none, false, false, []⟩,
 ⟨some 5, .bin .neq (.t 3) (.t 4), none, false, false, []⟩,
 ⟨some 2, .mv (.t 5), none, false, false, []⟩])
 (.norm [(2, .fz .k)] .ret)
 )
 )
def f199 : XFn := ⟨true, 6, [.t 2], .k, x199⟩
/-! 458 slices.swapRangeCmpFunc[int] (pf false): 5 parameters, 0 captured; names [0=data, 1=a, 2=b, 3=n, 4=cmp, 5=data, 6=a, 7=b, 8=n, 9=cmp, 10=i] -/
/-- alive: 0 data; 1 a; 2 b; 3 n; 10 i -/
def x458a1 : List (Nat × Nk) := [(0, .co (.sl 1 [])), (1, .k), (2, .k), (3, .k), (10, .k)]
theorem x458a1n (s : XSt) : norm x458a1 s = norm [(0, .co (.sl 1 [])), (1, .k), (2, .k), (3, .k), (10, .k)] s := rfl
def x458b1 : XCode :=
 (.seq
 (.seq
 (.reg [⟨some 11, .mv (.t 10), none, false, false, []⟩,
 ⟨some 12, .mv (.t 3), none, false, false, []⟩,
 ⟨some 13, .bin .lss (.t 11) (.t 12), none, false, false, []⟩])
 (.cond (.t 13)
 .skip
 (.norm [] (.exit 0))
 )
 )
 (.seq
 (.blk 1
 (.reg [⟨some 16, .mv (.t 0), none, false, false, []⟩,
 ⟨some 17, .mv (.t 1), none, false, false, []⟩,
 ⟨some 18, .mv (.t 10), none, false, false, []⟩,
 ⟨some 19, .bin .add (.t 17) (.t 18), none, false, false, []⟩,
 ⟨some 20, .mv (.t 0), none, false, false, []⟩,
 ⟨some 21, .mv (.t 2), none, false, false, []⟩,
 ⟨some 22, .mv (.t 10), none, false, false, []⟩,
 ⟨some 23, .bin .add (.t 21) (.t 22), none, false, false, []⟩,
 ⟨some 24, .mv (.t 0), none, false, false, []⟩,
 ⟨some 25, .mv (.t 2), none, false, false, []⟩,
 ⟨some 26, .mv (.t 10), none, false, false, []⟩,
 ⟨some 27, .bin .add (.t 25) (.t 26), none, false, false, []⟩,
 ⟨some 28, .iad 1 (.t 24) (.t 27), none, false, false, []⟩,
 ⟨some 29, .load false 1 (.t 28), none, false, false, []⟩,
 ⟨some 30, .mv (.t 0), none, false, false, []⟩,
 ⟨some 31, .mv (.t 1), none, false, false, []⟩,
 ⟨some 32, .mv (.t 10), none, false, false, []⟩,
 ⟨some 33, .bin .add (.t 31) (.t 32), none, false, false, []⟩,
 ⟨some 34, .iad 1 (.t 30) (.t 33), none, false, false, []⟩,
 ⟨some 35, .load false 1 (.t 34), none, false, false, []⟩,
 ⟨some 36, .iad 1 (.t 16) (.t 19), none, false, false, []⟩,
 ⟨none, .store 1 (.t 36) (.t 29), none, false, false, []⟩,
 ⟨some 37, .iad 1 (.t 20) (.t 23), none, false, false, []⟩,
 ⟨none, .store 1 (.t 37) (.t 35), none, false, false, []⟩])
 )
 (.reg [⟨some 14, .mv (.t 10), none, false, false, []⟩,
 ⟨some 15, .bin .add (.t 14) (.c (.v (.int .i64 1))), none, false, false, []⟩,
 ⟨some 10, .mv (.t 15), none, false, false, []⟩])
 )
 )

def x458 : XCode :=
 (.seq
 (.reg [⟨some 10, .mv (.c (.v (.int .i64 0))), none, false, false, []⟩])
 (.blk 0
 (.loop x458a1 x458b1)
 )
 )
def f458 : XFn := ⟨false, 38, [], .k, x458⟩
/-! 208 slices.order2Ordered[int] (pf false): 4 parameters, 0 captured; names [0=data, 1=a, 2=b, 3=swaps, 4=data, 5=a, 6=b, 7=swaps] -/
def x208 : XCode :=
 (.seq
 (.reg [⟨some 8, .mv (.c (.v (.int .i64 0))), none, false, false, []⟩,
 ⟨some 9, .mv (.c (.v (.int .i64 0))), none, false, false, []⟩])
 (.seq
 (.seq
 (.reg [⟨some 10, .mv (.t 0), none, false, false, []⟩,
 ⟨some 11, .mv (.t 2), none, false, false, []⟩,
 ⟨some 12, .iad 1 (.t 10) (.t 11), none, false, false, []⟩,
 ⟨some 13, .load false 1 (.t 12), none, false, false, []⟩,
 ⟨some 14, .mv (.t 0), none, false, false, []⟩,
 ⟨some 15, .mv (.t 1), none, false, false, []⟩,
 ⟨some 16, .iad 1 (.t 14) (.t 15), none, false, false, []⟩,
 ⟨some 17, .load false 1 (.t 16), none, false, false, []⟩,
 ⟨some 18, .call 183 [(.t 13), (.t 17)], none, false, false, []⟩])
 (.cond (.t 18)
 (.seq
 (.reg [⟨some 19, .mv (.t 3), none, false, false, []⟩,
 ⟨some 20, .nilc (.t 19), none, false, false, []⟩,
 ⟨some 21, .load false 1 (.t 20), none, false, false, []⟩,
 ⟨some 22, .bin .add (.t 21) (.c (.v (.int .i64 1))), none, false, false, []⟩,
 ⟨some 23, .nilc (.t 19), none, false, false, []⟩,
 ⟨none, .store 1 (.t 23) (.t 22), none, false, false, []⟩])
 (.seq
 (.reg [⟨some 24, .mv (.t 2), none, false, false, []⟩,
 ⟨some 25, .mv (.t 1), none, false, false, []⟩,
 ⟨some 8, .mv (.t 24), none, false, false, []⟩,
 ⟨some 9, .mv (.t 25), none, false, false, []⟩])
 (.norm [(8, .k), (9, .k)] .ret)
 )
 )
 .skip
 )
 )
 (.seq
 (.reg [⟨some 26, .mv (.t 1), none, false, false, []⟩,
 ⟨some 27, .mv (.t 2), none, false, false, []⟩,
 ⟨some 8, .mv (.t 26), none, false, false, []⟩,
 ⟨some 9, .mv (.t 27), none, false, false, []⟩])
 (.norm [(8, .k), (9, .k)] .ret)
 )
 )
 )
def f208 : XFn := ⟨false, 28, [.t 8, .t 9], .k, x208⟩
end Go.Abs
