/- Functions of the program as functions of data (written by program). No condition. -/
import Derived.Test.YtkgoecnchnbbfaaB
set_option linter.unusedVariables false
set_option linter.unusedSimpArgs false
set_option linter.unusedSectionVars false
open List renaming getElem?_eq_some_iff → YzN, getElem?_eq_getElem → YzO, getElem?_map → YzP, mem_of_getElem? → YzQ, map_cons → YzR, getElem?_append_left → YzS, map_nil → YzT, getElem?_append_right → YzU, getElem?_set_ne → YzV, getD_eq_getElem?_getD → YzW, append_assoc → YzX, length_eq_zero_iff → YzY, getElem?_set_self → YzZ, mem_singleton → Yz0, mem_iff_getElem? → Yz1, mem_cons_self → Yz2, getElem?_take → Yz3, mem_cons → Yz4, mem_map → Yz5, mem_append → Yz6, length_map → Yz7, getElem?_drop → Yz8, all_eq_true → Yz9, getElem?_eq_none → YAa, length_cons → YAb, map_map → YAc, mem_append_left → YAd, cons_append → YAe, getElem?_range → YAf, take_length → YAg, mem_cons_of_mem → YAh, length_append → YAi, mem_iff_getElem → YAj, append_nil → YAk, getElem?_replicate → YAl, ext_getElem? → YAm, nil_append → YAn, mem_filter → YAo, map_append → YAp, any_eq_true → YAq, getElem?_cons_succ → YAr, drop_zero → YAs, pairwise_cons → YAt, getElem_mem → YAu, mem_of_mem_take → YAv, mem_append_right → YAw, getElem?_eq_none_iff → YAx
namespace Go.Abs.G03
open Go Go.Abs
abbrev Zt0 : Type := List (Int × Int × ByteArray)
abbrev Zc4 : Cs := cs [I, I, .s]
abbrev Zc1 : Cs := cs [I, .l Zc4]
abbrev Zt2 : Type := List ByteArray
abbrev Zt3 : Type := List (Int × Zt0)
abbrev Zt5 : Type := List (Int × ByteArray × Zt0)
abbrev Zc6 : Cs := cs [.s, .l (cs [.s]), .l Zc1, .s, .l (cs [.s]), .l Zc1]
abbrev Zc7 : Cs := cs [.l (cs [.i .u8])]
abbrev Zc13 : Cs := cs [I, .s, .l Zc4]
abbrev Zc8 : Cs := cs [.l (cs [I]), .l Zc1, I, I, .s, .l (cs [.s]), .l Zc1, .s, .l (cs [.s]), .l Zc1, .s, I, .l Zc13, .b, .l (cs [.s]), .l Zc1]
abbrev Zt9 : Type := List (Int × ByteArray × Bool)
abbrev Zc10 : Cs := cs [.l (cs [.s])]
abbrev Zt11 : Type := List ((List Int))
abbrev Zc12 : Cs := cs [I, I, I, .b, .b, .l (cs [.s])]
abbrev Zc14 : Cs := cs [.s, .l (cs [.s]), .l Zc1]
abbrev Zc15 : Cs := cs [I, I, I, .l (cs [.s])]
abbrev Zc16 : Cs := cs [.s, .l (cs [.s]), .l Zc1, .s, .l (cs [.s]), .l Zc1, I, .l Zc4, I, .l Zc4]
abbrev Zc17 : Cs := cs [.l (cs [I]), .l Zc1, I, I, .l Zc1, I, I, .s, .l (cs [.s]), .l Zc1, .s, .l (cs [.s]), .l Zc1, .s, I, .l Zc13, .b, I, .l Zc4, .l (cs [.s]), .l Zc1]
abbrev Zc18 : Cs := cs [.l (cs [.s]), I, I, .s, .l (cs [.s]), .l Zc1, .s, .l (cs [.s]), .l Zc1, .s, .l (cs [.s]), .l Zc1, .s, .l (cs [I]), .l (cs [.s]), .l Zc1]
abbrev Zc19 : Cs := cs [.i .u32, .l Zc1, I, I, .l Zc4, I, I, .s, .l (cs [.s]), .l Zc1, .s, I, .l (cs [I, .s, .b]), .b, I, .l (cs [.s]), .l Zc1, .l Zc4]
abbrev Zc20 : Cs := cs [I, I, .l (cs [.s])]
abbrev Zc21 : Cs := cs [.s, .l (cs [.s]), .l Zc1, I]
abbrev Zp22 : Type := (List Int) × Zt3 × Int × Int × Zt3 × Int × Int × ByteArray × Zt2 × Zt3 × ByteArray × Zt2 × Zt3 × ByteArray × Int × Zt5 × Bool × Int × Zt0 × Zt2 × Zt3
abbrev Zp23 : Type := Zt2 × Int × Int × ByteArray × Zt2 × Zt3 × ByteArray × Zt2 × Zt3 × ByteArray × Zt2 × Zt3 × ByteArray × (List Int) × Zt2 × Zt3
abbrev Zp24 : Type := (List Int) × Zt3 × Int × Int × ByteArray × Zt2 × Zt3 × ByteArray × Zt2 × Zt3 × ByteArray × Int × Zt5 × Bool × Zt2 × Zt3
abbrev Zp25 : Type := Int × Zt3 × Int × Int × Zt0 × Int × Int × ByteArray × Zt2 × Zt3 × ByteArray × Int × Zt9 × Bool × Int × Zt2 × Zt3 × Zt0
abbrev Zp26 : Type := (ByteArray × Zt2 × Zt3 × ByteArray × Int × Zt5 × Bool × Zt2 × Int × Int × (List Int) × Bool × Zt2 × Zt3)
abbrev Zp27 : Type := Int × Int × Int × Int × Int × Zt11 × ByteArray × Zt2 × Zt3 × ByteArray × Int × Zt2 × Zt3 × Zt0
abbrev Zp28 : Type := Int × Zt2 × Int × Int × ByteArray × Zt2 × Zt3 × ByteArray × Zt2 × Zt3 × ByteArray × Zt2 × Zt3
abbrev Zp29 : Type := Int × Zt3 × Int × Int × ByteArray × Zt2 × Zt3 × ByteArray × Int × Zt9 × Bool × Zt2 × Zt3
abbrev Zp30 : Type := Int × Int × ByteArray × Zt2 × Zt3 × ByteArray × Int × Zt5 × Bool × Zt2 × Zt2 × Zt3
abbrev Zp31 : Type := Int × ByteArray × Zt2 × Zt3 × ByteArray × Zt2 × Zt3 × Int × Zt0 × Int × Zt0 × Zt0
abbrev Zp32 : Type := Int × Int × Int × Int × Zt11 × ByteArray × Zt2 × Zt3 × ByteArray × Zt2 × Zt3
abbrev Zp33 : Type := (ByteArray × Zt2 × Zt3 × ByteArray × Int × Zt5 × Bool × Zt2 × Zt2 × Zt3)
abbrev Zp34 : Type := ByteArray × Zt2 × Zt3 × ByteArray × Zt2 × Zt3 × Int × Zt0 × Int × Zt0
abbrev Zp35 : Type := Int × Bool × Int × ByteArray × Zt2 × Zt3 × ByteArray × Zt2 × Zt3
abbrev Zp36 : Type := Int × ByteArray × Zt2 × Zt3 × ByteArray × Zt2 × Zt3
abbrev Zp37 : Type := Int × Zt3 × Int × Int × ByteArray × Zt2 × Zt3
abbrev Zp38 : Type := Int × Int × Int × Int × ByteArray × ByteArray
abbrev Zp39 : Type := ByteArray × Zt2 × Zt3 × ByteArray × Zt2 × Zt3
abbrev Zp40 : Type := Zt0 × Zt0 × (List Int) × Int × Int × Zt0
abbrev Zp41 : Type := Zt2 × Int × Int × ByteArray × Zt2 × Zt3
abbrev Zp42 : Type := Int × Int × Int × Bool × Bool × Zt2
abbrev mV (n a : Nat) : VI := o n (.mv (t a))
abbrev lD (n a : Nat) : VI := o n (.load false 1 (t a))
abbrev fD (n i a : Nat) : VI := o n (.fad i (t a))
abbrev eX (n a i : Nat) : VI := o n (.ext (t a) i)
abbrev lN (n a : Nat) : VI := o n (.len (t a))
theorem tv : True := trivial
abbrev LK (C : Ctx) (T : Tabs) (c : VCode) : Prop := LsOK (fun _ => False) [] C T c
set_option maxRecDepth 100000
set_option maxHeartbeats 1000000
abbrev pf : Nat -> Bool := fun g => !(List.any ([310, 277, 278, 286, 293, 149, 151, 298, 299, 309, 164, 196, 323, 324, 327, 271, 288, 301, 307, 311, 312, 313, 315, 316, 318, 319, 321, 322, 326, 269, 305] : List Nat) (Nat.beq g))
abbrev Ti (P : Program) (fm : FM) (g : Nat) (F : VFn) : Prop := ∀ f, fm f = g -> fnTr P fm pf f = some (F.slots, F.res, F.code.er)
def fs0 (_ : Lo) : List FnE := []
def q0 (lo : Lo) (n0 : Int) : Option (Int × Int × ByteArray) :=
  some ((1 : Int), n0, (ByteArray.mk #[]))
def YlW : VCode :=
 (.seq (.reg [o 2 (.alloc [.i .i64 0, .i .i64 0, .s (⟨#[]⟩)])])
 (.seq (.reg [mV 3 0, o 4 (.build [.i .i64 0, .i .i64 0, .s (⟨#[]⟩)] [(0, 1, (k 1)), (1, 1, (t 3))]), on (.store 3 (t 2) (t 4))])
 (.fz [2] .ret)))
def Ygd : VFn := ⟨true, 5, [.c 2 true 3], YlW⟩
def Yge (lo : Lo) : FnE := ⟨291, true, ⟨[0], [.i .i64], [], (cs [I])⟩, .ag [.i .i64, .i .i64, .s], [], Zc4, (fun x => q0 lo x : Int -> Option (Int × Int × ByteArray))⟩
theorem YsO (lo : Lo) : ∀ x : Int, evP (⟨pf, fs0 lo, [], 0⟩ : Tabs) Ygd ⟨[0], [.i .i64], [], (cs [I])⟩ (.ag [.i .i64, .i .i64, .s]) Zc4 x = q0 lo x := fun x => by kernel_rfl
theorem YsP {P : Program} {fm : FM} {lo : Lo} (hlo : LoOK lo) (hS : YwH P fm ⟨pf, fs0 lo, [], 0⟩) (hm : P.follows .mixedOrders = true) (htie : Ti P fm 291 Ygd) : YwH P fm ⟨pf, Yge lo :: fs0 lo, [], 0⟩ :=
  Yak hS hm [] (Yge lo) rfl Ygd htie (by decide) rfl (Nat.le_of_ble_eq_true (by kernel_rfl)) (fun C hT => show LK C _ YlW from ⟨tv, ⟨tv, tv⟩⟩) (fun x y h => (YsO lo x).trans h)
def fs1 (lo : Lo) : List FnE := Yge lo :: fs0 lo
def q1 (lo : Lo) (s0 : ByteArray) : Option (Int × Int × ByteArray) :=
  some ((2 : Int), (0 : Int), s0)
def YlX : VCode :=
 (.seq (.reg [o 2 (.alloc [.i .i64 0, .i .i64 0, .s (⟨#[]⟩)])])
 (.seq (.reg [mV 3 0, o 4 (.build [.i .i64 0, .i .i64 0, .s (⟨#[]⟩)] [(0, 1, (k 2)), (2, 1, (t 3))]), on (.store 3 (t 2) (t 4))])
 (.fz [2] .ret)))
def Ygf : VFn := ⟨true, 5, [.c 2 true 3], YlX⟩
def Ygg (lo : Lo) : FnE := ⟨292, true, ⟨[0], [.s], [], (cs [.s])⟩, .ag [.i .i64, .i .i64, .s], [], Zc4, (fun x => q1 lo x : ByteArray -> Option (Int × Int × ByteArray))⟩
theorem YsQ (lo : Lo) : ∀ x : ByteArray, evP (⟨pf, fs1 lo, [], 0⟩ : Tabs) Ygf ⟨[0], [.s], [], (cs [.s])⟩ (.ag [.i .i64, .i .i64, .s]) Zc4 x = q1 lo x := fun x => by kernel_rfl
theorem YsR {P : Program} {fm : FM} {lo : Lo} (hlo : LoOK lo) (hS : YwH P fm ⟨pf, fs1 lo, [], 0⟩) (hm : P.follows .mixedOrders = true) (htie : Ti P fm 292 Ygf) : YwH P fm ⟨pf, Ygg lo :: fs1 lo, [], 0⟩ :=
  Yak hS hm [] (Ygg lo) rfl Ygf htie (by decide) rfl (Nat.le_of_ble_eq_true (by kernel_rfl)) (fun C hT => show LK C _ YlX from ⟨tv, ⟨tv, tv⟩⟩) (fun x y h => (YsQ lo x).trans h)
def fs2 (lo : Lo) : List FnE := Ygg lo :: fs1 lo
def q2 (lo : Lo) : Option (ByteArray × Zt2 × Zt3) :=
  Option.bind (q0 lo (5 : Int)) fun y0 => Option.bind (q1 lo (ByteArray.mk #[120])) fun y1 => Option.bind (q0 lo (5 : Int)) fun y2 => Option.bind (q1 lo (ByteArray.mk #[121])) fun y3 => Option.bind (q0 lo (7 : Int)) fun y4 => Option.bind (q1 lo (ByteArray.mk #[120])) fun y5 => some ((ByteArray.mk #[114]), [(ByteArray.mk #[97]), (ByteArray.mk #[98])], [((1 : Int), [y0, y1]), ((2 : Int), [y2, y3]), ((4 : Int), [y4, y5])])
def YlY : VCode :=
 (.seq (.reg [o 0 (.alloc [.s (⟨#[]⟩), .e (cs [.s]), .e Zc1])])
 (.seq (.reg [o 1 (.mv (.c (.f 291)))])
 (.seq (.reg [o 2 (.mv (.c (.f 292)))])
 (.seq (.reg [o 3 (.bsl (cs [.s]) 2 [(0, (ks (⟨#[97]⟩))), (1, (ks (⟨#[98]⟩)))]), mV 4 1, o 5 (.dyn (t 4) [(k 5)]), mV 6 2, o 7 (.dyn (t 6) [(ks (⟨#[120]⟩))]), o 8 (.bsl Zc4 2 [(0, (t 5)), (1, (t 7))]), o 9 (.build [.i .i64 0, .e Zc4] [(0, 1, (k 1)), (1, 1, (t 8))]), mV 10 1, o 11 (.dyn (t 10) [(k 5)]), mV 12 2, o 13 (.dyn (t 12) [(ks (⟨#[121]⟩))]), o 14 (.bsl Zc4 2 [(0, (t 11)), (1, (t 13))]), o 15 (.build [.i .i64 0, .e Zc4] [(0, 1, (k 2)), (1, 1, (t 14))]), mV 16 1, o 17 (.dyn (t 16) [(k 7)]), mV 18 2, o 19 (.dyn (t 18) [(ks (⟨#[120]⟩))]), o 20 (.bsl Zc4 2 [(0, (t 17)), (1, (t 19))]), o 21 (.build [.i .i64 0, .e Zc4] [(0, 1, (k 4)), (1, 1, (t 20))]), o 22 (.bsl Zc1 3 [(0, (t 9)), (1, (t 15)), (2, (t 21))]), o 23 (.build [.s (⟨#[]⟩), .e (cs [.s]), .e Zc1] [(0, 1, (ks (⟨#[114]⟩))), (1, 1, (t 3)), (2, 1, (t 22))]), on (.store 3 (t 0) (t 23))])
 (.fz [0] .ret)))))
def Ygh : VFn := ⟨true, 24, [.c 0 true 3], YlY⟩
def Ygi (lo : Lo) : FnE := ⟨254, true, ⟨[], [], [], (cs [])⟩, .ag [.s, .l (cs [.s]), .l Zc1], [], Zc14, (fun x => q2 lo  : Unit -> Option (ByteArray × Zt2 × Zt3))⟩
theorem YsS (lo : Lo) : ∀ x : Unit, evP (⟨pf, fs2 lo, [], 0⟩ : Tabs) Ygh ⟨[], [], [], (cs [])⟩ (.ag [.s, .l (cs [.s]), .l Zc1]) Zc14 x = q2 lo  := fun x => by kernel_rfl
theorem YsT {P : Program} {fm : FM} {lo : Lo} (hlo : LoOK lo) (hS : YwH P fm ⟨pf, fs2 lo, [], 0⟩) (hm : P.follows .mixedOrders = true) (htie : Ti P fm 254 Ygh) : YwH P fm ⟨pf, Ygi lo :: fs2 lo, [], 0⟩ :=
  Yak hS hm [] (Ygi lo) rfl Ygh htie (by decide) rfl (Nat.le_of_ble_eq_true (by kernel_rfl)) (fun C hT => show LK C _ YlY from ⟨tv, ⟨tv, ⟨tv, ⟨tv, tv⟩⟩⟩⟩) (fun x y h => (YsS lo x).trans h)
def fs3 (lo : Lo) : List FnE := Ygi lo :: fs2 lo
def q3_L3_b : VCode :=
 (.seq (.reg [o 20 (.bin .lss (t 19) (t 18))])
 (.seq (.cond (t 20) .skip
 (.exit 0))
 (.seq (.blk 1 (.seq (.reg [mV 21 19, mV 3 21])
 (.seq (.reg [mV 22 0, mV 23 3, o 24 (.idx (t 22) (t 23)), mV 4 24])
 (.seq (.reg [mV 25 4, o 26 (.bin .geq (t 25) (ki .u8 97)), mV 27 26, og 28 27 true (.mv (t 4)), og 29 27 true (.bin .leq (t 28) (ki .u8 122)), o 30 (.pick (t 27) (t 29) (kb false)), mV 31 30, og 32 31 false (.mv (t 4)), og 33 31 false (.bin .geq (t 32) (ki .u8 65)), og 34 31 false (.mv (t 33)), og 35 34 true (.mv (t 4)), og 36 34 true (.bin .leq (t 35) (ki .u8 90)), og 37 31 false (.pick (t 34) (t 36) (kb false)), o 38 (.pick (t 31) (kb true) (t 37)), mV 39 38, og 40 39 false (.mv (t 4)), og 41 39 false (.bin .eql (t 40) (ki .u8 95)), o 42 (.pick (t 39) (kb true) (t 41)), mV 5 42])
 (.seq (.reg [mV 43 5, o 44 (.not (t 43)), mV 45 44, og 46 45 true (.mv (t 3)), og 47 45 true (.bin .eql (t 46) (k 0)), og 48 45 true (.mv (t 47)), og 49 48 false (.mv (t 4)), og 50 48 false (.bin .lss (t 49) (ki .u8 48)), og 51 45 true (.pick (t 48) (kb true) (t 50)), og 52 45 true (.mv (t 51)), og 53 52 false (.mv (t 4)), og 54 52 false (.bin .gtr (t 53) (ki .u8 57)), og 55 45 true (.pick (t 52) (kb true) (t 54)), o 56 (.pick (t 45) (t 55) (kb false))])
 (.cond (t 56) (.seq (.reg [o 2 (.mv (kb false))])
 (.fz [2] .ret))
 .skip))))))
 (.reg [o 57 (.bin .add (t 19) (k 1)), mV 19 57]))))
def YlZ : Sg := ⟨[0, 18, 19], [.s, .i .i64, .i .i64], [], (cs [.s, I, I])⟩
def Yl0 : List Out1 := [⟨.ret, ⟨[2], [.b], [], (cs [.b])⟩⟩, ⟨.exit 0, ⟨[], [], [], (cs [])⟩⟩]
def Yd3 (lo : Lo) : ByteArray × Int × Int -> Option ((ByteArray × Int × Int) ⊕ (Bool ⊕ Unit)) := fun x => match x with
  | (s0, v18, v19) => bif (decide (v19 < v18)) then (chk (0 <= v19 /\ v19 < (s0.size : Int)) (bif (decide ((97 : Int) <= (YwK s0 v19))) then (bif (decide ((YwK s0 v19) <= (122 : Int))) then (bif (!true) then (bif (decide (v19 = (0 : Int))) then (some (.inr (.inl false))) else (bif (decide ((YwK s0 v19) < (48 : Int))) then (some (.inr (.inl false))) else (bif (decide ((57 : Int) < (YwK s0 v19))) then (some (.inr (.inl false))) else (some (.inl (s0, v18, (IntKind.wrap .i64 (v19 + (1 : Int))))))))) else (some (.inl (s0, v18, (IntKind.wrap .i64 (v19 + (1 : Int))))))) else (bif (decide ((65 : Int) <= (YwK s0 v19))) then (bif (decide ((YwK s0 v19) <= (90 : Int))) then (bif (!true) then (bif (decide (v19 = (0 : Int))) then (some (.inr (.inl false))) else (bif (decide ((YwK s0 v19) < (48 : Int))) then (some (.inr (.inl false))) else (bif (decide ((57 : Int) < (YwK s0 v19))) then (some (.inr (.inl false))) else (some (.inl (s0, v18, (IntKind.wrap .i64 (v19 + (1 : Int))))))))) else (some (.inl (s0, v18, (IntKind.wrap .i64 (v19 + (1 : Int))))))) else (bif (!(decide ((YwK s0 v19) = (95 : Int)))) then (bif (decide (v19 = (0 : Int))) then (some (.inr (.inl false))) else (bif (decide ((YwK s0 v19) < (48 : Int))) then (some (.inr (.inl false))) else (bif (decide ((57 : Int) < (YwK s0 v19))) then (some (.inr (.inl false))) else (some (.inl (s0, v18, (IntKind.wrap .i64 (v19 + (1 : Int))))))))) else (some (.inl (s0, v18, (IntKind.wrap .i64 (v19 + (1 : Int)))))))) else (bif (!(decide ((YwK s0 v19) = (95 : Int)))) then (bif (decide (v19 = (0 : Int))) then (some (.inr (.inl false))) else (bif (decide ((YwK s0 v19) < (48 : Int))) then (some (.inr (.inl false))) else (bif (decide ((57 : Int) < (YwK s0 v19))) then (some (.inr (.inl false))) else (some (.inl (s0, v18, (IntKind.wrap .i64 (v19 + (1 : Int))))))))) else (some (.inl (s0, v18, (IntKind.wrap .i64 (v19 + (1 : Int))))))))) else (bif (decide ((65 : Int) <= (YwK s0 v19))) then (bif (decide ((YwK s0 v19) <= (90 : Int))) then (bif (!true) then (bif (decide (v19 = (0 : Int))) then (some (.inr (.inl false))) else (bif (decide ((YwK s0 v19) < (48 : Int))) then (some (.inr (.inl false))) else (bif (decide ((57 : Int) < (YwK s0 v19))) then (some (.inr (.inl false))) else (some (.inl (s0, v18, (IntKind.wrap .i64 (v19 + (1 : Int))))))))) else (some (.inl (s0, v18, (IntKind.wrap .i64 (v19 + (1 : Int))))))) else (bif (!(decide ((YwK s0 v19) = (95 : Int)))) then (bif (decide (v19 = (0 : Int))) then (some (.inr (.inl false))) else (bif (decide ((YwK s0 v19) < (48 : Int))) then (some (.inr (.inl false))) else (bif (decide ((57 : Int) < (YwK s0 v19))) then (some (.inr (.inl false))) else (some (.inl (s0, v18, (IntKind.wrap .i64 (v19 + (1 : Int))))))))) else (some (.inl (s0, v18, (IntKind.wrap .i64 (v19 + (1 : Int)))))))) else (bif (!(decide ((YwK s0 v19) = (95 : Int)))) then (bif (decide (v19 = (0 : Int))) then (some (.inr (.inl false))) else (bif (decide ((YwK s0 v19) < (48 : Int))) then (some (.inr (.inl false))) else (bif (decide ((57 : Int) < (YwK s0 v19))) then (some (.inr (.inl false))) else (some (.inl (s0, v18, (IntKind.wrap .i64 (v19 + (1 : Int))))))))) else (some (.inl (s0, v18, (IntKind.wrap .i64 (v19 + (1 : Int)))))))))) else (some (.inr (.inr ())))
theorem YsU (lo : Lo) : ∀ x : ByteArray × Int × Int, YwY (⟨pf, fs3 lo, [], 0⟩ : Tabs) [] YlZ Yl0 q3_L3_b x = Yd3 lo x := fun x => by kernel_rfl
def Ygj (lo : Lo) : ByteArray × Int × Int -> Option (Bool ⊕ Unit) := lo.run (Yd3 lo)
def Ygk (lo : Lo) : LpE := ⟨3, [], YlZ, Yl0, Ygj lo⟩
theorem YsV {lo : Lo} (hlo : LoOK lo) (C : Ctx) (hT : TOK (⟨pf, fs3 lo, [], 0⟩ : Tabs) C) : YwI (fun _ => False) [] 0 C (.loop q3_L3_b.er) (Ygk lo) :=
  Yal hT frNo (show LK C _ q3_L3_b from ⟨tv, ⟨⟨tv, tv⟩, ⟨⟨tv, ⟨tv, ⟨tv, ⟨tv, ⟨⟨tv, tv⟩, tv⟩⟩⟩⟩⟩, tv⟩⟩⟩) (fun x y h => Yam (YsU lo) (hlo _ _ _ h))
def q3 (lo : Lo) (s0 : ByteArray) : Option Bool :=
  bif (decide (s0 = (ByteArray.mk #[]))) then (some false) else (bif (decide ((24 : Int) < (s0.size : Int))) then (some false) else (bif (decide (s0 = (ByteArray.mk #[110, 117, 108, 108]))) then (some false) else (Option.bind (Ygj lo (s0, (s0.size : Int), (0 : Int))) fun y7 => alt2 y7 (fun y8 => some y8) (fun y9 => some true))))
def Yl1 : VCode :=
 (.seq (.reg [o 2 (.mv (kb false))])
 (.seq (.seq (.reg [mV 6 0, o 7 (.bin .eql (t 6) (ks (⟨#[]⟩))), mV 8 7, og 9 8 false (.mv (t 0)), og 10 8 false (.lenS (t 9)), og 11 8 false (.bin .gtr (t 10) (k 24)), o 12 (.pick (t 8) (kb true) (t 11)), mV 13 12, og 14 13 false (.mv (t 0)), og 15 13 false (.bin .eql (t 14) (ks (⟨#[110, 117, 108, 108]⟩))), o 16 (.pick (t 13) (kb true) (t 15))])
 (.cond (t 16) (.seq (.reg [o 2 (.mv (kb false))])
 (.fz [2] .ret))
 .skip))
 (.seq (.seq (.reg [mV 17 0, o 18 (.lenS (t 17)), o 19 (.mv (k 0))])
 (.blk 0 (.loop 3 q3_L3_b)))
 (.seq (.reg [o 2 (.mv (kb true))])
 (.fz [2] .ret)))))
def Ygl : VFn := ⟨true, 58, [.t 2], Yl1⟩
def Ygm (lo : Lo) : FnE := ⟨255, true, ⟨[0], [.s], [], (cs [.s])⟩, .b, [], (cs [.b]), (fun x => q3 lo x : ByteArray -> Option Bool)⟩
theorem YsW (lo : Lo) : ∀ x : ByteArray, evP (⟨pf, fs3 lo, [Ygk lo], 0⟩ : Tabs) Ygl ⟨[0], [.s], [], (cs [.s])⟩ (.b) (cs [.b]) x = q3 lo x := fun x => by kernel_rfl
theorem YsX {P : Program} {fm : FM} {lo : Lo} (hlo : LoOK lo) (hS : YwH P fm ⟨pf, fs3 lo, [], 0⟩) (hm : P.follows .mixedOrders = true) (htie : Ti P fm 255 Ygl) : YwH P fm ⟨pf, Ygm lo :: fs3 lo, [], 0⟩ :=
  Yak hS hm [Ygk lo] (Ygm lo) rfl Ygl htie (by decide) rfl (Nat.le_of_ble_eq_true (by kernel_rfl)) (fun C hT => show LK C _ Yl1 from ⟨tv, ⟨⟨tv, ⟨⟨tv, tv⟩, tv⟩⟩, ⟨⟨tv, (YwW (by kernel_rfl) (YsV hlo C (Yai hT)))⟩, ⟨tv, tv⟩⟩⟩⟩) (fun x y h => (YsW lo x).trans h)
def fs4 (lo : Lo) : List FnE := Ygm lo :: fs3 lo
def q4_L3_b : VCode :=
 (.seq (.reg [o 9 (.bin .lss (t 8) (t 7))])
 (.seq (.cond (t 9) .skip
 (.exit 0))
 (.seq (.blk 1 (.seq (.reg [mV 10 8, mV 5 10])
 (.seq (.reg [mV 11 1, mV 12 0, mV 13 5, o 14 (.iad 1 (t 12) (t 13)), lD 15 14, o 16 (.bin .eql (t 11) (t 15))])
 (.cond (t 16) (.seq (.reg [mV 17 5, mV 4 17])
 (.fz [4] .ret))
 .skip))))
 (.reg [o 18 (.bin .add (t 8) (k 1)), mV 8 18]))))
def Yl2 : Sg := ⟨[0, 1, 7, 8], [.l (cs [.s]), .s, .i .i64, .i .i64], [], (cs [.l (cs [.s]), .s, I, I])⟩
def Yl3 : List Out1 := [⟨.ret, ⟨[4], [.i .i64], [], (cs [I])⟩⟩, ⟨.exit 0, ⟨[], [], [], (cs [])⟩⟩]
def Yd4 (lo : Lo) : Zt2 × ByteArray × Int × Int -> Option ((Zt2 × ByteArray × Int × Int) ⊕ (Int ⊕ Unit)) := fun x => match x with
  | (s0, v1, v7, v8) => bif (decide (v8 < v7)) then (chk (0 <= v8 /\ v8 < (s0.length : Int)) (bif (decide (v1 = (s0.getD v8.toNat (ByteArray.mk #[])))) then (some (.inr (.inl v8))) else (some (.inl (s0, v1, v7, (IntKind.wrap .i64 (v8 + (1 : Int)))))))) else (some (.inr (.inr ())))
theorem YsY (lo : Lo) : ∀ x : Zt2 × ByteArray × Int × Int, YwY (⟨pf, fs4 lo, [], 0⟩ : Tabs) [] Yl2 Yl3 q4_L3_b x = Yd4 lo x := fun x => by kernel_rfl
def Ygn (lo : Lo) : Zt2 × ByteArray × Int × Int -> Option (Int ⊕ Unit) := lo.run (Yd4 lo)
def Ygo (lo : Lo) : LpE := ⟨3, [], Yl2, Yl3, Ygn lo⟩
theorem YsZ {lo : Lo} (hlo : LoOK lo) (C : Ctx) (hT : TOK (⟨pf, fs4 lo, [], 0⟩ : Tabs) C) : YwI (fun _ => False) [] 0 C (.loop q4_L3_b.er) (Ygo lo) :=
  Yal hT frNo (show LK C _ q4_L3_b from ⟨tv, ⟨⟨tv, tv⟩, ⟨⟨tv, ⟨tv, ⟨⟨tv, tv⟩, tv⟩⟩⟩, tv⟩⟩⟩) (fun x y h => Yam (YsY lo) (hlo _ _ _ h))
def q4 (lo : Lo) (s0 : List ByteArray) (v1 : ByteArray) : Option Int :=
  Option.bind (Ygn lo (s0, v1, (s0.length : Int), (0 : Int))) fun y12 => alt2 y12 (fun y13 => some y13) (fun y14 => some (-1 : Int))
def Yl4 : VCode :=
 (.seq (.reg [o 4 (.mv (k 0))])
 (.seq (.seq (.reg [mV 6 0, lN 7 6, o 8 (.mv (k 0))])
 (.blk 0 (.loop 3 q4_L3_b)))
 (.seq (.reg [o 4 (.mv (k (-1)))])
 (.fz [4] .ret))))
def Ygp : VFn := ⟨true, 19, [.t 4], Yl4⟩
def Ygq (lo : Lo) : FnE := ⟨173, true, ⟨[0, 1], [.l (cs [.s]), .s], [], (cs [.l (cs [.s]), .s])⟩, .i .i64, [], (cs [I]), (fun x => q4 lo x.1 x.2 : Zt2 × ByteArray -> Option Int)⟩
theorem Ys0 (lo : Lo) : ∀ x : Zt2 × ByteArray, evP (⟨pf, fs4 lo, [Ygo lo], 0⟩ : Tabs) Ygp ⟨[0, 1], [.l (cs [.s]), .s], [], (cs [.l (cs [.s]), .s])⟩ (.i .i64) (cs [I]) x = q4 lo x.1 x.2 := fun x => by kernel_rfl
theorem Ys1 {P : Program} {fm : FM} {lo : Lo} (hlo : LoOK lo) (hS : YwH P fm ⟨pf, fs4 lo, [], 0⟩) (hm : P.follows .mixedOrders = true) (htie : Ti P fm 173 Ygp) : YwH P fm ⟨pf, Ygq lo :: fs4 lo, [], 0⟩ :=
  Yak hS hm [Ygo lo] (Ygq lo) rfl Ygp htie (by decide) rfl (Nat.le_of_ble_eq_true (by kernel_rfl)) (fun C hT => show LK C _ Yl4 from ⟨tv, ⟨⟨tv, (YwW (by kernel_rfl) (YsZ hlo C (Yai hT)))⟩, ⟨tv, tv⟩⟩⟩) (fun x y h => (Ys0 lo x).trans h)
def fs5 (lo : Lo) : List FnE := Ygq lo :: fs4 lo
def q5 (lo : Lo) (s0 : List ByteArray) (v1 : ByteArray) : Option Bool :=
  Option.bind (q4 lo s0 v1) fun y15 => some (decide ((0 : Int) <= y15))
def Yl5 : VCode :=
 (.seq (.reg [o 4 (.mv (kb false))])
 (.seq (.reg [mV 5 0, mV 6 1, o 7 (.call 173 [(t 5), (t 6)]), o 8 (.bin .geq (t 7) (k 0)), mV 4 8])
 (.fz [4] .ret)))
def Ygr : VFn := ⟨true, 9, [.t 4], Yl5⟩
def Ygs (lo : Lo) : FnE := ⟨256, true, ⟨[0, 1], [.l (cs [.s]), .s], [], (cs [.l (cs [.s]), .s])⟩, .b, [], (cs [.b]), (fun x => q5 lo x.1 x.2 : Zt2 × ByteArray -> Option Bool)⟩
theorem Ys2 (lo : Lo) : ∀ x : Zt2 × ByteArray, evP (⟨pf, fs5 lo, [], 0⟩ : Tabs) Ygr ⟨[0, 1], [.l (cs [.s]), .s], [], (cs [.l (cs [.s]), .s])⟩ (.b) (cs [.b]) x = q5 lo x.1 x.2 := fun x => by kernel_rfl
theorem Ys3 {P : Program} {fm : FM} {lo : Lo} (hlo : LoOK lo) (hS : YwH P fm ⟨pf, fs5 lo, [], 0⟩) (hm : P.follows .mixedOrders = true) (htie : Ti P fm 256 Ygr) : YwH P fm ⟨pf, Ygs lo :: fs5 lo, [], 0⟩ :=
  Yak hS hm [] (Ygs lo) rfl Ygr htie (by decide) rfl (Nat.le_of_ble_eq_true (by kernel_rfl)) (fun C hT => show LK C _ Yl5 from ⟨tv, ⟨tv, tv⟩⟩) (fun x y h => (Ys2 lo x).trans h)
def fs6 (lo : Lo) : List FnE := Ygs lo :: fs5 lo
def q6 (lo : Lo) (v0_0 : Int) (v0_1 : Int) (v0_2 : ByteArray) : Option Bool :=
  bif (decide (v0_0 = (0 : Int))) then (bif (decide (v0_1 = (0 : Int))) then (some (decide (v0_2 = (ByteArray.mk #[])))) else (some false)) else (bif (decide (v0_0 = (1 : Int))) then (some (decide (v0_2 = (ByteArray.mk #[])))) else (bif (decide (v0_0 = (2 : Int))) then (bif (decide (v0_1 = (0 : Int))) then (some (decide ((v0_2.size : Int) <= (200 : Int)))) else (some false)) else (bif (decide (v0_0 = (3 : Int))) then (bif (decide ((1 : Int) <= v0_1)) then (some (decide (v0_2 = (ByteArray.mk #[])))) else (some false)) else (some false))))
def Yl6 : VCode :=
 (.seq (.reg [o 1 (.box (t 0)), o 2 (.mv (kb false))])
 (.seq (.seq (.reg [fD 3 0 1, lD 4 3])
 (.blk 0 (.seq (.reg [o 6 (.bin .eql (t 4) (k 0)), mV 5 6])
 (.cond (t 5) (.seq (.reg [fD 7 1 1, lD 8 7, o 9 (.bin .eql (t 8) (k 0)), mV 10 9, og 11 10 true (.fad 2 (t 1)), og 12 10 true (.load false 1 (t 11)), og 13 10 true (.bin .eql (t 12) (ks (⟨#[]⟩))), o 14 (.pick (t 10) (t 13) (kb false)), mV 2 14])
 (.fz [2] .ret))
 (.seq (.reg [o 16 (.bin .eql (t 4) (k 1)), mV 15 16])
 (.cond (t 15) (.seq (.reg [fD 17 2 1, lD 18 17, o 19 (.bin .eql (t 18) (ks (⟨#[]⟩))), mV 2 19])
 (.fz [2] .ret))
 (.seq (.reg [o 21 (.bin .eql (t 4) (k 2)), mV 20 21])
 (.cond (t 20) (.seq (.reg [fD 22 1 1, lD 23 22, o 24 (.bin .eql (t 23) (k 0)), mV 25 24, og 26 25 true (.fad 2 (t 1)), og 27 25 true (.load false 1 (t 26)), og 28 25 true (.lenS (t 27)), og 29 25 true (.bin .leq (t 28) (k 200)), o 30 (.pick (t 25) (t 29) (kb false)), mV 2 30])
 (.fz [2] .ret))
 (.seq (.reg [o 32 (.bin .eql (t 4) (k 3)), mV 31 32])
 (.cond (t 31) (.seq (.reg [fD 33 1 1, lD 34 33, o 35 (.bin .geq (t 34) (k 1)), mV 36 35, og 37 36 true (.fad 2 (t 1)), og 38 36 true (.load false 1 (t 37)), og 39 36 true (.bin .eql (t 38) (ks (⟨#[]⟩))), o 40 (.pick (t 36) (t 39) (kb false)), mV 2 40])
 (.fz [2] .ret))
 .skip))))))))))
 (.seq (.reg [o 2 (.mv (kb false))])
 (.fz [2] .ret))))
def Ygt : VFn := ⟨true, 41, [.t 2], Yl6⟩
def Ygu (lo : Lo) : FnE := ⟨283, true, ⟨[0], [.ag [.i .i64, .i .i64, .s]], [], Zc4⟩, .b, [], (cs [.b]), (fun x => q6 lo x.1 x.2.1 x.2.2 : Int × Int × ByteArray -> Option Bool)⟩
theorem Ys4 (lo : Lo) : ∀ x : Int × Int × ByteArray, evP (⟨pf, fs6 lo, [], 0⟩ : Tabs) Ygt ⟨[0], [.ag [.i .i64, .i .i64, .s]], [], Zc4⟩ (.b) (cs [.b]) x = q6 lo x.1 x.2.1 x.2.2 := fun x => by kernel_rfl
theorem Ys5 {P : Program} {fm : FM} {lo : Lo} (hlo : LoOK lo) (hS : YwH P fm ⟨pf, fs6 lo, [], 0⟩) (hm : P.follows .mixedOrders = true) (htie : Ti P fm 283 Ygt) : YwH P fm ⟨pf, Ygu lo :: fs6 lo, [], 0⟩ :=
  Yak hS hm [] (Ygu lo) rfl Ygt htie (by decide) rfl (Nat.le_of_ble_eq_true (by kernel_rfl)) (fun C hT => show LK C _ Yl6 from ⟨tv, ⟨⟨tv, ⟨tv, ⟨⟨tv, tv⟩, ⟨tv, ⟨⟨tv, tv⟩, ⟨tv, ⟨⟨tv, tv⟩, ⟨tv, ⟨⟨tv, tv⟩, tv⟩⟩⟩⟩⟩⟩⟩⟩⟩, ⟨tv, tv⟩⟩⟩) (fun x y h => (Ys4 lo x).trans h)
def fs7 (lo : Lo) : List FnE := Ygu lo :: fs6 lo
def q7 (lo : Lo) (v0_0 : Int) (v0_1 : Int) (v0_2 : ByteArray) : Option Bool :=
  Option.bind (q6 lo v0_0 v0_1 v0_2) fun y20 => some (!y20)
def Yl7 : VCode :=
 (.seq (.reg [o 1 (.box (t 0)), o 2 (.mv (kb false))])
 (.seq (.reg [o 3 (.load true 3 (t 1)), o 4 (.call 283 [(t 3)]), o 5 (.not (t 4)), mV 2 5])
 (.fz [2] .ret)))
def Ygv : VFn := ⟨true, 6, [.t 2], Yl7⟩
def Ygw (lo : Lo) : FnE := ⟨294, true, ⟨[0], [.ag [.i .i64, .i .i64, .s]], [], Zc4⟩, .b, [], (cs [.b]), (fun x => q7 lo x.1 x.2.1 x.2.2 : Int × Int × ByteArray -> Option Bool)⟩
theorem Ys6 (lo : Lo) : ∀ x : Int × Int × ByteArray, evP (⟨pf, fs7 lo, [], 0⟩ : Tabs) Ygv ⟨[0], [.ag [.i .i64, .i .i64, .s]], [], Zc4⟩ (.b) (cs [.b]) x = q7 lo x.1 x.2.1 x.2.2 := fun x => by kernel_rfl
theorem Ys7 {P : Program} {fm : FM} {lo : Lo} (hlo : LoOK lo) (hS : YwH P fm ⟨pf, fs7 lo, [], 0⟩) (hm : P.follows .mixedOrders = true) (htie : Ti P fm 294 Ygv) : YwH P fm ⟨pf, Ygw lo :: fs7 lo, [], 0⟩ :=
  Yak hS hm [] (Ygw lo) rfl Ygv htie (by decide) rfl (Nat.le_of_ble_eq_true (by kernel_rfl)) (fun C hT => show LK C _ Yl7 from ⟨tv, ⟨tv, tv⟩⟩) (fun x y h => (Ys6 lo x).trans h)
def fs8 (lo : Lo) : List FnE := Ygw lo :: fs7 lo
def q8_L3_b : VCode :=
 (.seq (.reg [o 9 (.bin .lss (t 8) (t 7))])
 (.seq (.cond (t 9) .skip
 (.exit 0))
 (.seq (.blk 1 (.seq (.reg [mV 10 8, mV 5 10])
 (.seq (.reg [mV 11 1, mV 12 0, mV 13 5, o 14 (.iad 3 (t 12) (t 13)), o 15 (.load true 3 (t 14)), o 16 (.dyn (t 11) [(t 15)])])
 (.cond (t 16) (.seq (.reg [mV 17 5, mV 4 17])
 .ret)
 .skip))))
 (.reg [o 18 (.bin .add (t 8) (k 1)), mV 8 18]))))
def Yl8 : Sg := ⟨[0, 1, 7, 8], [.l Zc4, .clo 294 [], .i .i64, .i .i64], [], (cs [.l Zc4, I, I])⟩
def Yl9 : List Out1 := [⟨.ret, ⟨[4], [.i .i64], [], (cs [I])⟩⟩, ⟨.exit 0, ⟨[], [], [], (cs [])⟩⟩]
def Yd5 (lo : Lo) : Zt0 × Int × Int -> Option ((Zt0 × Int × Int) ⊕ (Int ⊕ Unit)) := fun x => match x with
  | (s0, v7, v8) => bif (decide (v8 < v7)) then (chk (0 <= v8 /\ v8 < (s0.length : Int)) (Option.bind (q7 lo ((s0.getD v8.toNat ((0 : Int), (0 : Int), (ByteArray.mk #[]))).1) ((s0.getD v8.toNat ((0 : Int), (0 : Int), (ByteArray.mk #[]))).2.1) ((s0.getD v8.toNat ((0 : Int), (0 : Int), (ByteArray.mk #[]))).2.2)) fun y21 => bif y21 then (some (.inr (.inl v8))) else (some (.inl (s0, v7, (IntKind.wrap .i64 (v8 + (1 : Int)))))))) else (some (.inr (.inr ())))
theorem Ys8 (lo : Lo) : ∀ x : Zt0 × Int × Int, YwY (⟨pf, fs8 lo, [], 0⟩ : Tabs) [] Yl8 Yl9 q8_L3_b x = Yd5 lo x := fun x => by kernel_rfl
def Ygx (lo : Lo) : Zt0 × Int × Int -> Option (Int ⊕ Unit) := lo.run (Yd5 lo)
def Yd6 (lo : Lo) : LpE := ⟨3, [], Yl8, Yl9, Ygx lo⟩
theorem Ys9 {lo : Lo} (hlo : LoOK lo) (C : Ctx) (hT : TOK (⟨pf, fs8 lo, [], 0⟩ : Tabs) C) {Fr : Nat -> Prop} {H0 : Heap} (hf : FrOK Fr H0) : YwI Fr H0 0 C (.loop q8_L3_b.er) (Yd6 lo) :=
  Yal hT hf (show LsOK Fr H0 C (⟨pf, fs8 lo, [], 0⟩ : Tabs) q8_L3_b from ⟨tv, ⟨⟨tv, tv⟩, ⟨⟨tv, ⟨tv, ⟨⟨tv, tv⟩, tv⟩⟩⟩, tv⟩⟩⟩) (fun x y h => Yam (Ys8 lo) (hlo _ _ _ h))
def q8 (lo : Lo) (s0 : List (Int × Int × ByteArray)) : Option Int :=
  Option.bind (Ygx lo (s0, (s0.length : Int), (0 : Int))) fun y22 => alt2 y22 (fun y23 => some y23) (fun y24 => some (-1 : Int))
def Yma : VCode :=
 (.seq (.reg [o 4 (.mv (k 0))])
 (.seq (.seq (.reg [mV 6 0, lN 7 6, o 8 (.mv (k 0))])
 (.blk 0 (.loop 3 q8_L3_b)))
 (.seq (.reg [o 4 (.mv (k (-1)))])
 .ret)))
def Ygy : VFn := ⟨true, 19, [.t 4], Yma⟩
def Ygz (lo : Lo) : FnE := ⟨309, false, ⟨[0, 1], [.l Zc4, .clo 294 []], [], (cs [.l Zc4])⟩, .i .i64, [], (cs [I]), (fun x => q8 lo x : Zt0 -> Option Int)⟩
theorem Yta (lo : Lo) : ∀ x : Zt0, evI (⟨pf, fs8 lo, [Yd6 lo], 0⟩ : Tabs) Ygy ⟨[0, 1], [.l Zc4, .clo 294 []], [], (cs [.l Zc4])⟩ (.i .i64) [] (cs [I]) x = q8 lo x := fun x => by kernel_rfl
theorem Ytb {P : Program} {fm : FM} {lo : Lo} (hlo : LoOK lo) (hS : YwH P fm ⟨pf, fs8 lo, [], 0⟩) (hm : P.follows .mixedOrders = true) (htie : Ti P fm 309 Ygy) : YwH P fm ⟨pf, Ygz lo :: fs8 lo, [], 0⟩ :=
  Ybd hS hm [Yd6 lo] (Ygz lo) rfl Ygy htie (by decide) rfl (Nat.le_of_ble_eq_true (by kernel_rfl)) (fun C hT Fr H0 hf => show LsOK Fr H0 C (⟨pf, fs8 lo, [Yd6 lo], 0⟩ : Tabs) Yma from ⟨tv, ⟨⟨tv, (YwW (by kernel_rfl) (Ys9 hlo C (Yai hT) hf))⟩, ⟨tv, tv⟩⟩⟩) (fun x y h => (Yta lo x).trans h)
def fs9 (lo : Lo) : List FnE := Ygz lo :: fs8 lo
def q9 (lo : Lo) (s0 : List (Int × Int × ByteArray)) : Option Bool :=
  Option.bind (q8 lo s0) fun y25 => some (decide ((0 : Int) <= y25))
def Ymb : VCode :=
 (.seq (.reg [o 4 (.mv (kb false))])
 (.seq (.reg [mV 5 0, mV 6 1, o 7 (.call 309 [(t 5), (t 6)]), o 8 (.bin .geq (t 7) (k 0)), mV 4 8])
 .ret))
def YgA : VFn := ⟨true, 9, [.t 4], Ymb⟩
def YgB (lo : Lo) : FnE := ⟨293, false, ⟨[0, 1], [.l Zc4, .clo 294 []], [], (cs [.l Zc4])⟩, .b, [], (cs [.b]), (fun x => q9 lo x : Zt0 -> Option Bool)⟩
theorem Ytc (lo : Lo) : ∀ x : Zt0, evI (⟨pf, fs9 lo, [], 0⟩ : Tabs) YgA ⟨[0, 1], [.l Zc4, .clo 294 []], [], (cs [.l Zc4])⟩ (.b) [] (cs [.b]) x = q9 lo x := fun x => by kernel_rfl
theorem Ytd {P : Program} {fm : FM} {lo : Lo} (hlo : LoOK lo) (hS : YwH P fm ⟨pf, fs9 lo, [], 0⟩) (hm : P.follows .mixedOrders = true) (htie : Ti P fm 293 YgA) : YwH P fm ⟨pf, YgB lo :: fs9 lo, [], 0⟩ :=
  Ybd hS hm [] (YgB lo) rfl YgA htie (by decide) rfl (Nat.le_of_ble_eq_true (by kernel_rfl)) (fun C hT Fr H0 hf => show LsOK Fr H0 C (⟨pf, fs9 lo, [], 0⟩ : Tabs) Ymb from ⟨tv, ⟨tv, tv⟩⟩) (fun x y h => (Ytc lo x).trans h)
def fs10 (lo : Lo) : List FnE := YgB lo :: fs9 lo
def q10 (lo : Lo) (l0 : List (Int × Int × ByteArray)) : Option Bool :=
  Option.bind (q9 lo l0) fun y26 => some (!y26)
def Ymc : VCode :=
 (.seq (.reg [o 2 (.mv (kb false))])
 (.seq (.reg [mV 3 0, o 4 (.call 293 [(t 3), (.c (.f 294))]), o 5 (.not (t 4)), mV 2 5])
 (.fz [2] .ret)))
def YgC : VFn := ⟨true, 6, [.t 2], Ymc⟩
def YgD (lo : Lo) : FnE := ⟨257, true, ⟨[0], [.l Zc4], [], (cs [.l Zc4])⟩, .b, [], (cs [.b]), (fun x => q10 lo x : Zt0 -> Option Bool)⟩
theorem Yte (lo : Lo) : ∀ x : Zt0, evP (⟨pf, fs10 lo, [], 0⟩ : Tabs) YgC ⟨[0], [.l Zc4], [], (cs [.l Zc4])⟩ (.b) (cs [.b]) x = q10 lo x := fun x => by kernel_rfl
theorem Ytf {P : Program} {fm : FM} {lo : Lo} (hlo : LoOK lo) (hS : YwH P fm ⟨pf, fs10 lo, [], 0⟩) (hm : P.follows .mixedOrders = true) (htie : Ti P fm 257 YgC) : YwH P fm ⟨pf, YgD lo :: fs10 lo, [], 0⟩ :=
  Yak hS hm [] (YgD lo) rfl YgC htie (by decide) rfl (Nat.le_of_ble_eq_true (by kernel_rfl)) (fun C hT => show LK C _ Ymc from ⟨tv, ⟨tv, tv⟩⟩) (fun x y h => (Yte lo x).trans h)
def fs11 (lo : Lo) : List FnE := YgD lo :: fs10 lo
def q11_L20_b : VCode :=
 (.seq (.reg [o 26 (.bin .lss (t 25) (t 24))])
 (.seq (.cond (t 26) .skip
 (.exit 0))
 (.seq (.blk 1 (.seq (.reg [mV 27 25, o 28 (.iad 1 (t 23) (t 25)), lD 29 28, mV 3 27, mV 4 29])
 (.seq (.reg [mV 30 4, o 31 (.call 255 [(t 30)]), o 32 (.not (t 31)), mV 33 32, og 34 33 false (.fad 1 (t 1)), og 35 33 false (.load false 1 (t 34)), og 36 33 false (.mv (t 3)), og 37 33 false (.slcR 1 (t 35) none (some (t 36))), og 38 33 false (.mv (t 4)), og 39 33 false (.call 256 [(t 37), (t 38)]), o 40 (.pick (t 33) (kb true) (t 39))])
 (.cond (t 40) (.seq (.reg [o 2 (.mv (k 1))])
 (.fz [2] .ret))
 .skip))))
 (.reg [o 41 (.bin .add (t 25) (k 1)), mV 25 41]))))
def Ymd : Sg := ⟨[1, 23, 24, 25], [.ptr 0 0 0, .l (cs [.s]), .i .i64, .i .i64], [.st [.s, .l (cs [.s]), .l Zc1]], (cs [.l (cs [.s]), I, I, .s, .l (cs [.s]), .l Zc1])⟩
def Yme : List Out1 := [⟨.ret, ⟨[2], [.i .i64], [], (cs [I])⟩⟩, ⟨.exit 0, ⟨[1], [.ptr 0 0 0], [.st [.s, .l (cs [.s]), .l Zc1]], Zc14⟩⟩]
def Yd7 (lo : Lo) : Zp41 -> Option (Zp41 ⊕ (Int ⊕ (ByteArray × Zt2 × Zt3))) := fun x => match x with
  | (v23, v24, v25, t1_0, t1_1, t1_2) => bif (decide (v25 < v24)) then (chk (0 <= v25 /\ v25 < (v23.length : Int)) (Option.bind (q3 lo (v23.getD v25.toNat (ByteArray.mk #[]))) fun y11 => bif (!y11) then (some (.inr (.inl (1 : Int)))) else (chk (0 <= (0 : Int) /\ (0 : Int) <= v25 /\ v25 <= (t1_1.length : Int)) (Option.bind (q5 lo ((t1_1.take v25.toNat).drop 0) (v23.getD v25.toNat (ByteArray.mk #[]))) fun y16 => bif y16 then (some (.inr (.inl (1 : Int)))) else (some (.inl (v23, v24, (IntKind.wrap .i64 (v25 + (1 : Int))), t1_0, t1_1, t1_2))))))) else (some (.inr (.inr (t1_0, t1_1, t1_2))))
theorem Ytg (lo : Lo) : ∀ x : Zp41, YwY (⟨pf, fs11 lo, [], 0⟩ : Tabs) [] Ymd Yme q11_L20_b x = Yd7 lo x := fun x => by kernel_rfl
def YgE (lo : Lo) : Zp41 -> Option (Int ⊕ (ByteArray × Zt2 × Zt3)) := lo.run (Yd7 lo)
def YcW (lo : Lo) : LpE := ⟨20, [], Ymd, Yme, YgE lo⟩
theorem Yth {lo : Lo} (hlo : LoOK lo) (C : Ctx) (hT : TOK (⟨pf, fs11 lo, [], 0⟩ : Tabs) C) : YwI (fun _ => False) [] 0 C (.loop q11_L20_b.er) (YcW lo) :=
  Yal hT frNo (show LK C _ q11_L20_b from ⟨tv, ⟨⟨tv, tv⟩, ⟨⟨tv, ⟨tv, ⟨⟨tv, tv⟩, tv⟩⟩⟩, tv⟩⟩⟩) (fun x y h => Yam (Ytg lo) (hlo _ _ _ h))
def q11_L3_b : VCode :=
 (.seq (.reg [o 46 (.bin .lss (t 45) (t 44))])
 (.seq (.cond (t 46) .skip
 (.exit 2))
 (.seq (.blk 3 (.seq (.reg [o 47 (.iad 2 (t 43) (t 45)), o 48 (.load true 2 (t 47)), o 7 (.alloc [.i .i64 0, .e Zc4]), on (.store 2 (t 7) (t 48))])
 (.seq (.blk 4 (.seq (.reg [fD 50 0 7, lD 51 50, mV 52 5, o 53 (.bin .leq (t 51) (t 52)), mV 49 53])
 (.cond (t 49) (.seq (.reg [o 2 (.mv (k 1))])
 (.fz [2] .ret))
 (.seq (.reg [fD 55 1 7, lD 56 55, lN 57 56, fD 58 1 1, lD 59 58, lN 60 59, o 61 (.bin .neq (t 57) (t 60)), mV 54 61])
 (.cond (t 54) (.seq (.reg [o 2 (.mv (k 6))])
 (.fz [2] .ret))
 (.seq (.reg [fD 63 1 7, lD 64 63, o 65 (.call 257 [(t 64)]), o 66 (.not (t 65)), mV 62 66])
 (.cond (t 62) (.seq (.reg [o 2 (.mv (k 1))])
 (.fz [2] .ret))
 .skip)))))))
 (.reg [fD 67 0 7, lD 68 67, mV 5 68]))))
 (.reg [o 69 (.bin .add (t 45) (k 1)), mV 45 69]))))
def Ymf : Sg := ⟨[1, 5, 43, 44, 45], [.ptr 0 0 0, .i .i64, .l Zc1, .i .i64, .i .i64], [.st [.s, .l (cs [.s]), .l Zc1]], (cs [I, .l Zc1, I, I, .s, .l (cs [.s]), .l Zc1])⟩
def Ymg : List Out1 := [⟨.ret, ⟨[2], [.i .i64], [], (cs [I])⟩⟩, ⟨.exit 2, ⟨[], [], [], (cs [])⟩⟩]
def Yd8 (lo : Lo) : Zp37 -> Option (Zp37 ⊕ (Int ⊕ Unit)) := fun x => match x with
  | (last5, v43, v44, v45, t1_0, t1_1, t1_2) => bif (decide (v45 < v44)) then (chk (0 <= v45 /\ v45 < (v43.length : Int)) (bif (decide ((v43.getD v45.toNat ((0 : Int), [])).1 <= last5)) then (some (.inr (.inl (1 : Int)))) else (bif (!decide ((((v43.getD v45.toNat ((0 : Int), [])).2).length : Int) = (t1_1.length : Int))) then (some (.inr (.inl (6 : Int)))) else (Option.bind (q10 lo ((v43.getD v45.toNat ((0 : Int), [])).2)) fun y27 => bif (!y27) then (some (.inr (.inl (1 : Int)))) else (some (.inl ((v43.getD v45.toNat ((0 : Int), [])).1, v43, v44, (IntKind.wrap .i64 (v45 + (1 : Int))), t1_0, t1_1, t1_2))))))) else (some (.inr (.inr ())))
theorem Yti (lo : Lo) : ∀ x : Zp37, YwY (⟨pf, fs11 lo, [YcW lo], 0⟩ : Tabs) [] Ymf Ymg q11_L3_b x = Yd8 lo x := fun x => by kernel_rfl
def YgF (lo : Lo) : Zp37 -> Option (Int ⊕ Unit) := lo.run (Yd8 lo)
def YgG (lo : Lo) : LpE := ⟨3, [], Ymf, Ymg, YgF lo⟩
theorem Ytj {lo : Lo} (hlo : LoOK lo) (C : Ctx) (hT : TOK (⟨pf, fs11 lo, [YcW lo], 0⟩ : Tabs) C) : YwI (fun _ => False) [] 0 C (.loop q11_L3_b.er) (YgG lo) :=
  Yal hT frNo (show LK C _ q11_L3_b from ⟨tv, ⟨⟨tv, tv⟩, ⟨⟨tv, ⟨⟨tv, ⟨⟨tv, tv⟩, ⟨tv, ⟨⟨tv, tv⟩, ⟨tv, ⟨⟨tv, tv⟩, tv⟩⟩⟩⟩⟩⟩, tv⟩⟩, tv⟩⟩⟩) (fun x y h => Yam (Yti lo) (hlo _ _ _ h))
def q11 (lo : Lo) (t0_0 : ByteArray) (t0_1 : List ByteArray) (t0_2 : List (Int × Zt0)) : Option Int :=
  Option.bind (q3 lo t0_0) fun y10 => bif (!y10) then (some (1 : Int)) else (bif (decide ((16 : Int) < (t0_1.length : Int))) then (some (3 : Int)) else (bif (decide ((1000 : Int) < (t0_2.length : Int))) then (some (3 : Int)) else (Option.bind (YgE lo (t0_1, (t0_1.length : Int), (0 : Int), t0_0, t0_1, t0_2)) fun y17 => alt2 y17 (fun y18 => some y18) (fun y19 => Option.bind (YgF lo ((0 : Int), y19.2.2, (y19.2.2.length : Int), (0 : Int), y19.1, y19.2.1, y19.2.2)) fun y28 => alt2 y28 (fun y29 => some y29) (fun y30 => some (0 : Int))))))
def Ymh : VCode :=
 (.seq (.reg [o 1 (.box (t 0)), o 2 (.mv (k 0))])
 (.seq (.seq (.reg [fD 8 0 1, lD 9 8, o 10 (.call 255 [(t 9)]), o 11 (.not (t 10))])
 (.cond (t 11) (.seq (.reg [o 2 (.mv (k 1))])
 (.fz [2] .ret))
 .skip))
 (.seq (.seq (.reg [fD 12 1 1, lD 13 12, lN 14 13, o 15 (.bin .gtr (t 14) (k 16)), mV 16 15, og 17 16 false (.fad 2 (t 1)), og 18 16 false (.load false 1 (t 17)), og 19 16 false (.len (t 18)), og 20 16 false (.bin .gtr (t 19) (k 1000)), o 21 (.pick (t 16) (kb true) (t 20))])
 (.cond (t 21) (.seq (.reg [o 2 (.mv (k 3))])
 (.fz [2] .ret))
 .skip))
 (.seq (.seq (.reg [fD 22 1 1, lD 23 22, lN 24 23, o 25 (.mv (k 0))])
 (.blk 0 (.loop 20 q11_L20_b)))
 (.seq (.reg [o 5 (.mv (k 0))])
 (.seq (.seq (.reg [fD 42 2 1, lD 43 42, lN 44 43, o 45 (.mv (k 0))])
 (.blk 2 (.loop 3 q11_L3_b)))
 (.seq (.reg [o 2 (.mv (k 0))])
 (.fz [2] .ret))))))))
def YgH : VFn := ⟨true, 70, [.t 2], Ymh⟩
def YgI (lo : Lo) : FnE := ⟨230, true, ⟨[0], [.ag [.s, .l (cs [.s]), .l Zc1]], [], Zc14⟩, .i .i64, [], (cs [I]), (fun x => q11 lo x.1 x.2.1 x.2.2 : ByteArray × Zt2 × Zt3 -> Option Int)⟩
theorem Ytk (lo : Lo) : ∀ x : ByteArray × Zt2 × Zt3, evP (⟨pf, fs11 lo, [YgG lo, YcW lo], 0⟩ : Tabs) YgH ⟨[0], [.ag [.s, .l (cs [.s]), .l Zc1]], [], Zc14⟩ (.i .i64) (cs [I]) x = q11 lo x.1 x.2.1 x.2.2 := fun x => by kernel_rfl
theorem Ytl {P : Program} {fm : FM} {lo : Lo} (hlo : LoOK lo) (hS : YwH P fm ⟨pf, fs11 lo, [], 0⟩) (hm : P.follows .mixedOrders = true) (htie : Ti P fm 230 YgH) : YwH P fm ⟨pf, YgI lo :: fs11 lo, [], 0⟩ :=
  Yak hS hm [YgG lo, YcW lo] (YgI lo) rfl YgH htie (by decide) rfl (Nat.le_of_ble_eq_true (by kernel_rfl)) (fun C hT => show LK C _ Ymh from ⟨tv, ⟨⟨tv, ⟨⟨tv, tv⟩, tv⟩⟩, ⟨⟨tv, ⟨⟨tv, tv⟩, tv⟩⟩, ⟨⟨tv, (YwW (by kernel_rfl) (Yth hlo C (Yai hT)))⟩, ⟨tv, ⟨⟨tv, (YwW (by kernel_rfl) (Ytj hlo C (Yai hT)))⟩, ⟨tv, tv⟩⟩⟩⟩⟩⟩⟩) (fun x y h => (Ytk lo x).trans h)
def fs12 (lo : Lo) : List FnE := YgI lo :: fs11 lo
def q12_L3_b : VCode :=
 (.seq (.seq (.reg [mV 10 6, o 11 (.bin .geq (t 10) (k 0))])
 (.cond (t 11) .skip
 (.exit 0)))
 (.seq (.blk 1 (.reg [mV 14 0, mV 15 5, mV 16 6, o 17 (.bin .shr (t 15) (t 16)), o 18 (.conv .u8 (t 17)), o 19 (.bsl (cs [.i .u8]) 1 [(0, (t 18))]), o 20 (.appb (t 14) (t 19)), mV 0 20]))
 (.reg [mV 12 6, o 13 (.bin .sub (t 12) (k 8)), mV 6 13])))
def Ymi : Sg := ⟨[0, 5, 6], [.ref 1, .i .u64, .i .i64], [.dd, .sb], (cs [.i .u64, I, .s])⟩
def Ymj : List Out1 := [⟨.exit 0, ⟨[0], [.ref 1], [.dd, .sb], (cs [.s])⟩⟩]
def Yd9 (lo : Lo) : Int × Int × ByteArray -> Option ((Int × Int × ByteArray) ⊕ ByteArray) := fun x => match x with
  | (u5, shift6, out0) => bif (decide ((0 : Int) <= shift6)) then (chk (0 <= shift6) (bif inB ([(IntKind.wrap .u8 (u5.fdiv (2 ^ (min shift6.toNat (IntKind.bits .u64)))))]) then (chk (out0.size + ([(IntKind.wrap .u8 (u5.fdiv (2 ^ (min shift6.toNat (IntKind.bits .u64)))))]).length <= maxEl) (some (.inl (u5, (IntKind.wrap .i64 (shift6 - (8 : Int))), (out0 ++ YwQ ([(IntKind.wrap .u8 (u5.fdiv (2 ^ (min shift6.toNat (IntKind.bits .u64)))))])))))) else none)) else (some (.inr out0))
theorem Ytm (lo : Lo) : ∀ x : Int × Int × ByteArray, YwY (⟨pf, fs12 lo, [], 1⟩ : Tabs) [(0, some 0, false)] Ymi Ymj q12_L3_b x = Yd9 lo x := fun x => by kernel_rfl
def YgJ (lo : Lo) : Int × Int × ByteArray -> Option ByteArray := lo.run (Yd9 lo)
def Yea (lo : Lo) : LpE := ⟨3, [(0, some 0, false)], Ymi, Ymj, YgJ lo⟩
theorem Ytn {lo : Lo} (hlo : LoOK lo) (C : Ctx) (hT : TOK (⟨pf, fs12 lo, [], 1⟩ : Tabs) C) {Fr : Nat -> Prop} {H0 : Heap} (hf : FrOK Fr H0) : YwI Fr H0 1 C (.loop q12_L3_b.er) (Yea lo) :=
  Yal hT hf (show LsOK Fr H0 C (⟨pf, fs12 lo, [], 1⟩ : Tabs) q12_L3_b from ⟨⟨tv, ⟨tv, tv⟩⟩, ⟨tv, tv⟩⟩) (fun x y h => Yam (Ytm lo) (hlo _ _ _ h))
def q12 (lo : Lo) (n1 : Int) (out0 : ByteArray) : Option ByteArray :=
  Option.bind (YgJ lo ((bits .xor .u64 (IntKind.wrap .u64 n1) (9223372036854775808 : Int)), (56 : Int), out0)) fun y35 => some y35
def Ymk : VCode :=
 (.seq (.reg [o 4 (.mv (ke (cs [.i .u8])))])
 (.seq (.reg [mV 7 1, o 8 (.conv .u64 (t 7)), o 9 (.bin .xor (t 8) (ki .u64 9223372036854775808)), mV 5 9])
 (.seq (.seq (.reg [o 6 (.mv (k 56))])
 (.blk 0 (.loop 3 q12_L3_b)))
 (.seq (.reg [mV 21 0, mV 4 21])
 .ret))))
def YgK : VFn := ⟨true, 22, [.t 4], Ymk⟩
def YgL (lo : Lo) : FnE := ⟨310, false, ⟨[0, 1], [.ref 0, .i .i64], [.sb], (cs [I, .s])⟩, .ref 1, [.dd, .sb], (cs [.s]), (fun x => q12 lo x.1 x.2 : Int × ByteArray -> Option ByteArray)⟩
theorem Yto (lo : Lo) : ∀ x : Int × ByteArray, evI (⟨pf, fs12 lo, [Yea lo], 1⟩ : Tabs) YgK ⟨[0, 1], [.ref 0, .i .i64], [.sb], (cs [I, .s])⟩ (.ref 1) [.dd, .sb] (cs [.s]) x = q12 lo x.1 x.2 := fun x => by kernel_rfl
theorem Ytp {P : Program} {fm : FM} {lo : Lo} (hlo : LoOK lo) (hS : YwH P fm ⟨pf, fs12 lo, [], 0⟩) (hm : P.follows .mixedOrders = true) (htie : Ti P fm 310 YgK) : YwH P fm ⟨pf, YgL lo :: fs12 lo, [], 0⟩ :=
  Ybd hS hm [Yea lo] (YgL lo) rfl YgK htie (by decide) rfl (Nat.le_of_ble_eq_true (by kernel_rfl)) (fun C hT Fr H0 hf => show LsOK Fr H0 C (⟨pf, fs12 lo, [Yea lo], 1⟩ : Tabs) Ymk from ⟨tv, ⟨tv, ⟨⟨tv, (YwW (by kernel_rfl) (Ytn hlo C (Yai hT) hf))⟩, ⟨tv, tv⟩⟩⟩⟩) (fun x y h => (Yto lo x).trans h)
def fs13 (lo : Lo) : List FnE := YgL lo :: fs12 lo
def q13_L5_b : VCode :=
 (.seq (.reg [o 28 (.bin .lss (t 27) (t 26))])
 (.seq (.cond (t 28) .skip
 (.exit 1))
 (.seq (.blk 2 (.seq (.reg [mV 29 27, mV 5 29])
 (.seq (.reg [mV 30 4, fD 31 2 1, lD 32 31, mV 33 5, o 34 (.idx (t 32) (t 33)), o 35 (.bsl (cs [.i .u8]) 1 [(0, (t 34))]), o 36 (.appb (t 30) (t 35)), mV 4 36])
 (.seq (.reg [fD 37 2 1, lD 38 37, mV 39 5, o 40 (.idx (t 38) (t 39)), o 41 (.bin .eql (t 40) (ki .u8 0))])
 (.cond (t 41) (.reg [mV 42 4, o 43 (.bsl (cs [.i .u8]) 1 [(0, (ki .u8 255))]), o 44 (.appb (t 42) (t 43)), mV 4 44])
 .skip)))))
 (.reg [o 45 (.bin .add (t 27) (k 1)), mV 27 45]))))
def Yml : Sg := ⟨[1, 4, 26, 27], [.ptr 0 0 0, .ref 1, .i .i64, .i .i64], [.st [.i .i64, .i .i64, .s], .sb], (cs [I, I, I, I, .s, .s])⟩
def Ymm : List Out1 := [⟨.exit 1, ⟨[4], [.ref 0], [.sb], (cs [.s])⟩⟩]
def Yeb (lo : Lo) : Zp38 -> Option (Zp38 ⊕ ByteArray) := fun x => match x with
  | (v26, v27, v1_0, v1_1, v1_2, out4) => bif (decide (v27 < v26)) then (chk (0 <= v27 /\ v27 < (v1_2.size : Int)) (bif inB ([(YwK v1_2 v27)]) then (chk (out4.size + ([(YwK v1_2 v27)]).length <= maxEl) (chk (0 <= v27 /\ v27 < (v1_2.size : Int)) (bif (decide ((YwK v1_2 v27) = (0 : Int))) then (bif inB ([(255 : Int)]) then (chk ((out4 ++ YwQ ([(YwK v1_2 v27)])).size + ([(255 : Int)]).length <= maxEl) (some (.inl (v26, (IntKind.wrap .i64 (v27 + (1 : Int))), v1_0, v1_1, v1_2, ((out4 ++ YwQ ([(YwK v1_2 v27)])) ++ YwQ ([(255 : Int)])))))) else none) else (some (.inl (v26, (IntKind.wrap .i64 (v27 + (1 : Int))), v1_0, v1_1, v1_2, (out4 ++ YwQ ([(YwK v1_2 v27)])))))))) else none)) else (some (.inr out4))
theorem Ytq (lo : Lo) : ∀ x : Zp38, YwY (⟨pf, fs13 lo, [], 0⟩ : Tabs) [] Yml Ymm q13_L5_b x = Yeb lo x := fun x => by kernel_rfl
def YgM (lo : Lo) : Zp38 -> Option ByteArray := lo.run (Yeb lo)
def YcX (lo : Lo) : LpE := ⟨5, [], Yml, Ymm, YgM lo⟩
theorem Ytr {lo : Lo} (hlo : LoOK lo) (C : Ctx) (hT : TOK (⟨pf, fs13 lo, [], 0⟩ : Tabs) C) : YwI (fun _ => False) [] 0 C (.loop q13_L5_b.er) (YcX lo) :=
  Yal hT frNo (show LK C _ q13_L5_b from ⟨tv, ⟨⟨tv, tv⟩, ⟨⟨tv, ⟨tv, ⟨tv, ⟨tv, tv⟩⟩⟩⟩, tv⟩⟩⟩) (fun x y h => Yam (Ytq lo) (hlo _ _ _ h))
def q13_J17_b : VCode :=
 (.cond (t 15) (.reg [mV 18 4, fD 19 1 1, lD 20 19, o 21 (.call 310 [(t 18), (t 20)]), mV 4 21])
 (.seq (.reg [o 23 (.bin .eql (t 14) (k 2)), mV 22 23])
 (.cond (t 22) (.seq (.seq (.reg [fD 24 2 1, lD 25 24, o 26 (.lenS (t 25)), o 27 (.mv (k 0))])
 (.blk 1 (.loop 5 q13_L5_b)))
 (.reg [mV 46 4, o 47 (.bsl (cs [.i .u8]) 2 [(0, (ki .u8 0)), (1, (ki .u8 1))]), o 48 (.appb (t 46) (t 47)), mV 4 48]))
 .skip)))
def Ymn : Sg := ⟨[1, 4, 14, 15], [.ptr 0 0 0, .ref 1, .i .i64, .b], [.st [.i .i64, .i .i64, .s], .sb], (cs [I, .b, I, I, .s, .s])⟩
def Ymo : List Out1 := [⟨.nor, ⟨[4], [.ref 0], [.sb], (cs [.s])⟩⟩]
def Ybr (lo : Lo) : Int × Bool × Int × Int × ByteArray × ByteArray -> Option ByteArray := fun x => match x with
  | (v14, v15, v1_0, v1_1, v1_2, out4) => bif v15 then (Option.bind (q12 lo v1_1 out4) fun y36 => some y36) else (bif (decide (v14 = (2 : Int))) then (Option.bind (YgM lo ((v1_2.size : Int), (0 : Int), v1_0, v1_1, v1_2, out4)) fun y37 => bif inB ([(0 : Int), (1 : Int)]) then (chk (y37.size + ([(0 : Int), (1 : Int)]).length <= maxEl) (some (y37 ++ YwQ ([(0 : Int), (1 : Int)])))) else none) else (some out4))
theorem Yts (lo : Lo) : ∀ x : Int × Bool × Int × Int × ByteArray × ByteArray, stepJ (⟨pf, fs13 lo, [YcX lo], 0⟩ : Tabs) Ymn Ymo q13_J17_b x = Ybr lo x := fun x => by kernel_rfl
def YgN (lo : Lo) : LpE := ⟨17, [], Ymn, Ymo, Ybr lo⟩
theorem Ytt {lo : Lo} (hlo : LoOK lo) (C : Ctx) (hT : TOK (⟨pf, fs13 lo, [YcX lo], 0⟩ : Tabs) C) : YwI (fun _ => False) [] 0 C q13_J17_b.er (YgN lo) :=
  YcR hT frNo (show LK C _ q13_J17_b from ⟨tv, ⟨tv, ⟨⟨⟨tv, (YwW (by kernel_rfl) (Ytr hlo C (Yai hT)))⟩, tv⟩, tv⟩⟩⟩) (fun x y h => (Yts lo x).trans h)
def q13 (lo : Lo) (v0_0 : Int) (v0_1 : Int) (v0_2 : ByteArray) : Option (ByteArray × Int) :=
  Option.bind (q6 lo v0_0 v0_1 v0_2) fun y34 => bif (!y34) then (some ((ByteArray.mk #[]), (1 : Int))) else (bif inB [(IntKind.wrap .u8 v0_0)] then (bif (decide (v0_0 = (1 : Int))) then (Option.bind (Ybr lo (v0_0, true, v0_0, v0_1, v0_2, (YwQ [(IntKind.wrap .u8 v0_0)]))) fun y38 => some (y38, (0 : Int))) else (Option.bind (Ybr lo (v0_0, (decide (v0_0 = (3 : Int))), v0_0, v0_1, v0_2, (YwQ [(IntKind.wrap .u8 v0_0)]))) fun y39 => some (y39, (0 : Int)))) else none)
def Ymp : VCode :=
 (.seq (.reg [o 1 (.box (t 0)), o 2 (.mv (ks (⟨#[]⟩))), o 3 (.mv (k 0))])
 (.seq (.seq (.reg [o 6 (.load true 3 (t 1)), o 7 (.call 283 [(t 6)]), o 8 (.not (t 7))])
 (.cond (t 8) (.seq (.reg [o 2 (.mv (ks (⟨#[]⟩))), o 3 (.mv (k 1))])
 (.fz [2, 3] .ret))
 .skip))
 (.seq (.reg [fD 9 0 1, lD 10 9, o 11 (.conv .u8 (t 10)), o 12 (.litb [(t 11)]), mV 4 12])
 (.seq (.seq (.reg [fD 13 0 1, lD 14 13])
 (.blk 0 (.seq (.seq (.reg [o 16 (.bin .eql (t 14) (k 1)), mV 15 16])
 (.cond (t 15) .skip
 (.reg [o 17 (.bin .eql (t 14) (k 3)), mV 15 17])))
 (.jn 17 q13_J17_b))))
 (.seq (.reg [mV 49 4, o 50 (.bstr (t 49)), mV 2 50, o 3 (.mv (k 0))])
 (.fz [2, 3] .ret))))))
def YgO : VFn := ⟨true, 51, [.t 2, .t 3], Ymp⟩
def YgP (lo : Lo) : FnE := ⟨296, true, ⟨[0], [.ag [.i .i64, .i .i64, .s]], [], Zc4⟩, .tp [.s, .i .i64], [], (cs [.s, I]), (fun x => q13 lo x.1 x.2.1 x.2.2 : Int × Int × ByteArray -> Option (ByteArray × Int))⟩
theorem Ytu (lo : Lo) : ∀ x : Int × Int × ByteArray, evP (⟨pf, fs13 lo, [YgN lo, YcX lo], 0⟩ : Tabs) YgO ⟨[0], [.ag [.i .i64, .i .i64, .s]], [], Zc4⟩ (.tp [.s, .i .i64]) (cs [.s, I]) x = q13 lo x.1 x.2.1 x.2.2 := fun x => by kernel_rfl
theorem Ytv {P : Program} {fm : FM} {lo : Lo} (hlo : LoOK lo) (hS : YwH P fm ⟨pf, fs13 lo, [], 0⟩) (hm : P.follows .mixedOrders = true) (htie : Ti P fm 296 YgO) : YwH P fm ⟨pf, YgP lo :: fs13 lo, [], 0⟩ :=
  Yak hS hm [YgN lo, YcX lo] (YgP lo) rfl YgO htie (by decide) rfl (Nat.le_of_ble_eq_true (by kernel_rfl)) (fun C hT => show LK C _ Ymp from ⟨tv, ⟨⟨tv, ⟨⟨tv, tv⟩, tv⟩⟩, ⟨tv, ⟨⟨tv, ⟨⟨tv, ⟨tv, tv⟩⟩, (YwW (by kernel_rfl) (Ytt hlo C (Yai hT)))⟩⟩, ⟨tv, tv⟩⟩⟩⟩⟩) (fun x y h => (Ytu lo x).trans h)
def fs14 (lo : Lo) : List FnE := YgP lo :: fs13 lo
def q14 (lo : Lo) (s : ByteArray) : Option ByteArray := some s
def Ymq (lo : Lo) : FnE := vchkE2 164
theorem Ytw {P : Program} {fm : FM} {lo : Lo} (hlo : LoOK lo) (hS : YwH P fm ⟨pf, fs14 lo, [], 0⟩) (hm : P.follows .mixedOrders = true) (hG : ∀ f, fm f = 164 -> YwM P f = true /\ ∃ ρ : Go.Shelf.Ren, Go.Proofs.Lays.n240 P ρ /\ BldOK P fm ρ /\ ρ.f 240 = f) : YwH P fm ⟨pf, Ymq lo :: fs14 lo, [], 0⟩ :=
  Ysd hS rfl hG
def fs15 (lo : Lo) : List FnE := Ymq lo :: fs14 lo
end Go.Abs.G03
namespace Go.Abs.G03
open Go Go.Abs
set_option maxRecDepth 100000
set_option maxHeartbeats 1000000
def q15 (lo : Lo) (s1 : ByteArray) (h1 : ByteArray) : Option (Int × ByteArray) :=
  Option.bind (q14 lo h1) fun y41 => chk (y41.size = h1.size) (chk (y41.size + s1.size <= maxEl) (some ((s1.size : Int), (y41 ++ s1))))
def Ymr : VCode :=
 (.seq (.reg [o 4 (.mv (k 0)), o 5 (.mv (.c (.v .nilIface)))])
 (.seq (.reg [mV 6 0, o 7 (.call 164 [(t 6)])])
 (.seq (.reg [mV 8 0, mV 9 0, o 10 (.nilc (t 9)), fD 11 1 10, lD 12 11, mV 13 1, o 14 (.apps (t 12) (t 13)), o 15 (.nilc (t 8)), fD 16 1 15, on (.store 1 (t 16) (t 14))])
 (.seq (.reg [mV 17 1, o 18 (.lenS (t 17)), mV 4 18, o 5 (.mv (.c (.v .nilIface)))])
 .ret))))
def YgQ : VFn := ⟨true, 19, [.t 4, .t 5], Ymr⟩
def YgR (lo : Lo) : FnE := ⟨149, false, ⟨[0, 1], [.ptr 0 0 0, .s], [.st [.np 0, .ref 1], .sb], (cs [.s, .s])⟩, .tp [.i .i64, .u], [.st [.np 0, .ref 2], .dd, .sb], (cs [I, .s]), (fun x => q15 lo x.1 x.2 : ByteArray × ByteArray -> Option (Int × ByteArray))⟩
theorem Ytx (lo : Lo) : ∀ x : ByteArray × ByteArray, evI (⟨pf, fs15 lo, [], 2⟩ : Tabs) YgQ ⟨[0, 1], [.ptr 0 0 0, .s], [.st [.np 0, .ref 1], .sb], (cs [.s, .s])⟩ (.tp [.i .i64, .u]) [.st [.np 0, .ref 2], .dd, .sb] (cs [I, .s]) x = q15 lo x.1 x.2 := fun x => by kernel_rfl
theorem Yty {P : Program} {fm : FM} {lo : Lo} (hlo : LoOK lo) (hS : YwH P fm ⟨pf, fs15 lo, [], 0⟩) (hm : P.follows .mixedOrders = true) (htie : Ti P fm 149 YgQ) : YwH P fm ⟨pf, YgR lo :: fs15 lo, [], 0⟩ :=
  Ybd hS hm [] (YgR lo) rfl YgQ htie (by decide) rfl (Nat.le_of_ble_eq_true (by kernel_rfl)) (fun C hT Fr H0 hf => show LsOK Fr H0 C (⟨pf, fs15 lo, [], 2⟩ : Tabs) Ymr from ⟨tv, ⟨tv, ⟨tv, ⟨tv, tv⟩⟩⟩⟩) (fun x y h => (Ytx lo x).trans h)
def fs16 (lo : Lo) : List FnE := YgR lo :: fs15 lo
def q16 (lo : Lo) (s : ByteArray) : Option ByteArray := some s
def Yms (lo : Lo) : FnE := vstrE 151
theorem Ytz {P : Program} {fm : FM} {lo : Lo} (hlo : LoOK lo) (hS : YwH P fm ⟨pf, fs16 lo, [], 0⟩) (hm : P.follows .mixedOrders = true) (hG : ∀ f, fm f = 151 -> YwM P f = true /\ ∃ ρ : Go.Shelf.Ren, Go.Proofs.Lays.n169 P ρ /\ BldOK P fm ρ /\ fm.bu = ρ.t 5 /\ ρ.f 169 = f) : YwH P fm ⟨pf, Yms lo :: fs16 lo, [], 0⟩ :=
  Ysl hS rfl hG
def fs17 (lo : Lo) : List FnE := Yms lo :: fs16 lo
def q17_L3_b : VCode :=
 (.seq (.reg [o 11 (.bin .lss (t 10) (t 9))])
 (.seq (.cond (t 11) .skip
 (.exit 0))
 (.seq (.blk 1 (.seq (.reg [o 12 (.iad 3 (t 8) (t 10)), o 13 (.load true 3 (t 12)), o 5 (.alloc [.i .i64 0, .i .i64 0, .s (⟨#[]⟩)]), on (.store 3 (t 5) (t 13))])
 (.seq (.reg [o 15 (.load true 3 (t 5)), o 16 (.call 296 [(t 15)]), mV 14 16, eX 17 14 0, eX 18 14 1, mV 6 17, mV 7 18])
 (.reg [mV 19 6, o 20 (.call 149 [(t 3), (t 19)])]))))
 (.reg [o 21 (.bin .add (t 10) (k 1)), mV 10 21]))))
def Ymt : Sg := ⟨[3, 8, 9, 10], [.ptr 0 0 0, .l Zc4, .i .i64, .i .i64], [.st [.np 0, .ref 1], .sb], (cs [.l Zc4, I, I, .s])⟩
def Ymu : List Out1 := [⟨.exit 0, ⟨[3], [.ptr 0 0 0], [.st [.np 0, .ref 1], .sb], (cs [.s])⟩⟩]
def Yec (lo : Lo) : Zt0 × Int × Int × ByteArray -> Option ((Zt0 × Int × Int × ByteArray) ⊕ ByteArray) := fun x => match x with
  | (v8, v9, v10, h1) => bif (decide (v10 < v9)) then (chk (0 <= v10 /\ v10 < (v8.length : Int)) (Option.bind (q13 lo ((v8.getD v10.toNat ((0 : Int), (0 : Int), (ByteArray.mk #[]))).1) ((v8.getD v10.toNat ((0 : Int), (0 : Int), (ByteArray.mk #[]))).2.1) ((v8.getD v10.toNat ((0 : Int), (0 : Int), (ByteArray.mk #[]))).2.2)) fun y40 => Option.bind (q15 lo y40.1 h1) fun y42 => some (.inl (v8, v9, (IntKind.wrap .i64 (v10 + (1 : Int))), y42.2)))) else (some (.inr h1))
theorem YtA (lo : Lo) : ∀ x : Zt0 × Int × Int × ByteArray, YwY (⟨pf, fs17 lo, [], 0⟩ : Tabs) [] Ymt Ymu q17_L3_b x = Yec lo x := fun x => by kernel_rfl
def YgS (lo : Lo) : Zt0 × Int × Int × ByteArray -> Option ByteArray := lo.run (Yec lo)
def YgT (lo : Lo) : LpE := ⟨3, [], Ymt, Ymu, YgS lo⟩
theorem YtB {lo : Lo} (hlo : LoOK lo) (C : Ctx) (hT : TOK (⟨pf, fs17 lo, [], 0⟩ : Tabs) C) : YwI (fun _ => False) [] 0 C (.loop q17_L3_b.er) (YgT lo) :=
  Yal hT frNo (show LK C _ q17_L3_b from ⟨tv, ⟨⟨tv, tv⟩, ⟨⟨tv, ⟨tv, tv⟩⟩, tv⟩⟩⟩) (fun x y h => Yam (YtA lo) (hlo _ _ _ h))
def q17 (lo : Lo) (l0 : List (Int × Int × ByteArray)) : Option ByteArray :=
  Option.bind (YgS lo (l0, (l0.length : Int), (0 : Int), (ByteArray.mk #[]))) fun y43 => Option.bind (q16 lo y43) fun y44 => some y44
def Ymv : VCode :=
 (.seq (.reg [o 2 (.mv (ks (⟨#[]⟩)))])
 (.seq (.reg [o 3 (.bld)])
 (.ow [(3, some 1, false)] (.seq (.seq (.reg [mV 8 0, lN 9 8, o 10 (.mv (k 0))])
 (.blk 0 (.loop 3 q17_L3_b)))
 (.seq (.reg [o 22 (.call 151 [(t 3)]), mV 2 22])
 (.fz [2] .ret))))))
def YgU : VFn := ⟨true, 23, [.t 2], Ymv⟩
def YgV (lo : Lo) : FnE := ⟨261, true, ⟨[0], [.l Zc4], [], (cs [.l Zc4])⟩, .s, [], (cs [.s]), (fun x => q17 lo x : Zt0 -> Option ByteArray)⟩
theorem YtC (lo : Lo) : ∀ x : Zt0, evP (⟨pf, fs17 lo, [YgT lo], 0⟩ : Tabs) YgU ⟨[0], [.l Zc4], [], (cs [.l Zc4])⟩ (.s) (cs [.s]) x = q17 lo x := fun x => by kernel_rfl
theorem YtD {P : Program} {fm : FM} {lo : Lo} (hlo : LoOK lo) (hS : YwH P fm ⟨pf, fs17 lo, [], 0⟩) (hm : P.follows .mixedOrders = true) (htie : Ti P fm 261 YgU) : YwH P fm ⟨pf, YgV lo :: fs17 lo, [], 0⟩ :=
  Yak hS hm [YgT lo] (YgV lo) rfl YgU htie (by decide) rfl (Nat.le_of_ble_eq_true (by kernel_rfl)) (fun C hT => show LK C _ Ymv from ⟨tv, ⟨tv, ⟨⟨tv, (YwW (by kernel_rfl) (YtB hlo C (Yai hT)))⟩, ⟨tv, tv⟩⟩⟩⟩) (fun x y h => (YtC lo x).trans h)
def fs18 (lo : Lo) : List FnE := YgV lo :: fs17 lo
def q18_L23_b : VCode :=
 (.seq (.reg [o 37 (.bin .lss (t 36) (t 35))])
 (.seq (.cond (t 37) .skip
 (.exit 0))
 (.seq (.blk 1 (.seq (.reg [mV 38 36, o 39 (.iad 1 (t 34) (t 36)), lD 40 39, mV 8 38, mV 9 40])
 (.seq (.reg [mV 41 1, mV 42 8, o 43 (.bin .shr (t 41) (t 42)), o 44 (.bin .and (t 43) (ki .u32 1)), o 45 (.bin .eql (t 44) (ki .u32 1))])
 (.cond (t 45) (.reg [fD 46 1 7, lD 47 46, mV 48 9, o 49 (.bsl (cs [.s]) 1 [(0, (t 48))]), o 50 (.app (cs [.s]) 0 (t 47) (t 49)), fD 51 1 7, on (.store 1 (t 51) (t 50))])
 .skip))))
 (.reg [o 52 (.bin .add (t 36) (k 1)), mV 36 52]))))
def Ymw : Sg := ⟨[1, 2, 4, 7, 34, 35, 36], [.i .u32, .ptr 0 0 0, .ptr 1 0 0, .ptr 2 0 0, .l (cs [.s]), .i .i64, .i .i64], [.st [.s, .l (cs [.s]), .l Zc1], .st [.s, .l (cs [.s]), .l Zc1], .st [.s, .ref 3, .ref 4], .sq (cs [.s]), .sq Zc1], (cs [.i .u32, .l (cs [.s]), I, I, .s, .l (cs [.s]), .l Zc1, .s, .l (cs [.s]), .l Zc1, .s, .l (cs [.s]), .l Zc1])⟩
def Ymx : List Out1 := [⟨.exit 0, ⟨[1, 2, 4, 7], [.i .u32, .ptr 0 0 0, .ptr 1 0 0, .ptr 2 0 0], [.st [.s, .l (cs [.s]), .l Zc1], .st [.s, .l (cs [.s]), .l Zc1], .st [.s, .ref 3, .ref 4], .sq (cs [.s]), .sq Zc1], (cs [.i .u32, .s, .l (cs [.s]), .l Zc1, .s, .l (cs [.s]), .l Zc1, .s, .l (cs [.s]), .l Zc1])⟩⟩]
def Yed (lo : Lo) : Zp28 -> Option (Zp28 ⊕ ((Int × ByteArray × Zt2 × Zt3 × ByteArray × Zt2 × Zt3 × ByteArray × Zt2 × Zt3))) := fun x => match x with
  | (s1, v34, v35, v36, t2_0, t2_1, t2_2, v4_0, v4_1, v4_2, out7, h3, h4) => bif (decide (v36 < v35)) then (chk (0 <= v36 /\ v36 < (v34.length : Int)) (chk (0 <= v36) (bif (decide ((bits .and .u32 (s1.fdiv (2 ^ (min v36.toNat (IntKind.bits .u32)))) (1 : Int)) = (1 : Int))) then (chk (h3.length + ([(v34.getD v36.toNat (ByteArray.mk #[]))]).length <= maxEl) (some (.inl (s1, v34, v35, (IntKind.wrap .i64 (v36 + (1 : Int))), t2_0, t2_1, t2_2, v4_0, v4_1, v4_2, out7, (h3 ++ ([(v34.getD v36.toNat (ByteArray.mk #[]))])), h4)))) else (some (.inl (s1, v34, v35, (IntKind.wrap .i64 (v36 + (1 : Int))), t2_0, t2_1, t2_2, v4_0, v4_1, v4_2, out7, h3, h4)))))) else (some (.inr (s1, t2_0, t2_1, t2_2, v4_0, v4_1, v4_2, out7, h3, h4)))
theorem YtE (lo : Lo) : ∀ x : Zp28, YwY (⟨pf, fs18 lo, [], 0⟩ : Tabs) [(7, some 1, false), (7, some 2, false)] Ymw Ymx q18_L23_b x = Yed lo x := fun x => by kernel_rfl
def YgW (lo : Lo) : Zp28 -> Option ((Int × ByteArray × Zt2 × Zt3 × ByteArray × Zt2 × Zt3 × ByteArray × Zt2 × Zt3)) := lo.run (Yed lo)
def YbN (lo : Lo) : LpE := ⟨23, [(7, some 1, false), (7, some 2, false)], Ymw, Ymx, YgW lo⟩
theorem YtF {lo : Lo} (hlo : LoOK lo) (C : Ctx) (hT : TOK (⟨pf, fs18 lo, [], 0⟩ : Tabs) C) : YwI (fun _ => False) [] 0 C (.loop q18_L23_b.er) (YbN lo) :=
  Yal hT frNo (show LK C _ q18_L23_b from ⟨tv, ⟨⟨tv, tv⟩, ⟨⟨tv, ⟨tv, ⟨tv, tv⟩⟩⟩, tv⟩⟩⟩) (fun x y h => Yam (YtE lo) (hlo _ _ _ h))
def q18_L9_b : VCode :=
 (.seq (.reg [o 68 (.bin .lss (t 67) (t 66))])
 (.seq (.cond (t 68) .skip
 (.exit 4))
 (.seq (.blk 5 (.seq (.reg [mV 69 67, o 70 (.iad 3 (t 65) (t 67)), o 71 (.load true 3 (t 70)), o 15 (.alloc [.i .i64 0, .i .i64 0, .s (⟨#[]⟩)]), mV 14 69, on (.store 3 (t 15) (t 71))])
 (.seq (.reg [mV 72 1, mV 73 14, o 74 (.bin .shr (t 72) (t 73)), o 75 (.bin .and (t 74) (ki .u32 1)), o 76 (.bin .eql (t 75) (ki .u32 1))])
 (.cond (t 76) (.reg [fD 77 1 13, lD 78 77, o 79 (.load true 3 (t 15)), o 80 (.bsl Zc4 1 [(0, (t 79))]), o 81 (.app Zc4 0 (t 78) (t 80)), fD 82 1 13, on (.store 1 (t 82) (t 81))])
 .skip))))
 (.reg [o 83 (.bin .add (t 67) (k 1)), mV 67 83]))))
def Ymy : Sg := ⟨[1, 4, 7, 10, 13, 55, 56, 57, 65, 66, 67], [.i .u32, .ptr 0 0 0, .ptr 1 0 0, .np 2, .ptr 3 0 0, .l Zc1, .i .i64, .i .i64, .l Zc4, .i .i64, .i .i64], [.st [.s, .l (cs [.s]), .l Zc1], .st [.s, .ref 4, .ref 5], .st [.i .i64, .l (cs [I, .s, .b]), .b], .st [.i .i64, .ref 6], .sq (cs [.s]), .sq Zc1, .sq Zc4], Zc19⟩
def Ymz : List Out1 := [⟨.exit 4, ⟨[1, 4, 7, 10, 13, 55, 56, 57], [.i .u32, .ptr 0 0 0, .ptr 1 0 0, .np 2, .ptr 3 0 0, .l Zc1, .i .i64, .i .i64], [.st [.s, .l (cs [.s]), .l Zc1], .st [.s, .ref 4, .ref 5], .st [.i .i64, .l (cs [I, .s, .b]), .b], .st [.i .i64, .ref 6], .sq (cs [.s]), .sq Zc1, .sq Zc4], (cs [.i .u32, .l Zc1, I, I, .s, .l (cs [.s]), .l Zc1, .s, I, .l (cs [I, .s, .b]), .b, I, .l (cs [.s]), .l Zc1, .l Zc4])⟩⟩]
def Yee (lo : Lo) : Zp25 -> Option (Zp25 ⊕ ((Int × Zt3 × Int × Int × ByteArray × Zt2 × Zt3 × ByteArray × Int × Zt9 × Bool × Int × Zt2 × Zt3 × Zt0))) := fun x => match x with
  | (s1, v55, v56, v57, v65, v66, v67, v4_0, v4_1, v4_2, out7, h2_0, h2_1, h2_2, p13, h4, h5, h6) => bif (decide (v67 < v66)) then (chk (0 <= v67 /\ v67 < (v65.length : Int)) (chk (0 <= v67) (bif (decide ((bits .and .u32 (s1.fdiv (2 ^ (min v67.toNat (IntKind.bits .u32)))) (1 : Int)) = (1 : Int))) then (chk (h6.length + ([(v65.getD v67.toNat ((0 : Int), (0 : Int), (ByteArray.mk #[])))]).length <= maxEl) (some (.inl (s1, v55, v56, v57, v65, v66, (IntKind.wrap .i64 (v67 + (1 : Int))), v4_0, v4_1, v4_2, out7, h2_0, h2_1, h2_2, p13, h4, h5, (h6 ++ ([(v65.getD v67.toNat ((0 : Int), (0 : Int), (ByteArray.mk #[])))])))))) else (some (.inl (s1, v55, v56, v57, v65, v66, (IntKind.wrap .i64 (v67 + (1 : Int))), v4_0, v4_1, v4_2, out7, h2_0, h2_1, h2_2, p13, h4, h5, h6)))))) else (some (.inr (s1, v55, v56, v57, v4_0, v4_1, v4_2, out7, h2_0, h2_1, h2_2, p13, h4, h5, h6)))
theorem YtG (lo : Lo) : ∀ x : Zp25, YwY (⟨pf, fs18 lo, [YbN lo], 0⟩ : Tabs) [(13, some 1, false)] Ymy Ymz q18_L9_b x = Yee lo x := fun x => by kernel_rfl
def Yef (lo : Lo) : Zp25 -> Option ((Int × Zt3 × Int × Int × ByteArray × Zt2 × Zt3 × ByteArray × Int × Zt9 × Bool × Int × Zt2 × Zt3 × Zt0)) := lo.run (Yee lo)
def YcY (lo : Lo) : LpE := ⟨9, [(13, some 1, false)], Ymy, Ymz, Yef lo⟩
theorem YtH {lo : Lo} (hlo : LoOK lo) (C : Ctx) (hT : TOK (⟨pf, fs18 lo, [YbN lo], 0⟩ : Tabs) C) : YwI (fun _ => False) [] 0 C (.loop q18_L9_b.er) (YcY lo) :=
  Yal hT frNo (show LK C _ q18_L9_b from ⟨tv, ⟨⟨tv, tv⟩, ⟨⟨tv, ⟨tv, ⟨tv, tv⟩⟩⟩, tv⟩⟩⟩) (fun x y h => Yam (YtG lo) (hlo _ _ _ h))
def q18_L3_b : VCode :=
 (.seq (.reg [o 58 (.bin .lss (t 57) (t 56))])
 (.seq (.cond (t 58) .skip
 (.exit 2))
 (.seq (.blk 3 (.seq (.reg [o 59 (.iad 2 (t 55) (t 57)), o 60 (.load true 2 (t 59)), o 12 (.alloc [.i .i64 0, .e Zc4]), on (.store 2 (t 12) (t 60))])
 (.seq (.reg [fD 61 0 12, lD 62 61, o 63 (.build [.i .i64 0, .e Zc4] [(0, 1, (t 62))]), o 13 (.alloc [.i .i64 0, .e Zc4]), on (.store 2 (t 13) (t 63))])
 (.seq (.seq (.reg [fD 64 1 12, lD 65 64, lN 66 65, o 67 (.mv (k 0))])
 (.blk 4 (.loop 9 q18_L9_b)))
 (.seq (.reg [fD 84 1 13, lD 85 84, o 86 (.call 261 [(t 85)]), mV 16 86])
 (.seq (.reg [mV 87 10, mV 88 16, o 89 (.mget none .b (cs []) false false (t 87) (t 88)), o 90 (.not (t 89))])
 (.cond (t 90) (.seq (.reg [mV 91 10, mV 92 16, on (.mput none .b (cs []) false (t 91) (t 92) (kb true))])
 (.fz [85] (.reg [fD 93 2 7, lD 94 93, o 95 (.load true 2 (t 13)), o 96 (.bsl Zc1 1 [(0, (t 95))]), o 97 (.app Zc1 0 (t 94) (t 96)), fD 98 2 7, on (.store 1 (t 98) (t 97))])))
 .skip)))))))
 (.reg [o 99 (.bin .add (t 57) (k 1)), mV 57 99]))))
def YmA : Sg := ⟨[1, 4, 7, 10, 55, 56, 57], [.i .u32, .ptr 0 0 0, .ptr 1 0 0, .np 2, .l Zc1, .i .i64, .i .i64], [.st [.s, .l (cs [.s]), .l Zc1], .st [.s, .ref 3, .ref 4], .st [.i .i64, .l (cs [I, .s, .b]), .b], .sq (cs [.s]), .sq Zc1], (cs [.i .u32, .l Zc1, I, I, .s, .l (cs [.s]), .l Zc1, .s, I, .l (cs [I, .s, .b]), .b, .l (cs [.s]), .l Zc1])⟩
def YmB : List Out1 := [⟨.exit 2, ⟨[4, 7], [.ptr 0 0 0, .ptr 1 0 0], [.st [.s, .l (cs [.s]), .l Zc1], .st [.s, .ref 2, .ref 3], .sq (cs [.s]), .sq Zc1], Zc6⟩⟩]
def Yeg (lo : Lo) : Zp29 -> Option (Zp29 ⊕ (Zp39)) := fun x => match x with
  | (s1, v55, v56, v57, v4_0, v4_1, v4_2, out7, h2_0, h2_1, h2_2, h3, h4) => bif (decide (v57 < v56)) then (chk (0 <= v57 /\ v57 < (v55.length : Int)) (Option.bind (Yef lo (s1, v55, v56, v57, (v55.getD v57.toNat ((0 : Int), [])).2, (((v55.getD v57.toNat ((0 : Int), [])).2).length : Int), (0 : Int), v4_0, v4_1, v4_2, out7, h2_0, h2_1, h2_2, (v55.getD v57.toNat ((0 : Int), [])).1, h3, h4, [])) fun y48 => Option.bind (q17 lo y48.2.2.2.2.2.2.2.2.2.2.2.2.2.2) fun y49 => bif (!(mgt eqS y49 y48.2.2.2.2.2.2.2.2.2.1 false)) then (chk (y48.2.2.2.2.2.2.2.2.2.2.2.2.2.1.length + ([(y48.2.2.2.2.2.2.2.2.2.2.2.1, y48.2.2.2.2.2.2.2.2.2.2.2.2.2.2)]).length <= maxEl) (some (.inl (y48.1, y48.2.1, y48.2.2.1, (IntKind.wrap .i64 (y48.2.2.2.1 + (1 : Int))), y48.2.2.2.2.1, y48.2.2.2.2.2.1, y48.2.2.2.2.2.2.1, y48.2.2.2.2.2.2.2.1, (mck eqS y48.2.2.2.2.2.2.2.2.1 y49 y48.2.2.2.2.2.2.2.2.2.1), (mpt eqS y48.2.2.2.2.2.2.2.2.1 y49 true y48.2.2.2.2.2.2.2.2.2.1), y48.2.2.2.2.2.2.2.2.2.2.1, y48.2.2.2.2.2.2.2.2.2.2.2.2.1, (y48.2.2.2.2.2.2.2.2.2.2.2.2.2.1 ++ ([(y48.2.2.2.2.2.2.2.2.2.2.2.1, y48.2.2.2.2.2.2.2.2.2.2.2.2.2.2)])))))) else (some (.inl (y48.1, y48.2.1, y48.2.2.1, (IntKind.wrap .i64 (y48.2.2.2.1 + (1 : Int))), y48.2.2.2.2.1, y48.2.2.2.2.2.1, y48.2.2.2.2.2.2.1, y48.2.2.2.2.2.2.2.1, y48.2.2.2.2.2.2.2.2.1, y48.2.2.2.2.2.2.2.2.2.1, y48.2.2.2.2.2.2.2.2.2.2.1, y48.2.2.2.2.2.2.2.2.2.2.2.2.1, y48.2.2.2.2.2.2.2.2.2.2.2.2.2.1))))) else (some (.inr (v4_0, v4_1, v4_2, out7, h3, h4)))
theorem YtI (lo : Lo) : ∀ x : Zp29, YwY (⟨pf, fs18 lo, [YcY lo, YbN lo], 0⟩ : Tabs) [] YmA YmB q18_L3_b x = Yeg lo x := fun x => by kernel_rfl
def YgX (lo : Lo) : Zp29 -> Option (Zp39) := lo.run (Yeg lo)
def YgY (lo : Lo) : LpE := ⟨3, [], YmA, YmB, YgX lo⟩
theorem YtJ {lo : Lo} (hlo : LoOK lo) (C : Ctx) (hT : TOK (⟨pf, fs18 lo, [YcY lo, YbN lo], 0⟩ : Tabs) C) : YwI (fun _ => False) [] 0 C (.loop q18_L3_b.er) (YgY lo) :=
  Yal hT frNo (show LK C _ q18_L3_b from ⟨tv, ⟨⟨tv, tv⟩, ⟨⟨tv, ⟨tv, ⟨⟨tv, (YwW (by kernel_rfl) (YtH hlo C (Yai hT)))⟩, ⟨tv, ⟨tv, ⟨⟨tv, tv⟩, tv⟩⟩⟩⟩⟩⟩, tv⟩⟩⟩) (fun x y h => Yam (YtI lo) (hlo _ _ _ h))
def q18 (lo : Lo) (t0_0 : ByteArray) (t0_1 : List ByteArray) (t0_2 : List (Int × Zt0)) (s1 : Int) : Option (ByteArray × Zt2 × Zt3 × Int) :=
  Option.bind (q11 lo t0_0 t0_1 t0_2) fun y46 => bif (!decide (y46 = (0 : Int))) then (some ((ByteArray.mk #[]), ([] : List ByteArray), ([] : List (Int × Zt0)), y46)) else (chk (0 <= (t0_1.length : Int)) (bif (!decide ((s1.fdiv (2 ^ (min (t0_1.length : Int).toNat (IntKind.bits .u32)))) = (0 : Int))) then (some ((ByteArray.mk #[]), ([] : List ByteArray), ([] : List (Int × Zt0)), (6 : Int))) else (Option.bind (YgW lo (s1, t0_1, (t0_1.length : Int), (0 : Int), t0_0, t0_1, t0_2, (ByteArray.mk #[]), ([] : List ByteArray), ([] : List (Int × Zt0)), t0_0, [], [])) fun y47 => Option.bind (YgX lo (y47.1, y47.2.2.2.1, (y47.2.2.2.1.length : Int), (0 : Int), y47.2.2.2.2.1, y47.2.2.2.2.2.1, y47.2.2.2.2.2.2.1, y47.2.2.2.2.2.2.2.1, (0 : Int), ([] : List (Int × ByteArray × Bool)), false, y47.2.2.2.2.2.2.2.2.1, y47.2.2.2.2.2.2.2.2.2)) fun y50 => some (y50.2.2.2.1, y50.2.2.2.2.1, y50.2.2.2.2.2, (0 : Int)))))
def YmC : VCode :=
 (.seq (.reg [o 2 (.box (t 0)), o 4 (.alloc [.s (⟨#[]⟩), .e (cs [.s]), .e Zc1]), o 5 (.mv (k 0))])
 (.seq (.seq (.reg [o 17 (.load true 3 (t 2)), o 18 (.call 230 [(t 17)]), mV 6 18])
 (.seq (.reg [mV 19 6, o 20 (.bin .neq (t 19) (k 0))])
 (.cond (t 20) (.seq (.reg [o 21 (.build [.s (⟨#[]⟩), .e (cs [.s]), .e Zc1] []), mV 22 6, on (.store 3 (t 4) (t 21)), mV 5 22])
 (.fz [4, 5] .ret))
 .skip)))
 (.seq (.seq (.reg [mV 23 1, fD 24 1 2, lD 25 24, lN 26 25, o 27 (.bin .shr (t 23) (t 26)), o 28 (.bin .neq (t 27) (ki .u32 0))])
 (.cond (t 28) (.seq (.reg [o 29 (.build [.s (⟨#[]⟩), .e (cs [.s]), .e Zc1] []), on (.store 3 (t 4) (t 29)), o 5 (.mv (k 6))])
 (.fz [4, 5] .ret))
 .skip))
 (.seq (.reg [fD 30 0 2, lD 31 30, o 32 (.build [.s (⟨#[]⟩), .e (cs [.s]), .e Zc1] [(0, 1, (t 31))]), o 7 (.alloc [.s (⟨#[]⟩), .e (cs [.s]), .e Zc1]), on (.store 3 (t 7) (t 32))])
 (.seq (.seq (.reg [fD 33 1 2, lD 34 33, lN 35 34, o 36 (.mv (k 0))])
 (.blk 0 (.loop 23 q18_L23_b)))
 (.seq (.reg [o 53 (.mkm none .b (cs []) false), mV 10 53])
 (.seq (.seq (.reg [fD 54 2 2, lD 55 54, lN 56 55, o 57 (.mv (k 0))])
 (.blk 2 (.loop 3 q18_L3_b)))
 (.seq (.reg [o 100 (.load true 3 (t 7)), on (.store 3 (t 4) (t 100)), o 5 (.mv (k 0))])
 (.fz [4, 5] .ret)))))))))
def YgZ : VFn := ⟨true, 101, [.c 4 true 3, .t 5], YmC⟩
def Yg0 (lo : Lo) : FnE := ⟨233, true, ⟨[0, 1], [.ag [.s, .l (cs [.s]), .l Zc1], .i .u32], [], (cs [.s, .l (cs [.s]), .l Zc1, .i .u32])⟩, .tp [.ag [.s, .l (cs [.s]), .l Zc1], .i .i64], [], Zc21, (fun x => q18 lo x.1 x.2.1 x.2.2.1 x.2.2.2 : ByteArray × Zt2 × Zt3 × Int -> Option (ByteArray × Zt2 × Zt3 × Int))⟩
theorem YtK (lo : Lo) : ∀ x : ByteArray × Zt2 × Zt3 × Int, evP (⟨pf, fs18 lo, [YgY lo, YcY lo, YbN lo], 0⟩ : Tabs) YgZ ⟨[0, 1], [.ag [.s, .l (cs [.s]), .l Zc1], .i .u32], [], (cs [.s, .l (cs [.s]), .l Zc1, .i .u32])⟩ (.tp [.ag [.s, .l (cs [.s]), .l Zc1], .i .i64]) Zc21 x = q18 lo x.1 x.2.1 x.2.2.1 x.2.2.2 := fun x => by kernel_rfl
theorem YtL {P : Program} {fm : FM} {lo : Lo} (hlo : LoOK lo) (hS : YwH P fm ⟨pf, fs18 lo, [], 0⟩) (hm : P.follows .mixedOrders = true) (htie : Ti P fm 233 YgZ) : YwH P fm ⟨pf, Yg0 lo :: fs18 lo, [], 0⟩ :=
  Yak hS hm [YgY lo, YcY lo, YbN lo] (Yg0 lo) rfl YgZ htie (by decide) rfl (Nat.le_of_ble_eq_true (by kernel_rfl)) (fun C hT => show LK C _ YmC from ⟨tv, ⟨⟨tv, ⟨tv, ⟨⟨tv, tv⟩, tv⟩⟩⟩, ⟨⟨tv, ⟨⟨tv, tv⟩, tv⟩⟩, ⟨tv, ⟨⟨tv, (YwW (by kernel_rfl) (YtF hlo C (Yai hT)))⟩, ⟨tv, ⟨⟨tv, (YwW (by kernel_rfl) (YtJ hlo C (Yai hT)))⟩, ⟨tv, tv⟩⟩⟩⟩⟩⟩⟩⟩) (fun x y h => (YtK lo x).trans h)
def fs19 (lo : Lo) : List FnE := Yg0 lo :: fs18 lo
def q19 (lo : Lo) (l : List ByteArray) : Option Zt2 := bif Nat.ble l.length maxEl && Nat.ble 1 1 then some l else none
def YmD (lo : Lo) : FnE := vcloneE 269 (cs [.s])
theorem YtM {P : Program} {fm : FM} {lo : Lo} (hlo : LoOK lo) (hS : YwH P fm ⟨pf, fs19 lo, [], 0⟩) (hm : P.follows .mixedOrders = true) (htie : ∀ f, fm f = 269 -> fnTr P fm pf f = some (8, [.t 2], Yxp 1 [(.string (⟨#[]⟩))])) : YwH P fm ⟨pf, YmD lo :: fs19 lo, [], 0⟩ :=
  Yr9 hS hm (cs [.s]) rfl [(.string (⟨#[]⟩))] 8 (by decide) htie
def fs20 (lo : Lo) : List FnE := YmD lo :: fs19 lo
def q20_L3_b : VCode :=
 (.seq (.reg [o 21 (.bin .lss (t 20) (t 19))])
 (.seq (.cond (t 21) .skip
 (.exit 0))
 (.seq (.blk 1 (.seq (.reg [mV 22 20, o 23 (.iad 1 (t 18) (t 20)), lD 24 23, mV 11 22, mV 12 24])
 (.seq (.seq (.reg [mV 25 12, mV 26 0, lN 27 26, o 28 (.bin .lss (t 25) (t 27)), mV 29 28, og 30 29 true (.mv (t 0)), og 31 29 true (.mv (t 12)), og 32 29 true (.iad 3 (t 30) (t 31)), og 33 29 true (.load true 3 (t 32)), og 34 29 true (.mv (t 1)), og 35 29 true (.mv (t 11)), og 36 29 true (.iad 3 (t 34) (t 35)), og 37 29 true (.load true 3 (t 36)), og 38 29 true (.eqa true [1, 1, 2] (t 33) (t 37)), o 39 (.pick (t 29) (t 38) (kb false))])
 (.cond (t 39) (.seq (.reg [o 8 (.mv (ke Zc4)), o 9 (.mv (kb false))])
 (.fz [8, 9] .ret))
 .skip))
 (.reg [mV 40 10, mV 41 12, mV 42 1, mV 43 11, o 44 (.iad 3 (t 42) (t 43)), o 45 (.load true 3 (t 44)), o 46 (.iad 3 (t 40) (t 41)), on (.store 3 (t 46) (t 45))]))))
 (.reg [o 47 (.bin .add (t 20) (k 1)), mV 20 47]))))
def YmE : Sg := ⟨[0, 1, 10, 18, 19, 20], [.l Zc4, .l Zc4, .ref 0, .l (cs [I]), .i .i64, .i .i64], [.sq Zc4], (cs [.l Zc4, .l Zc4, .l (cs [I]), I, I, .l Zc4])⟩
def YmF : List Out1 := [⟨.ret, ⟨[8, 9], [.l Zc4, .b], [], (cs [.l Zc4, .b])⟩⟩, ⟨.exit 0, ⟨[10], [.ref 0], [.sq Zc4], (cs [.l Zc4])⟩⟩]
def Yeh (lo : Lo) : Zp40 -> Option (Zp40 ⊕ ((Zt0 × Bool) ⊕ (Zt0))) := fun x => match x with
  | (a0, b1, v18, v19, v20, out10) => bif (decide (v20 < v19)) then (chk (0 <= v20 /\ v20 < (v18.length : Int)) (bif (decide ((v18.getD v20.toNat (0 : Int)) < (a0.length : Int))) then (chk (0 <= (v18.getD v20.toNat (0 : Int)) /\ (v18.getD v20.toNat (0 : Int)) < (a0.length : Int)) (chk (0 <= v20 /\ v20 < (b1.length : Int)) (bif (!((decide ((a0.getD ((v18.getD v20.toNat (0 : Int)).toNat) ((0 : Int), (0 : Int), (ByteArray.mk #[]))).1 = (b1.getD v20.toNat ((0 : Int), (0 : Int), (ByteArray.mk #[]))).1)) && ((decide ((a0.getD ((v18.getD v20.toNat (0 : Int)).toNat) ((0 : Int), (0 : Int), (ByteArray.mk #[]))).2.1 = (b1.getD v20.toNat ((0 : Int), (0 : Int), (ByteArray.mk #[]))).2.1)) && ((decide ((a0.getD ((v18.getD v20.toNat (0 : Int)).toNat) ((0 : Int), (0 : Int), (ByteArray.mk #[]))).2.2 = (b1.getD v20.toNat ((0 : Int), (0 : Int), (ByteArray.mk #[]))).2.2)) && true)))) then (some (.inr (.inl (([] : List (Int × Int × ByteArray)), false)))) else (chk (0 <= v20 /\ v20 < (b1.length : Int)) (chk (0 <= (v18.getD v20.toNat (0 : Int)) /\ (v18.getD v20.toNat (0 : Int)) < (out10.length : Int)) (some (.inl (a0, b1, v18, v19, (IntKind.wrap .i64 (v20 + (1 : Int))), (out10.set ((v18.getD v20.toNat (0 : Int)).toNat) (b1.getD v20.toNat ((0 : Int), (0 : Int), (ByteArray.mk #[])))))))))))) else (chk (0 <= v20 /\ v20 < (b1.length : Int)) (chk (0 <= (v18.getD v20.toNat (0 : Int)) /\ (v18.getD v20.toNat (0 : Int)) < (out10.length : Int)) (some (.inl (a0, b1, v18, v19, (IntKind.wrap .i64 (v20 + (1 : Int))), (out10.set ((v18.getD v20.toNat (0 : Int)).toNat) (b1.getD v20.toNat ((0 : Int), (0 : Int), (ByteArray.mk #[]))))))))))) else (some (.inr (.inr out10)))
theorem YtN (lo : Lo) : ∀ x : Zp40, YwY (⟨pf, fs20 lo, [], 0⟩ : Tabs) [] YmE YmF q20_L3_b x = Yeh lo x := fun x => by kernel_rfl
def Yei (lo : Lo) : Zp40 -> Option ((Zt0 × Bool) ⊕ (Zt0)) := lo.run (Yeh lo)
def Yg1 (lo : Lo) : LpE := ⟨3, [], YmE, YmF, Yei lo⟩
theorem YtO {lo : Lo} (hlo : LoOK lo) (C : Ctx) (hT : TOK (⟨pf, fs20 lo, [], 0⟩ : Tabs) C) : YwI (fun _ => False) [] 0 C (.loop q20_L3_b.er) (Yg1 lo) :=
  Yal hT frNo (show LK C _ q20_L3_b from ⟨tv, ⟨⟨tv, tv⟩, ⟨⟨tv, ⟨⟨tv, ⟨⟨tv, tv⟩, tv⟩⟩, tv⟩⟩, tv⟩⟩⟩) (fun x y h => Yam (YtN lo) (hlo _ _ _ h))
def q20 (lo : Lo) (a0 : List (Int × Int × ByteArray)) (b1 : List (Int × Int × ByteArray)) (place2 : List Int) (n3 : Int) : Option (Zt0 × Bool) :=
  chk (0 <= n3 /\ n3 <= n3 /\ n3 <= (maxEl : Nat)) (Option.bind (Yei lo (a0, b1, place2, (place2.length : Int), (0 : Int), (a0.take (min a0.length (List.replicate n3.toNat ((0 : Int), (0 : Int), (ByteArray.mk #[]))).length) ++ (List.replicate n3.toNat ((0 : Int), (0 : Int), (ByteArray.mk #[]))).drop (min a0.length (List.replicate n3.toNat ((0 : Int), (0 : Int), (ByteArray.mk #[]))).length)))) fun y58 => alt2 y58 (fun y59 => some (y59.1, y59.2)) (fun y60 => some (y60, true)))
def YmG : VCode :=
 (.seq (.reg [o 8 (.mv (ke Zc4)), o 9 (.mv (kb false))])
 (.seq (.reg [mV 13 3, o 14 (.mksl Zc4 0 (t 13) (t 13)), mV 10 14])
 (.seq (.reg [mV 15 10, mV 16 0, o 17 (.cpy Zc4 (t 15) (t 16))])
 (.seq (.seq (.reg [mV 18 2, lN 19 18, o 20 (.mv (k 0))])
 (.blk 0 (.loop 3 q20_L3_b)))
 (.seq (.reg [mV 48 10, mV 8 48, o 9 (.mv (kb true))])
 (.fz [8, 9] .ret))))))
def Yg2 : VFn := ⟨true, 49, [.t 8, .t 9], YmG⟩
def Yg3 (lo : Lo) : FnE := ⟨270, true, ⟨[0, 1, 2, 3], [.l Zc4, .l Zc4, .l (cs [I]), .i .i64], [], (cs [.l Zc4, .l Zc4, .l (cs [I]), I])⟩, .tp [.l Zc4, .b], [], (cs [.l Zc4, .b]), (fun x => q20 lo x.1 x.2.1 x.2.2.1 x.2.2.2 : Zt0 × Zt0 × (List Int) × Int -> Option (Zt0 × Bool))⟩
theorem YtP (lo : Lo) : ∀ x : Zt0 × Zt0 × (List Int) × Int, evP (⟨pf, fs20 lo, [Yg1 lo], 0⟩ : Tabs) Yg2 ⟨[0, 1, 2, 3], [.l Zc4, .l Zc4, .l (cs [I]), .i .i64], [], (cs [.l Zc4, .l Zc4, .l (cs [I]), I])⟩ (.tp [.l Zc4, .b]) (cs [.l Zc4, .b]) x = q20 lo x.1 x.2.1 x.2.2.1 x.2.2.2 := fun x => by kernel_rfl
theorem YtQ {P : Program} {fm : FM} {lo : Lo} (hlo : LoOK lo) (hS : YwH P fm ⟨pf, fs20 lo, [], 0⟩) (hm : P.follows .mixedOrders = true) (htie : Ti P fm 270 Yg2) : YwH P fm ⟨pf, Yg3 lo :: fs20 lo, [], 0⟩ :=
  Yak hS hm [Yg1 lo] (Yg3 lo) rfl Yg2 htie (by decide) rfl (Nat.le_of_ble_eq_true (by kernel_rfl)) (fun C hT => show LK C _ YmG from ⟨tv, ⟨tv, ⟨tv, ⟨⟨tv, (YwW (by kernel_rfl) (YtO hlo C (Yai hT)))⟩, ⟨tv, tv⟩⟩⟩⟩⟩) (fun x y h => (YtP lo x).trans h)
def fs21 (lo : Lo) : List FnE := Yg3 lo :: fs20 lo
def q21_J9_b : VCode :=
 (.seq (.seq (.reg [mV 13 0, o 14 (.bin .geq (t 13) (ki .u64 256))])
 (.cond (t 14) (.seq (.reg [mV 15 0, o 16 (.bin .shr (t 15) (ki .u64 8)), mV 0 16])
 (.reg [mV 17 2, o 18 (.bin .add (t 17) (k 8)), mV 2 18]))
 .skip))
 (.seq (.reg [mV 19 2, mV 20 0, o 21 (.conv .u8 (t 20)), o 22 (.idx (ks (⟨#[0, 1, 2, 2, 3, 3, 3, 3, 4, 4, 4, 4, 4, 4, 4, 4, 5, 5, 5, 5, 5, 5, 5, 5, 5, 5, 5, 5, 5, 5, 5, 5, 6, 6, 6, 6, 6, 6, 6, 6, 6, 6, 6, 6, 6, 6, 6, 6, 6, 6, 6, 6, 6, 6, 6, 6, 6, 6, 6, 6, 6, 6, 6, 6, 7, 7, 7, 7, 7, 7, 7, 7, 7, 7, 7, 7, 7, 7, 7, 7, 7, 7, 7, 7, 7, 7, 7, 7, 7, 7, 7, 7, 7, 7, 7, 7, 7, 7, 7, 7, 7, 7, 7, 7, 7, 7, 7, 7, 7, 7, 7, 7, 7, 7, 7, 7, 7, 7, 7, 7, 7, 7, 7, 7, 7, 7, 7, 7, 8, 8, 8, 8, 8, 8, 8, 8, 8, 8, 8, 8, 8, 8, 8, 8, 8, 8, 8, 8, 8, 8, 8, 8, 8, 8, 8, 8, 8, 8, 8, 8, 8, 8, 8, 8, 8, 8, 8, 8, 8, 8, 8, 8, 8, 8, 8, 8, 8, 8, 8, 8, 8, 8, 8, 8, 8, 8, 8, 8, 8, 8, 8, 8, 8, 8, 8, 8, 8, 8, 8, 8, 8, 8, 8, 8, 8, 8, 8, 8, 8, 8, 8, 8, 8, 8, 8, 8, 8, 8, 8, 8, 8, 8, 8, 8, 8, 8, 8, 8, 8, 8, 8, 8, 8, 8, 8, 8, 8, 8, 8, 8, 8, 8, 8, 8, 8, 8, 8, 8, 8, 8, 8, 8, 8, 8, 8, 8]⟩)) (t 21)), o 23 (.conv .i64 (t 22)), o 24 (.bin .add (t 19) (t 23)), mV 2 24])
 (.fz [2] .ret)))
def YmH : Sg := ⟨[0, 2], [.i .u64, .i .i64], [], (cs [.i .u64, I])⟩
def YmI : List Out1 := [⟨.ret, ⟨[2], [.i .i64], [], (cs [I])⟩⟩]
def Yb7 (lo : Lo) : Int × Int -> Option Int := fun x => match x with
  | (x0, n2) => bif (decide ((256 : Int) <= x0)) then (chk (0 <= (8 : Int)) (chk (0 <= (IntKind.wrap .u8 (x0.fdiv (2 ^ (min (8 : Int).toNat (IntKind.bits .u64))))) /\ (IntKind.wrap .u8 (x0.fdiv (2 ^ (min (8 : Int).toNat (IntKind.bits .u64))))) < ((ByteArray.mk #[0, 1, 2, 2, 3, 3, 3, 3, 4, 4, 4, 4, 4, 4, 4, 4, 5, 5, 5, 5, 5, 5, 5, 5, 5, 5, 5, 5, 5, 5, 5, 5, 6, 6, 6, 6, 6, 6, 6, 6, 6, 6, 6, 6, 6, 6, 6, 6, 6, 6, 6, 6, 6, 6, 6, 6, 6, 6, 6, 6, 6, 6, 6, 6, 7, 7, 7, 7, 7, 7, 7, 7, 7, 7, 7, 7, 7, 7, 7, 7, 7, 7, 7, 7, 7, 7, 7, 7, 7, 7, 7, 7, 7, 7, 7, 7, 7, 7, 7, 7, 7, 7, 7, 7, 7, 7, 7, 7, 7, 7, 7, 7, 7, 7, 7, 7, 7, 7, 7, 7, 7, 7, 7, 7, 7, 7, 7, 7, 8, 8, 8, 8, 8, 8, 8, 8, 8, 8, 8, 8, 8, 8, 8, 8, 8, 8, 8, 8, 8, 8, 8, 8, 8, 8, 8, 8, 8, 8, 8, 8, 8, 8, 8, 8, 8, 8, 8, 8, 8, 8, 8, 8, 8, 8, 8, 8, 8, 8, 8, 8, 8, 8, 8, 8, 8, 8, 8, 8, 8, 8, 8, 8, 8, 8, 8, 8, 8, 8, 8, 8, 8, 8, 8, 8, 8, 8, 8, 8, 8, 8, 8, 8, 8, 8, 8, 8, 8, 8, 8, 8, 8, 8, 8, 8, 8, 8, 8, 8, 8, 8, 8, 8, 8, 8, 8, 8, 8, 8, 8, 8, 8, 8, 8, 8, 8, 8, 8, 8, 8, 8, 8, 8, 8, 8, 8, 8]).size : Int)) (some (IntKind.wrap .i64 ((IntKind.wrap .i64 (n2 + (8 : Int))) + (IntKind.wrap .i64 (YwK (ByteArray.mk #[0, 1, 2, 2, 3, 3, 3, 3, 4, 4, 4, 4, 4, 4, 4, 4, 5, 5, 5, 5, 5, 5, 5, 5, 5, 5, 5, 5, 5, 5, 5, 5, 6, 6, 6, 6, 6, 6, 6, 6, 6, 6, 6, 6, 6, 6, 6, 6, 6, 6, 6, 6, 6, 6, 6, 6, 6, 6, 6, 6, 6, 6, 6, 6, 7, 7, 7, 7, 7, 7, 7, 7, 7, 7, 7, 7, 7, 7, 7, 7, 7, 7, 7, 7, 7, 7, 7, 7, 7, 7, 7, 7, 7, 7, 7, 7, 7, 7, 7, 7, 7, 7, 7, 7, 7, 7, 7, 7, 7, 7, 7, 7, 7, 7, 7, 7, 7, 7, 7, 7, 7, 7, 7, 7, 7, 7, 7, 7, 8, 8, 8, 8, 8, 8, 8, 8, 8, 8, 8, 8, 8, 8, 8, 8, 8, 8, 8, 8, 8, 8, 8, 8, 8, 8, 8, 8, 8, 8, 8, 8, 8, 8, 8, 8, 8, 8, 8, 8, 8, 8, 8, 8, 8, 8, 8, 8, 8, 8, 8, 8, 8, 8, 8, 8, 8, 8, 8, 8, 8, 8, 8, 8, 8, 8, 8, 8, 8, 8, 8, 8, 8, 8, 8, 8, 8, 8, 8, 8, 8, 8, 8, 8, 8, 8, 8, 8, 8, 8, 8, 8, 8, 8, 8, 8, 8, 8, 8, 8, 8, 8, 8, 8, 8, 8, 8, 8, 8, 8, 8, 8, 8, 8, 8, 8, 8, 8, 8, 8, 8, 8, 8, 8, 8, 8, 8, 8]) (IntKind.wrap .u8 (x0.fdiv (2 ^ (min (8 : Int).toNat (IntKind.bits .u64)))))))))))) else (chk (0 <= (IntKind.wrap .u8 x0) /\ (IntKind.wrap .u8 x0) < ((ByteArray.mk #[0, 1, 2, 2, 3, 3, 3, 3, 4, 4, 4, 4, 4, 4, 4, 4, 5, 5, 5, 5, 5, 5, 5, 5, 5, 5, 5, 5, 5, 5, 5, 5, 6, 6, 6, 6, 6, 6, 6, 6, 6, 6, 6, 6, 6, 6, 6, 6, 6, 6, 6, 6, 6, 6, 6, 6, 6, 6, 6, 6, 6, 6, 6, 6, 7, 7, 7, 7, 7, 7, 7, 7, 7, 7, 7, 7, 7, 7, 7, 7, 7, 7, 7, 7, 7, 7, 7, 7, 7, 7, 7, 7, 7, 7, 7, 7, 7, 7, 7, 7, 7, 7, 7, 7, 7, 7, 7, 7, 7, 7, 7, 7, 7, 7, 7, 7, 7, 7, 7, 7, 7, 7, 7, 7, 7, 7, 7, 7, 8, 8, 8, 8, 8, 8, 8, 8, 8, 8, 8, 8, 8, 8, 8, 8, 8, 8, 8, 8, 8, 8, 8, 8, 8, 8, 8, 8, 8, 8, 8, 8, 8, 8, 8, 8, 8, 8, 8, 8, 8, 8, 8, 8, 8, 8, 8, 8, 8, 8, 8, 8, 8, 8, 8, 8, 8, 8, 8, 8, 8, 8, 8, 8, 8, 8, 8, 8, 8, 8, 8, 8, 8, 8, 8, 8, 8, 8, 8, 8, 8, 8, 8, 8, 8, 8, 8, 8, 8, 8, 8, 8, 8, 8, 8, 8, 8, 8, 8, 8, 8, 8, 8, 8, 8, 8, 8, 8, 8, 8, 8, 8, 8, 8, 8, 8, 8, 8, 8, 8, 8, 8, 8, 8, 8, 8, 8, 8]).size : Int)) (some (IntKind.wrap .i64 (n2 + (IntKind.wrap .i64 (YwK (ByteArray.mk #[0, 1, 2, 2, 3, 3, 3, 3, 4, 4, 4, 4, 4, 4, 4, 4, 5, 5, 5, 5, 5, 5, 5, 5, 5, 5, 5, 5, 5, 5, 5, 5, 6, 6, 6, 6, 6, 6, 6, 6, 6, 6, 6, 6, 6, 6, 6, 6, 6, 6, 6, 6, 6, 6, 6, 6, 6, 6, 6, 6, 6, 6, 6, 6, 7, 7, 7, 7, 7, 7, 7, 7, 7, 7, 7, 7, 7, 7, 7, 7, 7, 7, 7, 7, 7, 7, 7, 7, 7, 7, 7, 7, 7, 7, 7, 7, 7, 7, 7, 7, 7, 7, 7, 7, 7, 7, 7, 7, 7, 7, 7, 7, 7, 7, 7, 7, 7, 7, 7, 7, 7, 7, 7, 7, 7, 7, 7, 7, 8, 8, 8, 8, 8, 8, 8, 8, 8, 8, 8, 8, 8, 8, 8, 8, 8, 8, 8, 8, 8, 8, 8, 8, 8, 8, 8, 8, 8, 8, 8, 8, 8, 8, 8, 8, 8, 8, 8, 8, 8, 8, 8, 8, 8, 8, 8, 8, 8, 8, 8, 8, 8, 8, 8, 8, 8, 8, 8, 8, 8, 8, 8, 8, 8, 8, 8, 8, 8, 8, 8, 8, 8, 8, 8, 8, 8, 8, 8, 8, 8, 8, 8, 8, 8, 8, 8, 8, 8, 8, 8, 8, 8, 8, 8, 8, 8, 8, 8, 8, 8, 8, 8, 8, 8, 8, 8, 8, 8, 8, 8, 8, 8, 8, 8, 8, 8, 8, 8, 8, 8, 8, 8, 8, 8, 8, 8, 8]) (IntKind.wrap .u8 x0)))))))
theorem YtR (lo : Lo) : ∀ x : Int × Int, stepJ (⟨pf, fs21 lo, [], 0⟩ : Tabs) YmH YmI q21_J9_b x = Yb7 lo x := fun x => by kernel_rfl
def Yg4 (lo : Lo) : LpE := ⟨9, [], YmH, YmI, Yb7 lo⟩
theorem YtS {lo : Lo} (hlo : LoOK lo) (C : Ctx) (hT : TOK (⟨pf, fs21 lo, [], 0⟩ : Tabs) C) : YwI (fun _ => False) [] 0 C q21_J9_b.er (Yg4 lo) :=
  YcR hT frNo (show LK C _ q21_J9_b from ⟨⟨tv, ⟨⟨tv, tv⟩, tv⟩⟩, ⟨tv, tv⟩⟩) (fun x y h => (YtR lo x).trans h)
def q21 (lo : Lo) (x0 : Int) : Option Int :=
  bif (decide ((4294967296 : Int) <= x0)) then (chk (0 <= (32 : Int)) (bif (decide ((65536 : Int) <= (x0.fdiv (2 ^ (min (32 : Int).toNat (IntKind.bits .u64)))))) then (chk (0 <= (16 : Int)) (Option.bind (Yb7 lo (((x0.fdiv (2 ^ (min (32 : Int).toNat (IntKind.bits .u64)))).fdiv (2 ^ (min (16 : Int).toNat (IntKind.bits .u64)))), (IntKind.wrap .i64 ((32 : Int) + (16 : Int))))) fun y93 => some y93)) else (Option.bind (Yb7 lo ((x0.fdiv (2 ^ (min (32 : Int).toNat (IntKind.bits .u64)))), (32 : Int))) fun y94 => some y94))) else (bif (decide ((65536 : Int) <= x0)) then (chk (0 <= (16 : Int)) (Option.bind (Yb7 lo ((x0.fdiv (2 ^ (min (16 : Int).toNat (IntKind.bits .u64)))), (IntKind.wrap .i64 ((0 : Int) + (16 : Int))))) fun y95 => some y95)) else (Option.bind (Yb7 lo (x0, (0 : Int))) fun y96 => some y96))
def YmJ : VCode :=
 (.seq (.reg [o 2 (.mv (k 0))])
 (.seq (.seq (.reg [mV 3 0, o 4 (.bin .geq (t 3) (ki .u64 4294967296))])
 (.cond (t 4) (.seq (.reg [mV 5 0, o 6 (.bin .shr (t 5) (ki .u64 32)), mV 0 6])
 (.reg [o 2 (.mv (k 32))]))
 .skip))
 (.seq (.seq (.reg [mV 7 0, o 8 (.bin .geq (t 7) (ki .u64 65536))])
 (.cond (t 8) (.seq (.reg [mV 9 0, o 10 (.bin .shr (t 9) (ki .u64 16)), mV 0 10])
 (.reg [mV 11 2, o 12 (.bin .add (t 11) (k 16)), mV 2 12]))
 .skip))
 (.jn 9 q21_J9_b))))
def Yg5 : VFn := ⟨true, 25, [.t 2], YmJ⟩
def Yg6 (lo : Lo) : FnE := ⟨187, true, ⟨[0], [.i .u64], [], (cs [.i .u64])⟩, .i .i64, [], (cs [I]), (fun x => q21 lo x : Int -> Option Int)⟩
theorem YtT (lo : Lo) : ∀ x : Int, evP (⟨pf, fs21 lo, [Yg4 lo], 0⟩ : Tabs) Yg5 ⟨[0], [.i .u64], [], (cs [.i .u64])⟩ (.i .i64) (cs [I]) x = q21 lo x := fun x => by kernel_rfl
theorem YtU {P : Program} {fm : FM} {lo : Lo} (hlo : LoOK lo) (hS : YwH P fm ⟨pf, fs21 lo, [], 0⟩) (hm : P.follows .mixedOrders = true) (htie : Ti P fm 187 Yg5) : YwH P fm ⟨pf, Yg6 lo :: fs21 lo, [], 0⟩ :=
  Yak hS hm [Yg4 lo] (Yg6 lo) rfl Yg5 htie (by decide) rfl (Nat.le_of_ble_eq_true (by kernel_rfl)) (fun C hT => show LK C _ YmJ from ⟨tv, ⟨⟨tv, ⟨⟨tv, tv⟩, tv⟩⟩, ⟨⟨tv, ⟨⟨tv, tv⟩, tv⟩⟩, (YwW (by kernel_rfl) (YtS hlo C (Yai hT)))⟩⟩⟩) (fun x y h => (YtT lo x).trans h)
def fs22 (lo : Lo) : List FnE := Yg6 lo :: fs21 lo
def q22 (lo : Lo) (x0 : Int) : Option Int :=
  Option.bind (q21 lo x0) fun y97 => some y97
def YmK : VCode :=
 (.seq (.reg [o 2 (.mv (k 0))])
 (.seq (.cond (kb false) (.seq (.reg [mV 3 0, o 4 (.conv .u32 (t 3)), o 5 (.call 186 [(t 4)]), mV 2 5])
 (.fz [2] .ret))
 .skip)
 (.seq (.reg [mV 6 0, o 7 (.call 187 [(t 6)]), mV 2 7])
 (.fz [2] .ret))))
def Yg7 : VFn := ⟨true, 8, [.t 2], YmK⟩
def Yg8 (lo : Lo) : FnE := ⟨163, true, ⟨[0], [.i .u64], [], (cs [.i .u64])⟩, .i .i64, [], (cs [I]), (fun x => q22 lo x : Int -> Option Int)⟩
theorem YtV (lo : Lo) : ∀ x : Int, evP (⟨pf, fs22 lo, [], 0⟩ : Tabs) Yg7 ⟨[0], [.i .u64], [], (cs [.i .u64])⟩ (.i .i64) (cs [I]) x = q22 lo x := fun x => by kernel_rfl
theorem YtW {P : Program} {fm : FM} {lo : Lo} (hlo : LoOK lo) (hS : YwH P fm ⟨pf, fs22 lo, [], 0⟩) (hm : P.follows .mixedOrders = true) (htie : Ti P fm 163 Yg7) : YwH P fm ⟨pf, Yg8 lo :: fs22 lo, [], 0⟩ :=
  Yak hS hm [] (Yg8 lo) rfl Yg7 htie (by decide) rfl (Nat.le_of_ble_eq_true (by kernel_rfl)) (fun C hT => show LK C _ YmK from ⟨tv, ⟨⟨⟨tv, tv⟩, tv⟩, ⟨tv, tv⟩⟩⟩) (fun x y h => (YtV lo x).trans h)
def fs23 (lo : Lo) : List FnE := Yg8 lo :: fs22 lo
def q23 (lo : Lo) (x0 : ByteArray) : Option Bool :=
  some (!decide (x0 = x0))
def YmL : VCode :=
 (.seq (.reg [o 2 (.mv (kb false))])
 (.seq (.reg [mV 3 0, mV 4 0, o 5 (.bin .neq (t 3) (t 4)), mV 2 5])
 (.fz [2] .ret)))
def Yg9 : VFn := ⟨true, 6, [.t 2], YmL⟩
def Yha (lo : Lo) : FnE := ⟨325, true, ⟨[0], [.s], [], (cs [.s])⟩, .b, [], (cs [.b]), (fun x => q23 lo x : ByteArray -> Option Bool)⟩
theorem YtX (lo : Lo) : ∀ x : ByteArray, evP (⟨pf, fs23 lo, [], 0⟩ : Tabs) Yg9 ⟨[0], [.s], [], (cs [.s])⟩ (.b) (cs [.b]) x = q23 lo x := fun x => by kernel_rfl
theorem YtY {P : Program} {fm : FM} {lo : Lo} (hlo : LoOK lo) (hS : YwH P fm ⟨pf, fs23 lo, [], 0⟩) (hm : P.follows .mixedOrders = true) (htie : Ti P fm 325 Yg9) : YwH P fm ⟨pf, Yha lo :: fs23 lo, [], 0⟩ :=
  Yak hS hm [] (Yha lo) rfl Yg9 htie (by decide) rfl (Nat.le_of_ble_eq_true (by kernel_rfl)) (fun C hT => show LK C _ YmL from ⟨tv, ⟨tv, tv⟩⟩) (fun x y h => (YtX lo x).trans h)
def fs24 (lo : Lo) : List FnE := Yha lo :: fs23 lo
def q24 (lo : Lo) (x0 : ByteArray) (y1 : ByteArray) : Option Bool :=
  Option.bind (q23 lo x0) fun y99 => bif y99 then (Option.bind (q23 lo y1) fun y100 => bif (!y100) then (some true) else (some (Op.bytesLess x0.toList y1.toList))) else (some (Op.bytesLess x0.toList y1.toList))
def YmM : VCode :=
 (.seq (.reg [o 4 (.mv (kb false))])
 (.seq (.reg [mV 5 0, o 6 (.call 325 [(t 5)]), mV 7 6, og 8 7 true (.mv (t 1)), og 9 7 true (.call 325 [(t 8)]), og 10 7 true (.not (t 9)), o 11 (.pick (t 7) (t 10) (kb false)), mV 12 11, og 13 12 false (.mv (t 0)), og 14 12 false (.mv (t 1)), og 15 12 false (.bin .lss (t 13) (t 14)), o 16 (.pick (t 12) (kb true) (t 15)), mV 4 16])
 (.fz [4] .ret)))
def Yhb : VFn := ⟨true, 17, [.t 4], YmM⟩
def Yhc (lo : Lo) : FnE := ⟨317, true, ⟨[0, 1], [.s, .s], [], (cs [.s, .s])⟩, .b, [], (cs [.b]), (fun x => q24 lo x.1 x.2 : ByteArray × ByteArray -> Option Bool)⟩
theorem YtZ (lo : Lo) : ∀ x : ByteArray × ByteArray, evP (⟨pf, fs24 lo, [], 0⟩ : Tabs) Yhb ⟨[0, 1], [.s, .s], [], (cs [.s, .s])⟩ (.b) (cs [.b]) x = q24 lo x.1 x.2 := fun x => by kernel_rfl
theorem Yt0 {P : Program} {fm : FM} {lo : Lo} (hlo : LoOK lo) (hS : YwH P fm ⟨pf, fs24 lo, [], 0⟩) (hm : P.follows .mixedOrders = true) (htie : Ti P fm 317 Yhb) : YwH P fm ⟨pf, Yhc lo :: fs24 lo, [], 0⟩ :=
  Yak hS hm [] (Yhc lo) rfl Yhb htie (by decide) rfl (Nat.le_of_ble_eq_true (by kernel_rfl)) (fun C hT => show LK C _ YmM from ⟨tv, ⟨tv, tv⟩⟩) (fun x y h => (YtZ lo x).trans h)
def fs25 (lo : Lo) : List FnE := Yhc lo :: fs24 lo
end Go.Abs.G03
namespace Go.Abs.G03
open Go Go.Abs
set_option maxRecDepth 100000
set_option maxHeartbeats 1000000
def q25_L3_b : VCode :=
 (.seq (.seq (.reg [mV 16 7, mV 17 1, o 18 (.bin .gtr (t 16) (t 17)), mV 19 18, og 20 19 true (.mv (t 0)), og 21 19 true (.mv (t 7)), og 22 19 true (.iad 1 (t 20) (t 21)), og 23 19 true (.load false 1 (t 22)), og 24 19 true (.mv (t 0)), og 25 19 true (.mv (t 7)), og 26 19 true (.bin .sub (t 25) (k 1)), og 27 19 true (.iad 1 (t 24) (t 26)), og 28 19 true (.load false 1 (t 27)), og 29 19 true (.call 317 [(t 23), (t 28)]), o 30 (.pick (t 19) (t 29) (kb false))])
 (.cond (t 30) .skip
 (.exit 2)))
 (.seq (.blk 3 (.reg [mV 33 0, mV 34 7, mV 35 0, mV 36 7, o 37 (.bin .sub (t 36) (k 1)), mV 38 0, mV 39 7, o 40 (.bin .sub (t 39) (k 1)), o 41 (.iad 1 (t 38) (t 40)), lD 42 41, mV 43 0, mV 44 7, o 45 (.iad 1 (t 43) (t 44)), lD 46 45, o 47 (.iad 1 (t 33) (t 34)), on (.store 1 (t 47) (t 42)), o 48 (.iad 1 (t 35) (t 37)), on (.store 1 (t 48) (t 46))]))
 (.reg [mV 31 7, o 32 (.bin .sub (t 31) (k 1)), mV 7 32])))
def YmN : Sg := ⟨[0, 1, 2, 6, 7], [.ref 0, .i .i64, .i .i64, .i .i64, .i .i64], [.sq (cs [.s])], (cs [I, I, I, I, .l (cs [.s])])⟩
def YmO : List Out1 := [⟨.exit 2, ⟨[0, 1, 2, 6], [.ref 0, .i .i64, .i .i64, .i .i64], [.sq (cs [.s])], Zc15⟩⟩]
def YmP (lo : Lo) : Int × Int × Int × Int × Zt2 -> Option ((Int × Int × Int × Int × Zt2) ⊕ ((Int × Int × Int × Zt2))) := fun x => match x with
  | (a1, b2, i6, j7, data0) => bif (decide (a1 < j7)) then (chk (0 <= j7 /\ j7 < (data0.length : Int)) (chk (0 <= (IntKind.wrap .i64 (j7 - (1 : Int))) /\ (IntKind.wrap .i64 (j7 - (1 : Int))) < (data0.length : Int)) (Option.bind (q24 lo (data0.getD j7.toNat (ByteArray.mk #[])) (data0.getD ((IntKind.wrap .i64 (j7 - (1 : Int))).toNat) (ByteArray.mk #[]))) fun y101 => bif y101 then (chk (0 <= (IntKind.wrap .i64 (j7 - (1 : Int))) /\ (IntKind.wrap .i64 (j7 - (1 : Int))) < (data0.length : Int)) (chk (0 <= j7 /\ j7 < (data0.length : Int)) (chk (0 <= j7 /\ j7 < (data0.length : Int)) (chk (0 <= (IntKind.wrap .i64 (j7 - (1 : Int))) /\ (IntKind.wrap .i64 (j7 - (1 : Int))) < ((data0.set j7.toNat (data0.getD ((IntKind.wrap .i64 (j7 - (1 : Int))).toNat) (ByteArray.mk #[]))).length : Int)) (some (.inl (a1, b2, i6, (IntKind.wrap .i64 (j7 - (1 : Int))), ((data0.set j7.toNat (data0.getD ((IntKind.wrap .i64 (j7 - (1 : Int))).toNat) (ByteArray.mk #[]))).set ((IntKind.wrap .i64 (j7 - (1 : Int))).toNat) (data0.getD j7.toNat (ByteArray.mk #[])))))))))) else (some (.inr (a1, b2, i6, data0)))))) else (some (.inr (a1, b2, i6, data0)))
theorem Yt1 (lo : Lo) : ∀ x : Int × Int × Int × Int × Zt2, YwY (⟨pf, fs25 lo, [], 1⟩ : Tabs) [] YmN YmO q25_L3_b x = YmP lo x := fun x => by kernel_rfl
def YmQ (lo : Lo) : Int × Int × Int × Int × Zt2 -> Option ((Int × Int × Int × Zt2)) := lo.run (YmP lo)
def YbO (lo : Lo) : LpE := ⟨3, [], YmN, YmO, YmQ lo⟩
theorem Yt2 {lo : Lo} (hlo : LoOK lo) (C : Ctx) (hT : TOK (⟨pf, fs25 lo, [], 1⟩ : Tabs) C) {Fr : Nat -> Prop} {H0 : Heap} (hf : FrOK Fr H0) : YwI Fr H0 1 C (.loop q25_L3_b.er) (YbO lo) :=
  Yal hT hf (show LsOK Fr H0 C (⟨pf, fs25 lo, [], 1⟩ : Tabs) q25_L3_b from ⟨⟨tv, ⟨tv, tv⟩⟩, ⟨tv, tv⟩⟩) (fun x y h => Yam (Yt1 lo) (hlo _ _ _ h))
def q25_L1_b : VCode :=
 (.seq (.seq (.reg [mV 10 6, mV 11 2, o 12 (.bin .lss (t 10) (t 11))])
 (.cond (t 12) .skip
 (.exit 0)))
 (.seq (.blk 1 (.seq (.reg [mV 15 6, mV 7 15])
 (.blk 2 (.loop 3 q25_L3_b))))
 (.reg [mV 13 6, o 14 (.bin .add (t 13) (k 1)), mV 6 14])))
def YmR : Sg := ⟨[0, 1, 2, 6], [.ref 0, .i .i64, .i .i64, .i .i64], [.sq (cs [.s])], Zc15⟩
def YmS : List Out1 := [⟨.exit 0, ⟨[], [], [.sq (cs [.s])], Zc10⟩⟩]
def YmT (lo : Lo) : Int × Int × Int × Zt2 -> Option ((Int × Int × Int × Zt2) ⊕ ((Zt2))) := fun x => match x with
  | (a1, b2, i6, data0) => bif (decide (i6 < b2)) then (Option.bind (YmQ lo (a1, b2, i6, i6, data0)) fun y102 => some (.inl (y102.1, y102.2.1, (IntKind.wrap .i64 (y102.2.2.1 + (1 : Int))), y102.2.2.2))) else (some (.inr data0))
theorem Yt3 (lo : Lo) : ∀ x : Int × Int × Int × Zt2, YwY (⟨pf, fs25 lo, [YbO lo], 1⟩ : Tabs) [] YmR YmS q25_L1_b x = YmT lo x := fun x => by kernel_rfl
def YmU (lo : Lo) : Int × Int × Int × Zt2 -> Option ((Zt2)) := lo.run (YmT lo)
def Yej (lo : Lo) : LpE := ⟨1, [], YmR, YmS, YmU lo⟩
theorem Yt4 {lo : Lo} (hlo : LoOK lo) (C : Ctx) (hT : TOK (⟨pf, fs25 lo, [YbO lo], 1⟩ : Tabs) C) {Fr : Nat -> Prop} {H0 : Heap} (hf : FrOK Fr H0) : YwI Fr H0 1 C (.loop q25_L1_b.er) (Yej lo) :=
  Yal hT hf (show LsOK Fr H0 C (⟨pf, fs25 lo, [YbO lo], 1⟩ : Tabs) q25_L1_b from ⟨⟨tv, ⟨tv, tv⟩⟩, ⟨⟨tv, (YwW (by kernel_rfl) (Yt2 hlo C (Yai hT) hf))⟩, tv⟩⟩) (fun x y h => Yam (Yt3 lo) (hlo _ _ _ h))
def q25 (lo : Lo) (a1 : Int) (b2 : Int) (data0 : List ByteArray) : Option (Zt2) :=
  Option.bind (YmU lo (a1, b2, (IntKind.wrap .i64 (a1 + (1 : Int))), data0)) fun y103 => some y103
def YmV : VCode :=
 (.seq (.reg [mV 8 1, o 9 (.bin .add (t 8) (k 1)), mV 6 9])
 (.blk 0 (.loop 1 q25_L1_b)))
def Yhd : VFn := ⟨true, 49, [], YmV⟩
def Yhe (lo : Lo) : FnE := ⟨311, false, ⟨[0, 1, 2], [.ref 0, .i .i64, .i .i64], [.sq (cs [.s])], Zc20⟩, .tp [], [.sq (cs [.s])], Zc10, (fun x => q25 lo x.1 x.2.1 x.2.2 : Int × Int × Zt2 -> Option (Zt2))⟩
theorem Yt5 (lo : Lo) : ∀ x : Int × Int × Zt2, evI (⟨pf, fs25 lo, [Yej lo, YbO lo], 1⟩ : Tabs) Yhd ⟨[0, 1, 2], [.ref 0, .i .i64, .i .i64], [.sq (cs [.s])], Zc20⟩ (.tp []) [.sq (cs [.s])] Zc10 x = q25 lo x.1 x.2.1 x.2.2 := fun x => by kernel_rfl
theorem Yt6 {P : Program} {fm : FM} {lo : Lo} (hlo : LoOK lo) (hS : YwH P fm ⟨pf, fs25 lo, [], 0⟩) (hm : P.follows .mixedOrders = true) (htie : Ti P fm 311 Yhd) : YwH P fm ⟨pf, Yhe lo :: fs25 lo, [], 0⟩ :=
  Ybd hS hm [Yej lo, YbO lo] (Yhe lo) rfl Yhd htie (by decide) rfl (Nat.le_of_ble_eq_true (by kernel_rfl)) (fun C hT Fr H0 hf => show LsOK Fr H0 C (⟨pf, fs25 lo, [Yej lo, YbO lo], 1⟩ : Tabs) YmV from ⟨tv, (YwW (by kernel_rfl) (Yt4 hlo C (Yai hT) hf))⟩) (fun x y h => (Yt5 lo x).trans h)
def fs26 (lo : Lo) : List FnE := Yhe lo :: fs25 lo
def q26 (lo : Lo) (x0 : Int) (x1 : Int) (x2 : List ByteArray) : Option (Zt2) := none
def Yhf (lo : Lo) : FnE := ⟨312, false, ⟨[0, 1, 2], [.ref 0, .i .i64, .i .i64], [.sq (cs [.s])], Zc20⟩, .tp [], [.sq (cs [.s])], Zc10, (fun x => q26 lo x.1 x.2.1 x.2.2 : Int × Int × Zt2 -> Option (Zt2))⟩
theorem Yt7 {P : Program} {fm : FM} {lo : Lo} (hlo : LoOK lo) (hS : YwH P fm ⟨pf, fs26 lo, [], 0⟩) (hm : P.follows .mixedOrders = true) (hN : True) : YwH P fm ⟨pf, Yhf lo :: fs26 lo, [], 0⟩ :=
  YbM hS (Yhf lo) (fun _ => rfl)
def fs27 (lo : Lo) : List FnE := Yhf lo :: fs26 lo
def q27 (lo : Lo) (x0 : Int) (x1 : Int) (x2 : List ByteArray) : Option (Zt2) := none
def Yhg (lo : Lo) : FnE := ⟨313, false, ⟨[0, 1, 2], [.ref 0, .i .i64, .i .i64], [.sq (cs [.s])], Zc20⟩, .tp [], [.sq (cs [.s])], Zc10, (fun x => q27 lo x.1 x.2.1 x.2.2 : Int × Int × Zt2 -> Option (Zt2))⟩
theorem Yt8 {P : Program} {fm : FM} {lo : Lo} (hlo : LoOK lo) (hS : YwH P fm ⟨pf, fs27 lo, [], 0⟩) (hm : P.follows .mixedOrders = true) (hN : True) : YwH P fm ⟨pf, Yhg lo :: fs27 lo, [], 0⟩ :=
  YbM hS (Yhg lo) (fun _ => rfl)
def fs28 (lo : Lo) : List FnE := Yhg lo :: fs27 lo
def q28 (lo : Lo) (x0 : List ByteArray) (x1 : Int) (x2 : Int) : Option (Int × Int) := none
def Yhh (lo : Lo) : FnE := ⟨314, true, ⟨[0, 1, 2], [.l (cs [.s]), .i .i64, .i .i64], [], (cs [.l (cs [.s]), I, I])⟩, .tp [.i .i64, .i .i64], [], (cs [I, I]), (fun x => q28 lo x.1 x.2.1 x.2.2 : Zt2 × Int × Int -> Option (Int × Int))⟩
theorem Yt9 {P : Program} {fm : FM} {lo : Lo} (hlo : LoOK lo) (hS : YwH P fm ⟨pf, fs28 lo, [], 0⟩) (hm : P.follows .mixedOrders = true) (hN : True) : YwH P fm ⟨pf, Yhh lo :: fs28 lo, [], 0⟩ :=
  YbM hS (Yhh lo) (fun _ => rfl)
def fs29 (lo : Lo) : List FnE := Yhh lo :: fs28 lo
def q29 (lo : Lo) (x0 : Int) (x1 : Int) (x2 : List ByteArray) : Option (Zt2) := none
def Yhi (lo : Lo) : FnE := ⟨315, false, ⟨[0, 1, 2], [.ref 0, .i .i64, .i .i64], [.sq (cs [.s])], Zc20⟩, .tp [], [.sq (cs [.s])], Zc10, (fun x => q29 lo x.1 x.2.1 x.2.2 : Int × Int × Zt2 -> Option (Zt2))⟩
theorem Yua {P : Program} {fm : FM} {lo : Lo} (hlo : LoOK lo) (hS : YwH P fm ⟨pf, fs29 lo, [], 0⟩) (hm : P.follows .mixedOrders = true) (hN : True) : YwH P fm ⟨pf, Yhi lo :: fs29 lo, [], 0⟩ :=
  YbM hS (Yhi lo) (fun _ => rfl)
def fs30 (lo : Lo) : List FnE := Yhi lo :: fs29 lo
def q30 (lo : Lo) (x0 : Int) (x1 : Int) (x2 : List ByteArray) : Option (Bool × Zt2) := none
def Yhj (lo : Lo) : FnE := ⟨316, false, ⟨[0, 1, 2], [.ref 0, .i .i64, .i .i64], [.sq (cs [.s])], Zc20⟩, .b, [.sq (cs [.s])], (cs [.b, .l (cs [.s])]), (fun x => q30 lo x.1 x.2.1 x.2.2 : Int × Int × Zt2 -> Option (Bool × Zt2))⟩
theorem Yub {P : Program} {fm : FM} {lo : Lo} (hlo : LoOK lo) (hS : YwH P fm ⟨pf, fs30 lo, [], 0⟩) (hm : P.follows .mixedOrders = true) (hN : True) : YwH P fm ⟨pf, Yhj lo :: fs30 lo, [], 0⟩ :=
  YbM hS (Yhj lo) (fun _ => rfl)
def fs31 (lo : Lo) : List FnE := Yhj lo :: fs30 lo
def q31 (lo : Lo) (x0 : Int) (x1 : Int) (x2 : Int) (x3 : List ByteArray) : Option (Int × Zt2) := none
def Yhk (lo : Lo) : FnE := ⟨318, false, ⟨[0, 1, 2, 3], [.ref 0, .i .i64, .i .i64, .i .i64], [.sq (cs [.s])], Zc15⟩, .i .i64, [.sq (cs [.s])], (cs [I, .l (cs [.s])]), (fun x => q31 lo x.1 x.2.1 x.2.2.1 x.2.2.2 : Int × Int × Int × Zt2 -> Option (Int × Zt2))⟩
theorem Yuc {P : Program} {fm : FM} {lo : Lo} (hlo : LoOK lo) (hS : YwH P fm ⟨pf, fs31 lo, [], 0⟩) (hm : P.follows .mixedOrders = true) (hN : True) : YwH P fm ⟨pf, Yhk lo :: fs31 lo, [], 0⟩ :=
  YbM hS (Yhk lo) (fun _ => rfl)
def fs32 (lo : Lo) : List FnE := Yhk lo :: fs31 lo
def q32 (lo : Lo) (x0 : Int) (x1 : Int) (x2 : Int) (x3 : List ByteArray) : Option (Int × Bool × Zt2) := none
def Yhl (lo : Lo) : FnE := ⟨319, false, ⟨[0, 1, 2, 3], [.ref 0, .i .i64, .i .i64, .i .i64], [.sq (cs [.s])], Zc15⟩, .tp [.i .i64, .b], [.sq (cs [.s])], (cs [I, .b, .l (cs [.s])]), (fun x => q32 lo x.1 x.2.1 x.2.2.1 x.2.2.2 : Int × Int × Int × Zt2 -> Option (Int × Bool × Zt2))⟩
theorem Yud {P : Program} {fm : FM} {lo : Lo} (hlo : LoOK lo) (hS : YwH P fm ⟨pf, fs32 lo, [], 0⟩) (hm : P.follows .mixedOrders = true) (hN : True) : YwH P fm ⟨pf, Yhl lo :: fs32 lo, [], 0⟩ :=
  YbM hS (Yhl lo) (fun _ => rfl)
def fs33 (lo : Lo) : List FnE := Yhl lo :: fs32 lo
def YaC (F : Int × Int × Int × Zt2 -> Option (Zt2)) : FnE := ⟨301, false, ⟨[0, 1, 2, 3], [.ref 0, .i .i64, .i .i64, .i .i64], [.sq (cs [.s])], Zc15⟩, .tp [], [.sq (cs [.s])], Zc10, F⟩
def q33_J20_b : VCode :=
 (.seq (.seq (.reg [mV 73 1, o 74 (.bin .gtr (t 73) (k 0)), mV 75 74, og 76 75 true (.mv (t 0)), og 77 75 true (.mv (t 1)), og 78 75 true (.bin .sub (t 77) (k 1)), og 79 75 true (.iad 1 (t 76) (t 78)), og 80 75 true (.load false 1 (t 79)), og 81 75 true (.mv (t 0)), og 82 75 true (.mv (t 11)), og 83 75 true (.iad 1 (t 81) (t 82)), og 84 75 true (.load false 1 (t 83)), og 85 75 true (.call 317 [(t 80), (t 84)]), og 86 75 true (.not (t 85)), o 87 (.pick (t 75) (t 86) (kb false))])
 (.cond (t 87) (.seq (.reg [mV 88 0, mV 89 1, mV 90 2, mV 91 11, o 92 (.call 318 [(t 88), (t 89), (t 90), (t 91)]), mV 13 92])
 (.seq (.reg [mV 93 13, mV 1 93])
 (.exit 1)))
 .skip))
 (.seq (.reg [mV 95 0, mV 96 1, mV 97 2, mV 98 11, o 99 (.call 319 [(t 95), (t 96), (t 97), (t 98)]), mV 94 99, eX 100 94 0, eX 101 94 1, mV 14 100, mV 15 101])
 (.seq (.reg [mV 102 15, mV 9 102])
 (.seq (.reg [mV 103 14, mV 104 1, o 105 (.bin .sub (t 103) (t 104)), mV 106 2, mV 107 14, o 108 (.bin .sub (t 106) (t 107)), mV 16 105, mV 17 108])
 (.seq (.reg [mV 109 10, o 110 (.bin .quo (t 109) (k 8)), mV 18 110])
 (.seq (.reg [mV 111 16, mV 112 17, o 113 (.bin .lss (t 111) (t 112))])
 (.cond (t 113) (.seq (.reg [mV 114 16, mV 115 18, o 116 (.bin .geq (t 114) (t 115)), mV 8 116])
 (.seq (.reg [mV 117 0, mV 118 1, mV 119 14, mV 120 3, o 121 (.call 301 [(t 117), (t 118), (t 119), (t 120)])])
 (.reg [mV 122 14, o 123 (.bin .add (t 122) (k 1)), mV 1 123])))
 (.seq (.reg [mV 124 17, mV 125 18, o 126 (.bin .geq (t 124) (t 125)), mV 8 126])
 (.seq (.reg [mV 127 0, mV 128 14, o 129 (.bin .add (t 128) (k 1)), mV 130 2, mV 131 3, o 132 (.call 301 [(t 127), (t 129), (t 130), (t 131)])])
 (.reg [mV 133 14, mV 2 133]))))))))))
def YmW : Sg := ⟨[0, 1, 2, 3, 8, 9, 10, 11], [.ref 0, .i .i64, .i .i64, .i .i64, .b, .b, .i .i64, .i .i64], [.sq (cs [.s])], (cs [I, I, I, .b, .b, I, I, .l (cs [.s])])⟩
def YmX : List Out1 := [⟨.exit 1, ⟨[0, 1, 2, 3, 8, 9], [.ref 0, .i .i64, .i .i64, .i .i64, .b, .b], [.sq (cs [.s])], Zc12⟩⟩, ⟨.nor, ⟨[0, 1, 2, 3, 8, 9], [.ref 0, .i .i64, .i .i64, .i .i64, .b, .b], [.sq (cs [.s])], Zc12⟩⟩]
def Yb8 (lo : Lo) (rec : Int × Int × Int × Zt2 -> Option (Zt2)) : Int × Int × Int × Bool × Bool × Int × Int × Zt2 -> Option (Zp42 ⊕ Zp42) := fun x => match x with
  | (a1, b2, limit3, wasBalanced8, wasPartitioned9, length10, pivot11, data0) => bif (decide ((0 : Int) < a1)) then (chk (0 <= (IntKind.wrap .i64 (a1 - (1 : Int))) /\ (IntKind.wrap .i64 (a1 - (1 : Int))) < (data0.length : Int)) (chk (0 <= pivot11 /\ pivot11 < (data0.length : Int)) (Option.bind (q24 lo (data0.getD ((IntKind.wrap .i64 (a1 - (1 : Int))).toNat) (ByteArray.mk #[])) (data0.getD pivot11.toNat (ByteArray.mk #[]))) fun y110 => bif (!y110) then (Option.bind (q31 lo a1 b2 pivot11 data0) fun y111 => chk (y111.2.length = data0.length) (some (.inl (y111.1, b2, limit3, wasBalanced8, wasPartitioned9, y111.2)))) else (Option.bind (q32 lo a1 b2 pivot11 data0) fun y112 => chk (y112.2.2.length = data0.length) (chk ((8 : Int) ≠ 0) (bif (decide ((IntKind.wrap .i64 (y112.1 - a1)) < (IntKind.wrap .i64 (b2 - y112.1)))) then (Option.bind (rec (a1, y112.1, limit3, y112.2.2)) fun y113 => chk (y113.length = y112.2.2.length) (some (.inr ((IntKind.wrap .i64 (y112.1 + (1 : Int))), b2, limit3, (decide ((IntKind.wrap .i64 (length10.tdiv (8 : Int))) <= (IntKind.wrap .i64 (y112.1 - a1)))), y112.2.1, y113)))) else (Option.bind (rec ((IntKind.wrap .i64 (y112.1 + (1 : Int))), b2, limit3, y112.2.2)) fun y114 => chk (y114.length = y112.2.2.length) (some (.inr (a1, y112.1, limit3, (decide ((IntKind.wrap .i64 (length10.tdiv (8 : Int))) <= (IntKind.wrap .i64 (b2 - y112.1)))), y112.2.1, y114)))))))))) else (Option.bind (q32 lo a1 b2 pivot11 data0) fun y115 => chk (y115.2.2.length = data0.length) (chk ((8 : Int) ≠ 0) (bif (decide ((IntKind.wrap .i64 (y115.1 - a1)) < (IntKind.wrap .i64 (b2 - y115.1)))) then (Option.bind (rec (a1, y115.1, limit3, y115.2.2)) fun y116 => chk (y116.length = y115.2.2.length) (some (.inr ((IntKind.wrap .i64 (y115.1 + (1 : Int))), b2, limit3, (decide ((IntKind.wrap .i64 (length10.tdiv (8 : Int))) <= (IntKind.wrap .i64 (y115.1 - a1)))), y115.2.1, y116)))) else (Option.bind (rec ((IntKind.wrap .i64 (y115.1 + (1 : Int))), b2, limit3, y115.2.2)) fun y117 => chk (y117.length = y115.2.2.length) (some (.inr (a1, y115.1, limit3, (decide ((IntKind.wrap .i64 (length10.tdiv (8 : Int))) <= (IntKind.wrap .i64 (b2 - y115.1)))), y115.2.1, y117)))))))
theorem Yue (lo : Lo) (rec : Int × Int × Int × Zt2 -> Option (Zt2)) : ∀ x : Int × Int × Int × Bool × Bool × Int × Int × Zt2, stepJ (⟨pf, YaC rec :: fs33 lo, [], 1⟩ : Tabs) YmW YmX q33_J20_b x = Yb8 lo rec x := fun x => by kernel_rfl
def YaH (lo : Lo) (rec : Int × Int × Int × Zt2 -> Option (Zt2)) : LpE := ⟨20, [], YmW, YmX, Yb8 lo rec⟩
theorem Yuf {lo : Lo} (hlo : LoOK lo) (rec : Int × Int × Int × Zt2 -> Option (Zt2)) (C : Ctx) (hT : TOK (⟨pf, YaC rec :: fs33 lo, [], 1⟩ : Tabs) C) {Fr : Nat -> Prop} {H0 : Heap} (hf : FrOK Fr H0) : YwI Fr H0 1 C q33_J20_b.er (YaH lo rec) :=
  YcR hT hf (show LsOK Fr H0 C (⟨pf, YaC rec :: fs33 lo, [], 1⟩ : Tabs) q33_J20_b from ⟨⟨tv, ⟨⟨tv, ⟨tv, tv⟩⟩, tv⟩⟩, ⟨tv, ⟨tv, ⟨tv, ⟨tv, ⟨tv, ⟨⟨tv, ⟨tv, tv⟩⟩, ⟨tv, ⟨tv, tv⟩⟩⟩⟩⟩⟩⟩⟩⟩) (fun x y h => (Yue lo rec x).trans h)
def q33_J25_b : VCode :=
 (.seq (.seq (.reg [mV 61 8, mV 62 61, og 63 62 true (.mv (t 9)), o 64 (.pick (t 62) (t 63) (kb false)), mV 65 64, og 66 65 true (.mv (t 12)), og 67 65 true (.bin .eql (t 66) (k 1)), o 68 (.pick (t 65) (t 67) (kb false))])
 (.cond (t 68) (.seq (.reg [mV 69 0, mV 70 1, mV 71 2, o 72 (.call 316 [(t 69), (t 70), (t 71)])])
 (.cond (t 72) .ret
 .skip))
 .skip))
 (.jn 20 q33_J20_b))
def YmY : Sg := ⟨[0, 1, 2, 3, 8, 9, 10, 11, 12], [.ref 0, .i .i64, .i .i64, .i .i64, .b, .b, .i .i64, .i .i64, .i .i64], [.sq (cs [.s])], (cs [I, I, I, .b, .b, I, I, I, .l (cs [.s])])⟩
def YmZ : List Out1 := [⟨.ret, ⟨[], [], [.sq (cs [.s])], Zc10⟩⟩, ⟨.exit 1, ⟨[0, 1, 2, 3, 8, 9], [.ref 0, .i .i64, .i .i64, .i .i64, .b, .b], [.sq (cs [.s])], Zc12⟩⟩, ⟨.nor, ⟨[0, 1, 2, 3, 8, 9], [.ref 0, .i .i64, .i .i64, .i .i64, .b, .b], [.sq (cs [.s])], Zc12⟩⟩]
def Yek (lo : Lo) (rec : Int × Int × Int × Zt2 -> Option (Zt2)) : Int × Int × Int × Bool × Bool × Int × Int × Int × Zt2 -> Option ((Zt2) ⊕ Zp42 ⊕ Zp42) := fun x => match x with
  | (a1, b2, limit3, wasBalanced8, wasPartitioned9, length10, pivot11, hint12, data0) => bif wasBalanced8 then (bif wasPartitioned9 then (bif (decide (hint12 = (1 : Int))) then (Option.bind (q30 lo a1 b2 data0) fun y109 => chk (y109.2.length = data0.length) (bif y109.1 then (some (.inl y109.2)) else (Option.bind (Yb8 lo rec (a1, b2, limit3, wasBalanced8, wasPartitioned9, length10, pivot11, y109.2)) fun y118 => alt2 y118 (fun y119 => some (.inr (.inl (y119.1, y119.2.1, y119.2.2.1, y119.2.2.2.1, y119.2.2.2.2.1, y119.2.2.2.2.2)))) (fun y120 => some (.inr (.inr (y120.1, y120.2.1, y120.2.2.1, y120.2.2.2.1, y120.2.2.2.2.1, y120.2.2.2.2.2))))))) else (Option.bind (Yb8 lo rec (a1, b2, limit3, wasBalanced8, wasPartitioned9, length10, pivot11, data0)) fun y121 => alt2 y121 (fun y122 => some (.inr (.inl (y122.1, y122.2.1, y122.2.2.1, y122.2.2.2.1, y122.2.2.2.2.1, y122.2.2.2.2.2)))) (fun y123 => some (.inr (.inr (y123.1, y123.2.1, y123.2.2.1, y123.2.2.2.1, y123.2.2.2.2.1, y123.2.2.2.2.2)))))) else (Option.bind (Yb8 lo rec (a1, b2, limit3, wasBalanced8, wasPartitioned9, length10, pivot11, data0)) fun y124 => alt2 y124 (fun y125 => some (.inr (.inl (y125.1, y125.2.1, y125.2.2.1, y125.2.2.2.1, y125.2.2.2.2.1, y125.2.2.2.2.2)))) (fun y126 => some (.inr (.inr (y126.1, y126.2.1, y126.2.2.1, y126.2.2.2.1, y126.2.2.2.2.1, y126.2.2.2.2.2)))))) else (Option.bind (Yb8 lo rec (a1, b2, limit3, wasBalanced8, wasPartitioned9, length10, pivot11, data0)) fun y127 => alt2 y127 (fun y128 => some (.inr (.inl (y128.1, y128.2.1, y128.2.2.1, y128.2.2.2.1, y128.2.2.2.2.1, y128.2.2.2.2.2)))) (fun y129 => some (.inr (.inr (y129.1, y129.2.1, y129.2.2.1, y129.2.2.2.1, y129.2.2.2.2.1, y129.2.2.2.2.2)))))
theorem Yug (lo : Lo) (rec : Int × Int × Int × Zt2 -> Option (Zt2)) : ∀ x : Int × Int × Int × Bool × Bool × Int × Int × Int × Zt2, stepJ (⟨pf, YaC rec :: fs33 lo, [YaH lo rec], 1⟩ : Tabs) YmY YmZ q33_J25_b x = Yek lo rec x := fun x => by kernel_rfl
def YaV (lo : Lo) (rec : Int × Int × Int × Zt2 -> Option (Zt2)) : LpE := ⟨25, [], YmY, YmZ, Yek lo rec⟩
theorem Yuh {lo : Lo} (hlo : LoOK lo) (rec : Int × Int × Int × Zt2 -> Option (Zt2)) (C : Ctx) (hT : TOK (⟨pf, YaC rec :: fs33 lo, [YaH lo rec], 1⟩ : Tabs) C) {Fr : Nat -> Prop} {H0 : Heap} (hf : FrOK Fr H0) : YwI Fr H0 1 C q33_J25_b.er (YaV lo rec) :=
  YcR hT hf (show LsOK Fr H0 C (⟨pf, YaC rec :: fs33 lo, [YaH lo rec], 1⟩ : Tabs) q33_J25_b from ⟨⟨tv, ⟨⟨tv, ⟨tv, tv⟩⟩, tv⟩⟩, (YwW (by kernel_rfl) (Yuf hlo rec C (Yai hT) hf))⟩) (fun x y h => (Yug lo rec x).trans h)
def q33_J30_b : VCode :=
 (.seq (.reg [mV 43 0, mV 44 1, mV 45 2, o 46 (.call 314 [(t 43), (t 44), (t 45)]), mV 42 46, eX 47 42 0, eX 48 42 1, mV 11 47, mV 12 48])
 (.seq (.seq (.reg [mV 49 12, o 50 (.bin .eql (t 49) (k 2))])
 (.cond (t 50) (.seq (.reg [mV 51 0, mV 52 1, mV 53 2, o 54 (.call 315 [(t 51), (t 52), (t 53)])])
 (.seq (.reg [mV 55 2, o 56 (.bin .sub (t 55) (k 1)), mV 57 11, mV 58 1, o 59 (.bin .sub (t 57) (t 58)), o 60 (.bin .sub (t 56) (t 59)), mV 11 60])
 (.reg [o 12 (.mv (k 1))])))
 .skip))
 (.jn 25 q33_J25_b)))
def Ym0 : Sg := ⟨[0, 1, 2, 3, 8, 9, 10], [.ref 0, .i .i64, .i .i64, .i .i64, .b, .b, .i .i64], [.sq (cs [.s])], (cs [I, I, I, .b, .b, I, .l (cs [.s])])⟩
def Ym1 : List Out1 := [⟨.ret, ⟨[], [], [.sq (cs [.s])], Zc10⟩⟩, ⟨.exit 1, ⟨[0, 1, 2, 3, 8, 9], [.ref 0, .i .i64, .i .i64, .i .i64, .b, .b], [.sq (cs [.s])], Zc12⟩⟩, ⟨.nor, ⟨[0, 1, 2, 3, 8, 9], [.ref 0, .i .i64, .i .i64, .i .i64, .b, .b], [.sq (cs [.s])], Zc12⟩⟩]
def Yel (lo : Lo) (rec : Int × Int × Int × Zt2 -> Option (Zt2)) : Int × Int × Int × Bool × Bool × Int × Zt2 -> Option ((Zt2) ⊕ Zp42 ⊕ Zp42) := fun x => match x with
  | (a1, b2, limit3, wasBalanced8, wasPartitioned9, length10, data0) => Option.bind (q28 lo data0 a1 b2) fun y107 => bif (decide (y107.2 = (2 : Int))) then (Option.bind (q29 lo a1 b2 data0) fun y108 => chk (y108.length = data0.length) (Option.bind (Yek lo rec (a1, b2, limit3, wasBalanced8, wasPartitioned9, length10, (IntKind.wrap .i64 ((IntKind.wrap .i64 (b2 - (1 : Int))) - (IntKind.wrap .i64 (y107.1 - a1)))), (1 : Int), y108)) fun y130 => alt2 y130 (fun y131 => some (.inl y131)) (fun y132 => alt2 y132 (fun y133 => some (.inr (.inl (y133.1, y133.2.1, y133.2.2.1, y133.2.2.2.1, y133.2.2.2.2.1, y133.2.2.2.2.2)))) (fun y134 => some (.inr (.inr (y134.1, y134.2.1, y134.2.2.1, y134.2.2.2.1, y134.2.2.2.2.1, y134.2.2.2.2.2))))))) else (Option.bind (Yek lo rec (a1, b2, limit3, wasBalanced8, wasPartitioned9, length10, y107.1, y107.2, data0)) fun y135 => alt2 y135 (fun y136 => some (.inl y136)) (fun y137 => alt2 y137 (fun y138 => some (.inr (.inl (y138.1, y138.2.1, y138.2.2.1, y138.2.2.2.1, y138.2.2.2.2.1, y138.2.2.2.2.2)))) (fun y139 => some (.inr (.inr (y139.1, y139.2.1, y139.2.2.1, y139.2.2.2.1, y139.2.2.2.2.1, y139.2.2.2.2.2))))))
theorem Yui (lo : Lo) (rec : Int × Int × Int × Zt2 -> Option (Zt2)) : ∀ x : Int × Int × Int × Bool × Bool × Int × Zt2, stepJ (⟨pf, YaC rec :: fs33 lo, [YaV lo rec, YaH lo rec], 1⟩ : Tabs) Ym0 Ym1 q33_J30_b x = Yel lo rec x := fun x => by kernel_rfl
def Ybs (lo : Lo) (rec : Int × Int × Int × Zt2 -> Option (Zt2)) : LpE := ⟨30, [], Ym0, Ym1, Yel lo rec⟩
theorem Yuj {lo : Lo} (hlo : LoOK lo) (rec : Int × Int × Int × Zt2 -> Option (Zt2)) (C : Ctx) (hT : TOK (⟨pf, YaC rec :: fs33 lo, [YaV lo rec, YaH lo rec], 1⟩ : Tabs) C) {Fr : Nat -> Prop} {H0 : Heap} (hf : FrOK Fr H0) : YwI Fr H0 1 C q33_J30_b.er (Ybs lo rec) :=
  YcR hT hf (show LsOK Fr H0 C (⟨pf, YaC rec :: fs33 lo, [YaV lo rec, YaH lo rec], 1⟩ : Tabs) q33_J30_b from ⟨tv, ⟨⟨tv, ⟨⟨tv, ⟨tv, tv⟩⟩, tv⟩⟩, (YwW (by kernel_rfl) (Yuh hlo rec C (Yai hT) hf))⟩⟩) (fun x y h => (Yui lo rec x).trans h)
def q33_L1_b : VCode :=
 (.blk 1 (.seq (.reg [mV 19 2, mV 20 1, o 21 (.bin .sub (t 19) (t 20)), mV 10 21])
 (.seq (.seq (.reg [mV 22 10, o 23 (.bin .leq (t 22) (k 12))])
 (.cond (t 23) (.seq (.reg [mV 24 0, mV 25 1, mV 26 2, o 27 (.call 311 [(t 24), (t 25), (t 26)])])
 .ret)
 .skip))
 (.seq (.seq (.reg [mV 28 3, o 29 (.bin .eql (t 28) (k 0))])
 (.cond (t 29) (.seq (.reg [mV 30 0, mV 31 1, mV 32 2, o 33 (.call 312 [(t 30), (t 31), (t 32)])])
 .ret)
 .skip))
 (.seq (.seq (.reg [mV 34 8, o 35 (.not (t 34))])
 (.cond (t 35) (.seq (.reg [mV 36 0, mV 37 1, mV 38 2, o 39 (.call 313 [(t 36), (t 37), (t 38)])])
 (.reg [mV 40 3, o 41 (.bin .sub (t 40) (k 1)), mV 3 41]))
 .skip))
 (.jn 30 q33_J30_b))))))
def Ym2 : Sg := ⟨[0, 1, 2, 3, 8, 9], [.ref 0, .i .i64, .i .i64, .i .i64, .b, .b], [.sq (cs [.s])], Zc12⟩
def Ym3 : List Out1 := [⟨.ret, ⟨[], [], [.sq (cs [.s])], Zc10⟩⟩]
def Ym4 (lo : Lo) (rec : Int × Int × Int × Zt2 -> Option (Zt2)) : Zp42 -> Option (Zp42 ⊕ ((Zt2))) := fun x => match x with
  | (a1, b2, limit3, wasBalanced8, wasPartitioned9, data0) => bif (decide ((IntKind.wrap .i64 (b2 - a1)) <= (12 : Int))) then (Option.bind (q25 lo a1 b2 data0) fun y104 => chk (y104.length = data0.length) (some (.inr y104))) else (bif (decide (limit3 = (0 : Int))) then (Option.bind (q26 lo a1 b2 data0) fun y105 => chk (y105.length = data0.length) (some (.inr y105))) else (bif (!wasBalanced8) then (Option.bind (q27 lo a1 b2 data0) fun y106 => chk (y106.length = data0.length) (Option.bind (Yel lo rec (a1, b2, (IntKind.wrap .i64 (limit3 - (1 : Int))), wasBalanced8, wasPartitioned9, (IntKind.wrap .i64 (b2 - a1)), y106)) fun y140 => alt2 y140 (fun y141 => some (.inr y141)) (fun y142 => alt2 y142 (fun y143 => some (.inl (y143.1, y143.2.1, y143.2.2.1, y143.2.2.2.1, y143.2.2.2.2.1, y143.2.2.2.2.2))) (fun y144 => some (.inl (y144.1, y144.2.1, y144.2.2.1, y144.2.2.2.1, y144.2.2.2.2.1, y144.2.2.2.2.2)))))) else (Option.bind (Yel lo rec (a1, b2, limit3, wasBalanced8, wasPartitioned9, (IntKind.wrap .i64 (b2 - a1)), data0)) fun y145 => alt2 y145 (fun y146 => some (.inr y146)) (fun y147 => alt2 y147 (fun y148 => some (.inl (y148.1, y148.2.1, y148.2.2.1, y148.2.2.2.1, y148.2.2.2.2.1, y148.2.2.2.2.2))) (fun y149 => some (.inl (y149.1, y149.2.1, y149.2.2.1, y149.2.2.2.1, y149.2.2.2.2.1, y149.2.2.2.2.2)))))))
theorem Yuk (lo : Lo) (rec : Int × Int × Int × Zt2 -> Option (Zt2)) : ∀ x : Zp42, YwY (⟨pf, YaC rec :: fs33 lo, [Ybs lo rec, YaV lo rec, YaH lo rec], 1⟩ : Tabs) [] Ym2 Ym3 q33_L1_b x = Ym4 lo rec x := fun x => by kernel_rfl
def Ym5 (lo : Lo) (rec : Int × Int × Int × Zt2 -> Option (Zt2)) : Zp42 -> Option ((Zt2)) := lo.run (Ym4 lo rec)
def YcZ (lo : Lo) (rec : Int × Int × Int × Zt2 -> Option (Zt2)) : LpE := ⟨1, [], Ym2, Ym3, Ym5 lo rec⟩
theorem Yul {lo : Lo} (hlo : LoOK lo) (rec : Int × Int × Int × Zt2 -> Option (Zt2)) (C : Ctx) (hT : TOK (⟨pf, YaC rec :: fs33 lo, [Ybs lo rec, YaV lo rec, YaH lo rec], 1⟩ : Tabs) C) {Fr : Nat -> Prop} {H0 : Heap} (hf : FrOK Fr H0) : YwI Fr H0 1 C (.loop q33_L1_b.er) (YcZ lo rec) :=
  Yal hT hf (show LsOK Fr H0 C (⟨pf, YaC rec :: fs33 lo, [Ybs lo rec, YaV lo rec, YaH lo rec], 1⟩ : Tabs) q33_L1_b from ⟨tv, ⟨⟨tv, ⟨⟨tv, tv⟩, tv⟩⟩, ⟨⟨tv, ⟨⟨tv, tv⟩, tv⟩⟩, ⟨⟨tv, ⟨⟨tv, tv⟩, tv⟩⟩, (YwW (by kernel_rfl) (Yuj hlo rec C (Yai hT) hf))⟩⟩⟩⟩) (fun x y h => Yam (Yuk lo rec) (hlo _ _ _ h))
def Ym6 (lo : Lo) (rec : Int × Int × Int × Zt2 -> Option (Zt2)) (a1 : Int) (b2 : Int) (limit3 : Int) (data0 : List ByteArray) : Option (Zt2) :=
  Option.bind (Ym5 lo rec (a1, b2, limit3, true, true, data0)) fun y150 => some y150
def Yb9 (lo : Lo) : Nat -> Int × Int × Int × Zt2 -> Option (Zt2)
  | 0, _ => none
  | n + 1, x => Ym6 lo (Yb9 lo n) x.1 x.2.1 x.2.2.1 x.2.2.2
def q33 (lo : Lo) (a1 : Int) (b2 : Int) (limit3 : Int) (data0 : List ByteArray) : Option (Zt2) := lo.run (fixS (Yb9 lo)) (0, (a1, b2, limit3, data0))
def Ym7 : VCode :=
 (.seq (.reg [o 8 (.mv (kb true))])
 (.seq (.reg [o 9 (.mv (kb true))])
 (.blk 0 (.loop 1 q33_L1_b))))
def Yhm : VFn := ⟨true, 134, [], Ym7⟩
def Yhn (lo : Lo) : FnE := ⟨301, false, ⟨[0, 1, 2, 3], [.ref 0, .i .i64, .i .i64, .i .i64], [.sq (cs [.s])], Zc15⟩, .tp [], [.sq (cs [.s])], Zc10, (fun x => q33 lo x.1 x.2.1 x.2.2.1 x.2.2.2 : Int × Int × Int × Zt2 -> Option (Zt2))⟩
theorem Yum (lo : Lo) (rec : Int × Int × Int × Zt2 -> Option (Zt2)) : ∀ x : Int × Int × Int × Zt2, evI (⟨pf, YaC rec :: fs33 lo, [YcZ lo rec, Ybs lo rec, YaV lo rec, YaH lo rec], 1⟩ : Tabs) Yhm ⟨[0, 1, 2, 3], [.ref 0, .i .i64, .i .i64, .i .i64], [.sq (cs [.s])], Zc15⟩ (.tp []) [.sq (cs [.s])] Zc10 x = Ym6 lo rec x.1 x.2.1 x.2.2.1 x.2.2.2 := fun x => by kernel_rfl
theorem Yun {P : Program} {fm : FM} {lo : Lo} (hlo : LoOK lo) (hS : YwH P fm ⟨pf, fs33 lo, [], 0⟩) (hm : P.follows .mixedOrders = true) (htie : Ti P fm 301 Yhm) : YwH P fm ⟨pf, Yhn lo :: fs33 lo, [], 0⟩ :=
  Yr2 hS hm (Yhn lo) rfl (Yb9 lo) (fun n => (fun (rec : Int × Int × Int × Zt2 -> Option (Zt2)) => ([YcZ lo rec, Ybs lo rec, YaV lo rec, YaH lo rec] : List LpE)) (Yb9 lo n)) Yhm htie (by decide) rfl (Nat.le_of_ble_eq_true (by kernel_rfl)) (fun _ => rfl) (fun x y h => Yr4 (hlo _ _ _ h))
    (fun n C hT Fr H0 hf => (fun (rec : Int × Int × Int × Zt2 -> Option (Zt2)) (hT : TOK (⟨pf, YaC rec :: fs33 lo, [YcZ lo rec, Ybs lo rec, YaV lo rec, YaH lo rec], 1⟩ : Tabs) C) => show LsOK Fr H0 C (⟨pf, YaC rec :: fs33 lo, [YcZ lo rec, Ybs lo rec, YaV lo rec, YaH lo rec], 1⟩ : Tabs) Ym7 from ⟨tv, ⟨tv, (YwW (by kernel_rfl) (Yul hlo rec C (Yai hT) hf))⟩⟩) (Yb9 lo n) hT) (fun n x y h => (Yum lo (Yb9 lo n) x).trans h)
def fs34 (lo : Lo) : List FnE := Yhn lo :: fs33 lo
def q34 (lo : Lo) (x0 : List ByteArray) : Option (Zt2) :=
  Option.bind (q22 lo (IntKind.wrap .u64 (x0.length : Int))) fun y98 => Option.bind (q33 lo (0 : Int) (x0.length : Int) y98 x0) fun y151 => chk (y151.length = x0.length) (some y151)
def Ym8 : VCode :=
 (.seq (.reg [mV 3 0, lN 4 3, mV 2 4])
 (.reg [mV 5 0, mV 6 2, mV 7 2, o 8 (.conv .u64 (t 7)), o 9 (.call 163 [(t 8)]), o 10 (.call 301 [(t 5), (k 0), (t 6), (t 9)])]))
def Yho : VFn := ⟨true, 11, [], Ym8⟩
def Yhp (lo : Lo) : FnE := ⟨271, false, ⟨[0], [.ref 0], [.sq (cs [.s])], Zc10⟩, .tp [], [.sq (cs [.s])], Zc10, (fun x => q34 lo x : Zt2 -> Option (Zt2))⟩
theorem Yuo (lo : Lo) : ∀ x : Zt2, evI (⟨pf, fs34 lo, [], 1⟩ : Tabs) Yho ⟨[0], [.ref 0], [.sq (cs [.s])], Zc10⟩ (.tp []) [.sq (cs [.s])] Zc10 x = q34 lo x := fun x => by kernel_rfl
theorem Yup {P : Program} {fm : FM} {lo : Lo} (hlo : LoOK lo) (hS : YwH P fm ⟨pf, fs34 lo, [], 0⟩) (hm : P.follows .mixedOrders = true) (htie : Ti P fm 271 Yho) : YwH P fm ⟨pf, Yhp lo :: fs34 lo, [], 0⟩ :=
  Ybd hS hm [] (Yhp lo) rfl Yho htie (by decide) rfl (Nat.le_of_ble_eq_true (by kernel_rfl)) (fun C hT Fr H0 hf => show LsOK Fr H0 C (⟨pf, fs34 lo, [], 1⟩ : Tabs) Ym8 from ⟨tv, tv⟩) (fun x y h => (Yuo lo x).trans h)
def fs35 (lo : Lo) : List FnE := Yhp lo :: fs34 lo
def q35 (lo : Lo) (l : List ByteArray) : Option Zt2 := Yyn (q34 lo) l
def Ym9 (lo : Lo) : FnE := vsortE 271 (.cons (.s) .nil) (q35 lo)
theorem Yuq {P : Program} {fm : FM} {lo : Lo} (hlo : LoOK lo) (hS : YwH P fm ⟨pf, fs35 lo, [], 0⟩) (hm : P.follows .mixedOrders = true) (hG : ∀ f, fm f = 271 -> YwM P f = true /\ ∃ ρ : Go.Shelf.Ren, Go.Proofs.Lays.n190 P ρ /\ ρ.f 190 = f) : YwH P fm ⟨pf, Ym9 lo :: fs35 lo, [], 0⟩ :=
  YsD hS rfl (F0 := q34 lo) (Yz2 ..) hG
def fs36 (lo : Lo) : List FnE := Ym9 lo :: fs35 lo
end Go.Abs.G03
namespace Go.Abs.G03
open Go Go.Abs
set_option maxRecDepth 100000
set_option maxHeartbeats 1000000
def q36_L42_b : VCode :=
 (.seq (.reg [o 46 (.bin .lss (t 45) (t 44))])
 (.seq (.cond (t 46) .skip
 (.exit 0))
 (.seq (.blk 1 (.seq (.reg [o 47 (.iad 1 (t 43) (t 45)), lD 48 47, mV 11 48])
 (.seq (.reg [fD 49 1 8, lD 50 49, mV 51 11, o 52 (.call 173 [(t 50), (t 51)]), mV 12 52])
 (.seq (.seq (.reg [mV 53 12, o 54 (.bin .lss (t 53) (k 0))])
 (.cond (t 54) (.seq (.reg [fD 55 1 8, lD 56 55, lN 57 56, mV 12 57])
 (.reg [fD 58 1 8, lD 59 58, mV 60 11, o 61 (.bsl (cs [.s]) 1 [(0, (t 60))]), o 62 (.app (cs [.s]) 0 (t 59) (t 61)), fD 63 1 8, on (.store 1 (t 63) (t 62))]))
 .skip))
 (.reg [mV 64 9, mV 65 12, o 66 (.bsl (cs [I]) 1 [(0, (t 65))]), o 67 (.app (cs [I]) 0 (t 64) (t 66)), mV 9 67])))))
 (.reg [o 68 (.bin .add (t 45) (k 1)), mV 45 68]))))
def Yna : Sg := ⟨[2, 3, 4, 8, 9, 43, 44, 45], [.ptr 0 0 0, .ptr 1 0 0, .ptr 2 0 0, .ptr 3 0 0, .ref 4, .l (cs [.s]), .i .i64, .i .i64], [.st [.s, .l (cs [.s]), .l Zc1], .st [.s, .l (cs [.s]), .l Zc1], .st [.s, .l (cs [.s]), .l Zc1], .st [.s, .ref 5, .ref 6], .sq (cs [I]), .sq (cs [.s]), .sq Zc1], Zc18⟩
def Ynb : List Out1 := [⟨.exit 0, ⟨[2, 3, 4, 8, 9], [.ptr 0 0 0, .ptr 1 0 0, .ptr 2 0 0, .ptr 3 0 0, .ref 4], [.st [.s, .l (cs [.s]), .l Zc1], .st [.s, .l (cs [.s]), .l Zc1], .st [.s, .l (cs [.s]), .l Zc1], .st [.s, .ref 5, .ref 6], .sq (cs [I]), .sq (cs [.s]), .sq Zc1], (cs [.s, .l (cs [.s]), .l Zc1, .s, .l (cs [.s]), .l Zc1, .s, .l (cs [.s]), .l Zc1, .s, .l (cs [I]), .l (cs [.s]), .l Zc1])⟩⟩]
def Yem (lo : Lo) : Zp23 -> Option (Zp23 ⊕ ((ByteArray × Zt2 × Zt3 × ByteArray × Zt2 × Zt3 × ByteArray × Zt2 × Zt3 × ByteArray × (List Int) × Zt2 × Zt3))) := fun x => match x with
  | (v43, v44, v45, a2_0, a2_1, a2_2, b3_0, b3_1, b3_2, v4_0, v4_1, v4_2, out8, place9, h5, h6) => bif (decide (v45 < v44)) then (chk (0 <= v45 /\ v45 < (v43.length : Int)) (Option.bind (q4 lo h5 (v43.getD v45.toNat (ByteArray.mk #[]))) fun y80 => bif (decide (y80 < (0 : Int))) then (chk (h5.length + ([(v43.getD v45.toNat (ByteArray.mk #[]))]).length <= maxEl) (chk (place9.length + ([(h5.length : Int)]).length <= maxEl) (some (.inl (v43, v44, (IntKind.wrap .i64 (v45 + (1 : Int))), a2_0, a2_1, a2_2, b3_0, b3_1, b3_2, v4_0, v4_1, v4_2, out8, (place9 ++ ([(h5.length : Int)])), (h5 ++ ([(v43.getD v45.toNat (ByteArray.mk #[]))])), h6))))) else (chk (place9.length + [y80].length <= maxEl) (some (.inl (v43, v44, (IntKind.wrap .i64 (v45 + (1 : Int))), a2_0, a2_1, a2_2, b3_0, b3_1, b3_2, v4_0, v4_1, v4_2, out8, (place9 ++ [y80]), h5, h6)))))) else (some (.inr (a2_0, a2_1, a2_2, b3_0, b3_1, b3_2, v4_0, v4_1, v4_2, out8, place9, h5, h6)))
theorem Yur (lo : Lo) : ∀ x : Zp23, YwY (⟨pf, fs36 lo, [], 0⟩ : Tabs) [(8, some 2, false), (9, none, false)] Yna Ynb q36_L42_b x = Yem lo x := fun x => by kernel_rfl
def Yen (lo : Lo) : Zp23 -> Option ((ByteArray × Zt2 × Zt3 × ByteArray × Zt2 × Zt3 × ByteArray × Zt2 × Zt3 × ByteArray × (List Int) × Zt2 × Zt3)) := lo.run (Yem lo)
def YaD (lo : Lo) : LpE := ⟨42, [(8, some 2, false), (9, none, false)], Yna, Ynb, Yen lo⟩
theorem Yus {lo : Lo} (hlo : LoOK lo) (C : Ctx) (hT : TOK (⟨pf, fs36 lo, [], 0⟩ : Tabs) C) : YwI (fun _ => False) [] 0 C (.loop q36_L42_b.er) (YaD lo) :=
  Yal hT frNo (show LK C _ q36_L42_b from ⟨tv, ⟨⟨tv, tv⟩, ⟨⟨tv, ⟨tv, ⟨⟨tv, ⟨⟨tv, tv⟩, tv⟩⟩, tv⟩⟩⟩, tv⟩⟩⟩) (fun x y h => Yam (Yur lo) (hlo _ _ _ h))
def q36_L21_b : VCode :=
 (.seq (.reg [o 86 (.bin .lss (t 85) (t 84))])
 (.seq (.cond (t 86) .skip
 (.exit 4))
 (.seq (.blk 5 (.seq (.reg [o 87 (.iad 2 (t 83) (t 85)), o 88 (.load true 2 (t 87)), o 17 (.alloc [.i .i64 0, .e Zc4]), on (.store 2 (t 17) (t 88))])
 (.seq (.fz [9] (.reg [fD 90 1 15, lD 91 90, fD 92 1 17, lD 93 92, mV 94 9, fD 95 1 8, lD 96 95, lN 97 96, o 98 (.call 270 [(t 91), (t 93), (t 94), (t 97)]), mV 89 98, eX 99 89 0, eX 100 89 1, mV 18 99, mV 19 100]))
 (.seq (.seq (.reg [mV 101 19, o 102 (.not (t 101))])
 (.cond (t 102) (.exit 5)
 .skip))
 (.seq (.reg [mV 103 13, mV 104 18, o 105 (.call 261 [(t 104)]), mV 106 18, on (.mput none (.l Zc4) (cs []) false (t 103) (t 105) (t 106))])
 (.seq (.reg [mV 107 13, o 108 (.mlen (t 107)), o 109 (.bin .gtr (t 108) (k 1000))])
 (.cond (t 109) (.seq (.reg [o 110 (.build [.s (⟨#[]⟩), .e (cs [.s]), .e Zc1] []), on (.store 3 (t 4) (t 110)), o 5 (.mv (k 3))])
 (.fz [4, 5] .ret))
 .skip)))))))
 (.reg [o 111 (.bin .add (t 85) (k 1)), mV 85 111]))))
def Ync : Sg := ⟨[3, 4, 8, 9, 13, 15, 76, 77, 78, 83, 84, 85], [.ptr 0 0 0, .ptr 1 0 0, .ptr 2 0 0, .l (cs [I]), .np 3, .ptr 4 0 0, .l Zc1, .i .i64, .i .i64, .l Zc1, .i .i64, .i .i64], [.st [.s, .l (cs [.s]), .l Zc1], .st [.s, .l (cs [.s]), .l Zc1], .st [.s, .ref 5, .ref 6], .st [.i .i64, .l Zc13, .b], .st [.i .i64, .l Zc4], .sq (cs [.s]), .sq Zc1], Zc17⟩
def Ynd : List Out1 := [⟨.ret, ⟨[4, 5], [.ptr 0 0 0, .i .i64], [.st [.s, .l (cs [.s]), .l Zc1]], (cs [I, .s, .l (cs [.s]), .l Zc1])⟩⟩, ⟨.exit 4, ⟨[3, 4, 8, 9, 13, 76, 77, 78], [.ptr 0 0 0, .ptr 1 0 0, .ptr 2 0 0, .l (cs [I]), .np 3, .l Zc1, .i .i64, .i .i64], [.st [.s, .l (cs [.s]), .l Zc1], .st [.s, .l (cs [.s]), .l Zc1], .st [.s, .ref 4, .ref 5], .st [.i .i64, .l Zc13, .b], .sq (cs [.s]), .sq Zc1], Zc8⟩⟩]
def Yeo (lo : Lo) : Zp22 -> Option (Zp22 ⊕ ((Int × ByteArray × Zt2 × Zt3) ⊕ Zp24)) := fun x => match x with
  | (place9, v76, v77, v78, v83, v84, v85, b3_0, b3_1, b3_2, v4_0, v4_1, v4_2, out8, h3_0, h3_1, h3_2, r15_0, r15_1, h5, h6) => bif (decide (v85 < v84)) then (chk (0 <= v85 /\ v85 < (v83.length : Int)) (Option.bind (q20 lo r15_1 ((v83.getD v85.toNat ((0 : Int), [])).2) place9 (h5.length : Int)) fun y82 => bif (!y82.2) then (some (.inl (place9, v76, v77, v78, v83, v84, (IntKind.wrap .i64 (v85 + (1 : Int))), b3_0, b3_1, b3_2, v4_0, v4_1, v4_2, out8, h3_0, h3_1, h3_2, r15_0, r15_1, h5, h6))) else (Option.bind (q17 lo y82.1) fun y83 => bif (decide ((1000 : Int) < ((mpt eqS h3_0 y83 y82.1 h3_1).length : Int))) then (some (.inr (.inl ((3 : Int), (ByteArray.mk #[]), ([] : List ByteArray), ([] : List (Int × Zt0)))))) else (some (.inl (place9, v76, v77, v78, v83, v84, (IntKind.wrap .i64 (v85 + (1 : Int))), b3_0, b3_1, b3_2, v4_0, v4_1, v4_2, out8, (mck eqS h3_0 y83 h3_1), (mpt eqS h3_0 y83 y82.1 h3_1), h3_2, r15_0, r15_1, h5, h6)))))) else (some (.inr (.inr (place9, v76, v77, v78, b3_0, b3_1, b3_2, v4_0, v4_1, v4_2, out8, h3_0, h3_1, h3_2, h5, h6))))
theorem Yut (lo : Lo) : ∀ x : Zp22, YwY (⟨pf, fs36 lo, [YaD lo], 0⟩ : Tabs) [] Ync Ynd q36_L21_b x = Yeo lo x := fun x => by kernel_rfl
def Yep (lo : Lo) : Zp22 -> Option ((Int × ByteArray × Zt2 × Zt3) ⊕ Zp24) := lo.run (Yeo lo)
def YaK (lo : Lo) : LpE := ⟨21, [], Ync, Ynd, Yep lo⟩
theorem Yuu {lo : Lo} (hlo : LoOK lo) (C : Ctx) (hT : TOK (⟨pf, fs36 lo, [YaD lo], 0⟩ : Tabs) C) : YwI (fun _ => False) [] 0 C (.loop q36_L21_b.er) (YaK lo) :=
  Yal hT frNo (show LK C _ q36_L21_b from ⟨tv, ⟨⟨tv, tv⟩, ⟨⟨tv, ⟨tv, ⟨⟨tv, ⟨tv, tv⟩⟩, ⟨tv, ⟨tv, ⟨⟨tv, tv⟩, tv⟩⟩⟩⟩⟩⟩, tv⟩⟩⟩) (fun x y h => Yam (Yut lo) (hlo _ _ _ h))
def q36_L19_b : VCode :=
 (.seq (.reg [o 79 (.bin .lss (t 78) (t 77))])
 (.seq (.cond (t 79) .skip
 (.exit 2))
 (.seq (.blk 3 (.seq (.reg [o 80 (.iad 2 (t 76) (t 78)), o 81 (.load true 2 (t 80)), o 15 (.alloc [.i .i64 0, .e Zc4]), on (.store 2 (t 15) (t 81))])
 (.seq (.reg [fD 82 2 3, lD 83 82, lN 84 83, o 85 (.mv (k 0))])
 (.blk 4 (.fz [9] (.loop 21 q36_L21_b))))))
 (.reg [o 112 (.bin .add (t 78) (k 1)), mV 78 112]))))
def Yne : Sg := ⟨[3, 4, 8, 9, 13, 76, 77, 78], [.ptr 0 0 0, .ptr 1 0 0, .ptr 2 0 0, .l (cs [I]), .np 3, .l Zc1, .i .i64, .i .i64], [.st [.s, .l (cs [.s]), .l Zc1], .st [.s, .l (cs [.s]), .l Zc1], .st [.s, .ref 4, .ref 5], .st [.i .i64, .l Zc13, .b], .sq (cs [.s]), .sq Zc1], Zc8⟩
def Ynf : List Out1 := [⟨.ret, ⟨[4, 5], [.ptr 0 0 0, .i .i64], [.st [.s, .l (cs [.s]), .l Zc1]], (cs [I, .s, .l (cs [.s]), .l Zc1])⟩⟩, ⟨.exit 2, ⟨[4, 8, 13], [.ptr 0 0 0, .ptr 1 0 0, .np 2], [.st [.s, .l (cs [.s]), .l Zc1], .st [.s, .ref 3, .ref 4], .st [.i .i64, .l Zc13, .b], .sq (cs [.s]), .sq Zc1], (cs [.s, .l (cs [.s]), .l Zc1, .s, I, .l Zc13, .b, .l (cs [.s]), .l Zc1])⟩⟩]
def Yeq (lo : Lo) : Zp24 -> Option (Zp24 ⊕ ((Int × ByteArray × Zt2 × Zt3) ⊕ (ByteArray × Zt2 × Zt3 × ByteArray × Int × Zt5 × Bool × Zt2 × Zt3))) := fun x => match x with
  | (place9, v76, v77, v78, b3_0, b3_1, b3_2, v4_0, v4_1, v4_2, out8, h3_0, h3_1, h3_2, h4, h5) => bif (decide (v78 < v77)) then (chk (0 <= v78 /\ v78 < (v76.length : Int)) (Option.bind (Yep lo (place9, v76, v77, v78, b3_2, (b3_2.length : Int), (0 : Int), b3_0, b3_1, b3_2, v4_0, v4_1, v4_2, out8, h3_0, h3_1, h3_2, (v76.getD v78.toNat ((0 : Int), [])).1, (v76.getD v78.toNat ((0 : Int), [])).2, h4, h5)) fun y84 => alt2 y84 (fun y85 => some (.inr (.inl (y85.1, y85.2.1, y85.2.2.1, y85.2.2.2)))) (fun y86 => some (.inl (y86.1, y86.2.1, y86.2.2.1, (IntKind.wrap .i64 (y86.2.2.2.1 + (1 : Int))), y86.2.2.2.2.1, y86.2.2.2.2.2.1, y86.2.2.2.2.2.2.1, y86.2.2.2.2.2.2.2.1, y86.2.2.2.2.2.2.2.2.1, y86.2.2.2.2.2.2.2.2.2.1, y86.2.2.2.2.2.2.2.2.2.2.1, y86.2.2.2.2.2.2.2.2.2.2.2.1, y86.2.2.2.2.2.2.2.2.2.2.2.2.1, y86.2.2.2.2.2.2.2.2.2.2.2.2.2.1, y86.2.2.2.2.2.2.2.2.2.2.2.2.2.2.1, y86.2.2.2.2.2.2.2.2.2.2.2.2.2.2.2))))) else (some (.inr (.inr (v4_0, v4_1, v4_2, out8, h3_0, h3_1, h3_2, h4, h5))))
theorem Yuv (lo : Lo) : ∀ x : Zp24, YwY (⟨pf, fs36 lo, [YaK lo, YaD lo], 0⟩ : Tabs) [] Yne Ynf q36_L19_b x = Yeq lo x := fun x => by kernel_rfl
def Yer (lo : Lo) : Zp24 -> Option ((Int × ByteArray × Zt2 × Zt3) ⊕ (ByteArray × Zt2 × Zt3 × ByteArray × Int × Zt5 × Bool × Zt2 × Zt3)) := lo.run (Yeq lo)
def YaW (lo : Lo) : LpE := ⟨19, [], Yne, Ynf, Yer lo⟩
theorem Yuw {lo : Lo} (hlo : LoOK lo) (C : Ctx) (hT : TOK (⟨pf, fs36 lo, [YaK lo, YaD lo], 0⟩ : Tabs) C) : YwI (fun _ => False) [] 0 C (.loop q36_L19_b.er) (YaW lo) :=
  Yal hT frNo (show LK C _ q36_L19_b from ⟨tv, ⟨⟨tv, tv⟩, ⟨⟨tv, ⟨tv, (YwW (by kernel_rfl) (Yuu hlo C (Yai hT)))⟩⟩, tv⟩⟩⟩) (fun x y h => Yam (Yuv lo) (hlo _ _ _ h))
def q36_L3_b : VCode :=
 (.seq (.reg [o 128 (.bin .lss (t 127) (t 126))])
 (.seq (.cond (t 128) .skip
 (.exit 8))
 (.seq (.blk 9 (.seq (.reg [mV 129 127, o 130 (.iad 1 (t 125) (t 127)), lD 131 130, mV 22 129, mV 23 131])
 (.reg [fD 132 2 8, lD 133 132, mV 134 22, o 135 (.bin .add (t 134) (k 1)), mV 136 13, mV 137 23, o 138 (.mget none (.l Zc4) (cs []) false false (t 136) (t 137)), o 139 (.build [.i .i64 0, .e Zc4] [(0, 1, (t 135)), (1, 1, (t 138))]), o 140 (.bsl Zc1 1 [(0, (t 139))]), o 141 (.app Zc1 0 (t 133) (t 140)), fD 142 2 8, on (.store 1 (t 142) (t 141))])))
 (.reg [o 143 (.bin .add (t 127) (k 1)), mV 127 143]))))
def Yng : Sg := ⟨[4, 8, 13, 125, 126, 127], [.ptr 0 0 0, .ptr 1 0 0, .np 2, .ref 3, .i .i64, .i .i64], [.st [.s, .l (cs [.s]), .l Zc1], .st [.s, .ref 4, .ref 5], .st [.i .i64, .l Zc13, .b], .sq (cs [.s]), .sq (cs [.s]), .sq Zc1], (cs [I, I, .s, .l (cs [.s]), .l Zc1, .s, I, .l Zc13, .b, .l (cs [.s]), .l (cs [.s]), .l Zc1])⟩
def Ynh : List Out1 := [⟨.exit 8, ⟨[4, 8], [.ptr 0 0 0, .ptr 1 0 0], [.st [.s, .l (cs [.s]), .l Zc1], .st [.s, .ref 2, .ref 3], .sq (cs [.s]), .sq Zc1], Zc6⟩⟩]
def Yes (lo : Lo) : Zp30 -> Option (Zp30 ⊕ (Zp39)) := fun x => match x with
  | (v126, v127, v4_0, v4_1, v4_2, out8, h2_0, h2_1, h2_2, v125, h4, h5) => bif (decide (v127 < v126)) then (chk (0 <= v127 /\ v127 < (v125.length : Int)) (chk (h5.length + ([((IntKind.wrap .i64 (v127 + (1 : Int))), (mgt eqS (v125.getD v127.toNat (ByteArray.mk #[])) h2_1 []))]).length <= maxEl) (some (.inl (v126, (IntKind.wrap .i64 (v127 + (1 : Int))), v4_0, v4_1, v4_2, out8, h2_0, h2_1, h2_2, v125, h4, (h5 ++ ([((IntKind.wrap .i64 (v127 + (1 : Int))), (mgt eqS (v125.getD v127.toNat (ByteArray.mk #[])) h2_1 []))]))))))) else (some (.inr (v4_0, v4_1, v4_2, out8, h4, h5)))
theorem Yux (lo : Lo) : ∀ x : Zp30, YwY (⟨pf, fs36 lo, [YaW lo, YaK lo, YaD lo], 0⟩ : Tabs) [] Yng Ynh q36_L3_b x = Yes lo x := fun x => by kernel_rfl
def Yhq (lo : Lo) : Zp30 -> Option (Zp39) := lo.run (Yes lo)
def Ybe (lo : Lo) : LpE := ⟨3, [], Yng, Ynh, Yhq lo⟩
theorem Yuy {lo : Lo} (hlo : LoOK lo) (C : Ctx) (hT : TOK (⟨pf, fs36 lo, [YaW lo, YaK lo, YaD lo], 0⟩ : Tabs) C) : YwI (fun _ => False) [] 0 C (.loop q36_L3_b.er) (Ybe lo) :=
  Yal hT frNo (show LK C _ q36_L3_b from ⟨tv, ⟨⟨tv, tv⟩, ⟨⟨tv, tv⟩, tv⟩⟩⟩) (fun x y h => Yam (Yux lo) (hlo _ _ _ h))
def Yet : VCode :=
 (.reg [mV 113 13, o 114 (.mrng (t 113))])
def Yc0 : VCode :=
 (.blk 7 (.seq (.reg [o 117 (.ment none (.l Zc4) (cs []) false (t 114)), eX 118 117 0, mV 21 118])
 (.reg [mV 119 20, mV 120 21, o 121 (.bsl (cs [.s]) 1 [(0, (t 120))]), o 122 (.app (cs [.s]) 0 (t 119) (t 121)), mV 20 122])))
def Yeu : VCode :=
 (.seq (.reg [mV 123 20, o 124 (.call 271 [(t 123)])])
 (.seq (.seq (.reg [mV 125 20, lN 126 125, o 127 (.mv (k 0))])
 (.blk 8 (.loop 3 q36_L3_b)))
 (.seq (.reg [o 144 (.load true 3 (t 8)), on (.store 3 (t 4) (t 144)), o 5 (.mv (k 0))])
 (.fz [4, 5] .ret))))
def q36_J17_b : VCode := .seq (.seq Yet (.blk 6 (.loop 11 (.seq (.reg [o 115 (.mnxt (t 114)), eX 116 115 0]) (Yya 116 6 Yc0))))) Yeu
def Yhr : Sg := ⟨[4, 8, 13, 20], [.ptr 0 0 0, .ptr 1 0 0, .np 2, .ref 3], [.st [.s, .l (cs [.s]), .l Zc1], .st [.s, .ref 4, .ref 5], .st [.i .i64, .l Zc13, .b], .sq (cs [.s]), .sq (cs [.s]), .sq Zc1], (cs [.s, .l (cs [.s]), .l Zc1, .s, I, .l Zc13, .b, .l (cs [.s]), .l (cs [.s]), .l Zc1])⟩
def Yc1 : Sg := ⟨[4, 8, 13, 20, 114], [.ptr 0 0 0, .ptr 1 0 0, .np 2, .ref 3, .np 4], [.st [.s, .l (cs [.s]), .l Zc1], .st [.s, .ref 5, .ref 6], .st [.i .i64, .l Zc13, .b], .sq (cs [.s]), .st [.np 2, .i .i64, .i .i64, .l (cs [I]), .b], .sq (cs [.s]), .sq Zc1], (cs [.s, .l (cs [.s]), .l Zc1, .s, I, .l Zc13, .b, .l (cs [.s]), I, I, .l (cs [I]), .b, .l (cs [.s]), .l Zc1])⟩
def Yhs : List Out1 := [⟨.ret, ⟨[4, 5], [.ptr 0 0 0, .i .i64], [.st [.s, .l (cs [.s]), .l Zc1]], (cs [I, .s, .l (cs [.s]), .l Zc1])⟩⟩]
def Yni (lo : Lo) : Zp33 -> Option (ByteArray × Zt2 × Zt3 × ByteArray × Int × Zt5 × Bool × Zt2 × Int × Int × (List Int) × Bool × Zt2 × Zt3) := fun x => match x with
  | (v4_0, v4_1, v4_2, out8, rows13_0, rows13_1, rows13_2, keys20, h4, h5) => some (v4_0, v4_1, v4_2, out8, rows13_0, rows13_1, rows13_2, keys20, rows13_0, rows13_0, ([] : List Int), false, h4, h5)
def Yev : Zp26 -> ItP := fun x => match x with
  | (v4_0, v4_1, v4_2, out8, rows13_0, rows13_1, rows13_2, keys20, v114_0, v114_1, v114_2, v114_3, h5, h6) => (rows13_1.map (fun e => e.1), v114_2, rows13_0, v114_0, v114_1)
def Yc2 (lo : Lo) : Zp26 -> Int -> Option (ByteArray × Zt2 × Zt3 × ByteArray × Int × Zt5 × Bool × Zt2 × Int × Int × (List Int) × Bool × Zt2 × Zt3) := fun x b => match x with
  | (v4_0, v4_1, v4_2, out8, rows13_0, rows13_1, rows13_2, keys20, v114_0, v114_1, v114_2, v114_3, h5, h6) => chk (v114_1 = rows13_0) (Option.bind (addI v114_2 b).getLast? fun y91 => Option.bind (mbf y91 rows13_1) fun y92 => chk (keys20.length + [y92.1].length <= maxEl) (some (v4_0, v4_1, v4_2, out8, rows13_0, rows13_1, rows13_2, (keys20 ++ [y92.1]), v114_0, v114_1, (addI v114_2 b), v114_3, h5, h6)))
def Yca (lo : Lo) : Zp26 -> Option ((Int × ByteArray × Zt2 × Zt3)) := fun x => match x with
  | (v4_0, v4_1, v4_2, out8, rows13_0, rows13_1, rows13_2, keys20, v114_0, v114_1, v114_2, v114_3, h5, h6) => Option.bind (q35 lo keys20) fun y152 => chk (y152.length = keys20.length) (Option.bind (Yhq lo ((y152.length : Int), (0 : Int), v4_0, v4_1, v4_2, out8, rows13_0, rows13_1, rows13_2, y152, h5, h6)) fun y153 => some ((0 : Int), y153.2.2.2.1, y153.2.2.2.2.1, y153.2.2.2.2.2))
noncomputable def Yew (lo : Lo) : Zp33 -> Option ((Int × ByteArray × Zt2 × Zt3)) := fun x => Option.bind (Yni lo x) (rngF Yev (Yc2 lo) (Yca lo))
theorem Yuz (lo : Lo) : ∀ x : Zp33, preR (⟨pf, fs36 lo, [Ybe lo, YaW lo, YaK lo, YaD lo], 0⟩ : Tabs) Yet [(20, none, false)] Yhr Yc1 x = Yni lo x := fun x => by kernel_rfl
theorem YuA : ∀ x : Zp26, itR Yc1 114 x = some (Yev x) := fun x => by kernel_rfl
theorem YuB (lo : Lo) : ∀ (x : (ByteArray × Zt2 × Zt3 × ByteArray × Int × Zt5 × Bool × Zt2 × Int × Int × (List Int) × Bool × Zt2 × Zt3)) (b : Int), Yzn (⟨pf, fs36 lo, [Ybe lo, YaW lo, YaK lo, YaD lo], 0⟩ : Tabs) [(20, none, false)] Yc1 114 115 116 6 Yc0 x b = Yc2 lo x b := fun x b => by kernel_rfl
theorem YuC (lo : Lo) : ∀ x : Zp26, endR (⟨pf, fs36 lo, [Ybe lo, YaW lo, YaK lo, YaD lo], 0⟩ : Tabs) Yc1 115 116 6 Yc0 Yeu Yhs x = Yca lo x := fun x => by kernel_rfl
noncomputable def Yht (lo : Lo) : LpE := ⟨17, [(20, none, false)], Yhr, Yhs, Yew lo⟩
theorem YuD {lo : Lo} (hlo : LoOK lo) (C : Ctx) (hT : TOK (⟨pf, fs36 lo, [Ybe lo, YaW lo, YaK lo, YaD lo], 0⟩ : Tabs) C) : YwI (fun _ => False) [] 0 C q36_J17_b.er (Yht lo) :=
  YsM (T := (⟨pf, fs36 lo, [Ybe lo, YaW lo, YaK lo, YaD lo], 0⟩ : Tabs)) hT frNo (id := 17) (own0 := [(20, none, false)]) (own := [(20, none, false)]) (g0 := Yhr) (g := Yc1) (outs := Yhs) (pre := Yet) (bb := Yc0) (rest := Yeu) (show LK C _ Yet from tv) (show LK C (⟨pf, fs36 lo, [Ybe lo, YaW lo, YaK lo, YaD lo], 0⟩ : Tabs) (Yya 116 6 Yc0) from ⟨⟨tv, tv⟩, ⟨tv, tv⟩⟩) (show LK C _ Yeu from ⟨tv, ⟨⟨tv, (YwW (by kernel_rfl) (Yuy hlo C (Yai hT)))⟩, ⟨tv, tv⟩⟩⟩) YuA (YuB lo) (YuC lo) (Yuz lo) (fun x y h => YsN h)
noncomputable def q36 (lo : Lo) (a0_0 : ByteArray) (a0_1 : List ByteArray) (a0_2 : List (Int × Zt0)) (b1_0 : ByteArray) (b1_1 : List ByteArray) (b1_2 : List (Int × Zt0)) : Option (ByteArray × Zt2 × Zt3 × Int) :=
  Option.bind (q11 lo a0_0 a0_1 a0_2) fun y77 => bif (!decide (y77 = (0 : Int))) then (some ((ByteArray.mk #[]), ([] : List ByteArray), ([] : List (Int × Zt0)), y77)) else (Option.bind (q11 lo b1_0 b1_1 b1_2) fun y78 => bif (!decide (y78 = (0 : Int))) then (some ((ByteArray.mk #[]), ([] : List ByteArray), ([] : List (Int × Zt0)), y78)) else (Option.bind (q19 lo a0_1) fun y79 => Option.bind (Yen lo (b1_1, (b1_1.length : Int), (0 : Int), a0_0, a0_1, a0_2, b1_0, b1_1, b1_2, (ByteArray.mk #[]), ([] : List ByteArray), ([] : List (Int × Zt0)), a0_0, [], y79, [])) fun y81 => bif (decide ((16 : Int) < (y81.2.2.2.2.2.2.2.2.2.2.2.1.length : Int))) then (some ((ByteArray.mk #[]), ([] : List ByteArray), ([] : List (Int × Zt0)), (3 : Int))) else (Option.bind (Yer lo (y81.2.2.2.2.2.2.2.2.2.2.1, y81.2.2.1, (y81.2.2.1.length : Int), (0 : Int), y81.2.2.2.1, y81.2.2.2.2.1, y81.2.2.2.2.2.1, y81.2.2.2.2.2.2.1, y81.2.2.2.2.2.2.2.1, y81.2.2.2.2.2.2.2.2.1, y81.2.2.2.2.2.2.2.2.2.1, (0 : Int), ([] : List (Int × ByteArray × Zt0)), false, y81.2.2.2.2.2.2.2.2.2.2.2.1, y81.2.2.2.2.2.2.2.2.2.2.2.2)) fun y87 => alt2 y87 (fun y88 => some (y88.2.1, y88.2.2.1, y88.2.2.2, y88.1)) (fun y89 => Option.bind (Yew lo (y89.1, y89.2.1, y89.2.2.1, y89.2.2.2.1, y89.2.2.2.2.1, y89.2.2.2.2.2.1, y89.2.2.2.2.2.2.1, [], y89.2.2.2.2.2.2.2.1, y89.2.2.2.2.2.2.2.2)) fun y154 => some (y154.2.1, y154.2.2.1, y154.2.2.2, y154.1)))))
def Ynj : VCode :=
 (.seq (.reg [o 2 (.box (t 0)), o 3 (.box (t 1)), o 4 (.alloc [.s (⟨#[]⟩), .e (cs [.s]), .e Zc1]), o 5 (.mv (k 0))])
 (.seq (.seq (.reg [o 24 (.load true 3 (t 2)), o 25 (.call 230 [(t 24)]), mV 6 25])
 (.seq (.reg [mV 26 6, o 27 (.bin .neq (t 26) (k 0))])
 (.cond (t 27) (.seq (.reg [o 28 (.build [.s (⟨#[]⟩), .e (cs [.s]), .e Zc1] []), mV 29 6, on (.store 3 (t 4) (t 28)), mV 5 29])
 (.fz [4, 5] .ret))
 .skip)))
 (.seq (.seq (.reg [o 30 (.load true 3 (t 3)), o 31 (.call 230 [(t 30)]), mV 7 31])
 (.seq (.reg [mV 32 7, o 33 (.bin .neq (t 32) (k 0))])
 (.cond (t 33) (.seq (.reg [o 34 (.build [.s (⟨#[]⟩), .e (cs [.s]), .e Zc1] []), mV 35 7, on (.store 3 (t 4) (t 34)), mV 5 35])
 (.fz [4, 5] .ret))
 .skip)))
 (.seq (.reg [fD 36 0 2, ⟨some 37, .load false 1 (t 36), none, true, false⟩, fD 38 1 2, ⟨some 39, .load false 1 (t 38), none, true, false⟩, o 40 (.callN 269 [(t 39)]), o 41 (.build [.s (⟨#[]⟩), .e (cs [.s]), .e Zc1] [(0, 1, (t 37)), (1, 1, (t 40))]), o 8 (.alloc [.s (⟨#[]⟩), .e (cs [.s]), .e Zc1]), on (.store 3 (t 8) (t 41))])
 (.seq (.reg [o 9 (.mv (ke (cs [I])))])
 (.seq (.seq (.reg [fD 42 1 3, lD 43 42, lN 44 43, o 45 (.mv (k 0))])
 (.blk 0 (.loop 42 q36_L42_b)))
 (.seq (.seq (.reg [fD 69 1 8, lD 70 69, lN 71 70, o 72 (.bin .gtr (t 71) (k 16))])
 (.cond (t 72) (.seq (.reg [o 73 (.build [.s (⟨#[]⟩), .e (cs [.s]), .e Zc1] []), on (.store 3 (t 4) (t 73)), o 5 (.mv (k 3))])
 (.fz [4, 5] .ret))
 .skip))
 (.seq (.reg [o 74 (.mkm none (.l Zc4) (cs []) false), mV 13 74])
 (.seq (.seq (.reg [fD 75 2 2, lD 76 75, lN 77 76, o 78 (.mv (k 0))])
 (.blk 2 (.fz [9] (.loop 19 q36_L19_b))))
 (.seq (.reg [o 20 (.mv (ke (cs [.s])))])
 (.jn 17 q36_J17_b)))))))))))
def Yhu : VFn := ⟨true, 145, [.c 4 true 3, .t 5], Ynj⟩
noncomputable def Yhv (lo : Lo) : FnE := ⟨237, true, ⟨[0, 1], [.ag [.s, .l (cs [.s]), .l Zc1], .ag [.s, .l (cs [.s]), .l Zc1]], [], Zc6⟩, .tp [.ag [.s, .l (cs [.s]), .l Zc1], .i .i64], [], Zc21, (fun x => q36 lo x.1 x.2.1 x.2.2.1 x.2.2.2.1 x.2.2.2.2.1 x.2.2.2.2.2 : Zp39 -> Option (ByteArray × Zt2 × Zt3 × Int))⟩
theorem YuE (lo : Lo) : ∀ x : Zp39, evP (⟨pf, fs36 lo, [Yht lo, Ybe lo, YaW lo, YaK lo, YaD lo], 0⟩ : Tabs) Yhu ⟨[0, 1], [.ag [.s, .l (cs [.s]), .l Zc1], .ag [.s, .l (cs [.s]), .l Zc1]], [], Zc6⟩ (.tp [.ag [.s, .l (cs [.s]), .l Zc1], .i .i64]) Zc21 x = q36 lo x.1 x.2.1 x.2.2.1 x.2.2.2.1 x.2.2.2.2.1 x.2.2.2.2.2 := fun x => by kernel_rfl
theorem YuF {P : Program} {fm : FM} {lo : Lo} (hlo : LoOK lo) (hS : YwH P fm ⟨pf, fs36 lo, [], 0⟩) (hm : P.follows .mixedOrders = true) (htie : Ti P fm 237 Yhu) : YwH P fm ⟨pf, Yhv lo :: fs36 lo, [], 0⟩ :=
  Yak hS hm [Yht lo, Ybe lo, YaW lo, YaK lo, YaD lo] (Yhv lo) rfl Yhu htie (by decide) rfl (Nat.le_of_ble_eq_true (by kernel_rfl)) (fun C hT => show LK C _ Ynj from ⟨tv, ⟨⟨tv, ⟨tv, ⟨⟨tv, tv⟩, tv⟩⟩⟩, ⟨⟨tv, ⟨tv, ⟨⟨tv, tv⟩, tv⟩⟩⟩, ⟨tv, ⟨tv, ⟨⟨tv, (YwW (by kernel_rfl) (Yus hlo C (Yai hT)))⟩, ⟨⟨tv, ⟨⟨tv, tv⟩, tv⟩⟩, ⟨tv, ⟨⟨tv, (YwW (by kernel_rfl) (Yuw hlo C (Yai hT)))⟩, ⟨tv, (YwW (by kernel_rfl) (YuD hlo C (Yai hT)))⟩⟩⟩⟩⟩⟩⟩⟩⟩⟩) (fun x y h => (YuE lo x).trans h)
noncomputable def fs37 (lo : Lo) : List FnE := Yhv lo :: fs36 lo
def q37_L3_b : VCode :=
 (.seq (.reg [o 14 (.bin .lss (t 13) (t 12))])
 (.seq (.cond (t 14) .skip
 (.exit 0))
 (.seq (.blk 1 (.seq (.reg [mV 15 13, mV 5 15])
 (.seq (.reg [mV 16 0, mV 17 5, o 18 (.iad 1 (t 16) (t 17)), lD 19 18, mV 20 1, mV 21 5, o 22 (.iad 1 (t 20) (t 21)), lD 23 22, o 24 (.bin .neq (t 19) (t 23))])
 (.cond (t 24) (.seq (.reg [o 4 (.mv (kb false))])
 (.fz [4] .ret))
 .skip))))
 (.reg [o 25 (.bin .add (t 13) (k 1)), mV 13 25]))))
def Ynk : Sg := ⟨[0, 1, 12, 13], [.l (cs [.s]), .l (cs [.s]), .i .i64, .i .i64], [], (cs [.l (cs [.s]), .l (cs [.s]), I, I])⟩
def Ynl : List Out1 := [⟨.ret, ⟨[4], [.b], [], (cs [.b])⟩⟩, ⟨.exit 0, ⟨[], [], [], (cs [])⟩⟩]
def Ynm (lo : Lo) : Zt2 × Zt2 × Int × Int -> Option ((Zt2 × Zt2 × Int × Int) ⊕ (Bool ⊕ Unit)) := fun x => match x with
  | (s10, s21, v12, v13) => bif (decide (v13 < v12)) then (chk (0 <= v13 /\ v13 < (s10.length : Int)) (chk (0 <= v13 /\ v13 < (s21.length : Int)) (bif (!decide ((s10.getD v13.toNat (ByteArray.mk #[])) = (s21.getD v13.toNat (ByteArray.mk #[])))) then (some (.inr (.inl false))) else (some (.inl (s10, s21, v12, (IntKind.wrap .i64 (v13 + (1 : Int))))))))) else (some (.inr (.inr ())))
theorem YuG (lo : Lo) : ∀ x : Zt2 × Zt2 × Int × Int, YwY (⟨pf, fs37 lo, [], 0⟩ : Tabs) [] Ynk Ynl q37_L3_b x = Ynm lo x := fun x => by kernel_rfl
def Ynn (lo : Lo) : Zt2 × Zt2 × Int × Int -> Option (Bool ⊕ Unit) := lo.run (Ynm lo)
def Yhw (lo : Lo) : LpE := ⟨3, [], Ynk, Ynl, Ynn lo⟩
theorem YuH {lo : Lo} (hlo : LoOK lo) (C : Ctx) (hT : TOK (⟨pf, fs37 lo, [], 0⟩ : Tabs) C) : YwI (fun _ => False) [] 0 C (.loop q37_L3_b.er) (Yhw lo) :=
  Yal hT frNo (show LK C _ q37_L3_b from ⟨tv, ⟨⟨tv, tv⟩, ⟨⟨tv, ⟨tv, ⟨⟨tv, tv⟩, tv⟩⟩⟩, tv⟩⟩⟩) (fun x y h => Yam (YuG lo) (hlo _ _ _ h))
def q37 (lo : Lo) (s10 : List ByteArray) (s21 : List ByteArray) : Option Bool :=
  bif (!decide ((s10.length : Int) = (s21.length : Int))) then (some false) else (Option.bind (Ynn lo (s10, s21, (s10.length : Int), (0 : Int))) fun y158 => alt2 y158 (fun y159 => some y159) (fun y160 => some true))
def Yno : VCode :=
 (.seq (.reg [o 4 (.mv (kb false))])
 (.seq (.seq (.reg [mV 6 0, lN 7 6, mV 8 1, lN 9 8, o 10 (.bin .neq (t 7) (t 9))])
 (.cond (t 10) (.seq (.reg [o 4 (.mv (kb false))])
 (.fz [4] .ret))
 .skip))
 (.seq (.seq (.reg [mV 11 0, lN 12 11, o 13 (.mv (k 0))])
 (.blk 0 (.loop 3 q37_L3_b)))
 (.seq (.reg [o 4 (.mv (kb true))])
 (.fz [4] .ret)))))
def Yhx : VFn := ⟨true, 26, [.t 4], Yno⟩
def Yhy (lo : Lo) : FnE := ⟨267, true, ⟨[0, 1], [.l (cs [.s]), .l (cs [.s])], [], (cs [.l (cs [.s]), .l (cs [.s])])⟩, .b, [], (cs [.b]), (fun x => q37 lo x.1 x.2 : Zt2 × Zt2 -> Option Bool)⟩
theorem YuI (lo : Lo) : ∀ x : Zt2 × Zt2, evP (⟨pf, fs37 lo, [Yhw lo], 0⟩ : Tabs) Yhx ⟨[0, 1], [.l (cs [.s]), .l (cs [.s])], [], (cs [.l (cs [.s]), .l (cs [.s])])⟩ (.b) (cs [.b]) x = q37 lo x.1 x.2 := fun x => by kernel_rfl
theorem YuJ {P : Program} {fm : FM} {lo : Lo} (hlo : LoOK lo) (hS : YwH P fm ⟨pf, fs37 lo, [], 0⟩) (hm : P.follows .mixedOrders = true) (htie : Ti P fm 267 Yhx) : YwH P fm ⟨pf, Yhy lo :: fs37 lo, [], 0⟩ :=
  Yak hS hm [Yhw lo] (Yhy lo) rfl Yhx htie (by decide) rfl (Nat.le_of_ble_eq_true (by kernel_rfl)) (fun C hT => show LK C _ Yno from ⟨tv, ⟨⟨tv, ⟨⟨tv, tv⟩, tv⟩⟩, ⟨⟨tv, (YwW (by kernel_rfl) (YuH hlo C (Yai hT)))⟩, ⟨tv, tv⟩⟩⟩⟩) (fun x y h => (YuI lo x).trans h)
noncomputable def fs38 (lo : Lo) : List FnE := Yhy lo :: fs37 lo
def q38_L3_b : VCode :=
 (.seq (.reg [o 14 (.bin .lss (t 13) (t 12))])
 (.seq (.cond (t 14) .skip
 (.exit 0))
 (.seq (.blk 1 (.seq (.reg [mV 15 13, mV 5 15])
 (.seq (.reg [mV 16 0, mV 17 5, o 18 (.iad 3 (t 16) (t 17)), o 19 (.load true 3 (t 18)), mV 20 1, mV 21 5, o 22 (.iad 3 (t 20) (t 21)), o 23 (.load true 3 (t 22)), o 24 (.eqa true [1, 1, 2] (t 19) (t 23))])
 (.cond (t 24) (.seq (.reg [o 4 (.mv (kb false))])
 (.fz [4] .ret))
 .skip))))
 (.reg [o 25 (.bin .add (t 13) (k 1)), mV 13 25]))))
def Ynp : Sg := ⟨[0, 1, 12, 13], [.l Zc4, .l Zc4, .i .i64, .i .i64], [], (cs [.l Zc4, .l Zc4, I, I])⟩
def Ynq : List Out1 := [⟨.ret, ⟨[4], [.b], [], (cs [.b])⟩⟩, ⟨.exit 0, ⟨[], [], [], (cs [])⟩⟩]
def Ynr (lo : Lo) : Zt0 × Zt0 × Int × Int -> Option ((Zt0 × Zt0 × Int × Int) ⊕ (Bool ⊕ Unit)) := fun x => match x with
  | (s10, s21, v12, v13) => bif (decide (v13 < v12)) then (chk (0 <= v13 /\ v13 < (s10.length : Int)) (chk (0 <= v13 /\ v13 < (s21.length : Int)) (bif (!((decide ((s10.getD v13.toNat ((0 : Int), (0 : Int), (ByteArray.mk #[]))).1 = (s21.getD v13.toNat ((0 : Int), (0 : Int), (ByteArray.mk #[]))).1)) && ((decide ((s10.getD v13.toNat ((0 : Int), (0 : Int), (ByteArray.mk #[]))).2.1 = (s21.getD v13.toNat ((0 : Int), (0 : Int), (ByteArray.mk #[]))).2.1)) && ((decide ((s10.getD v13.toNat ((0 : Int), (0 : Int), (ByteArray.mk #[]))).2.2 = (s21.getD v13.toNat ((0 : Int), (0 : Int), (ByteArray.mk #[]))).2.2)) && true)))) then (some (.inr (.inl false))) else (some (.inl (s10, s21, v12, (IntKind.wrap .i64 (v13 + (1 : Int))))))))) else (some (.inr (.inr ())))
theorem YuK (lo : Lo) : ∀ x : Zt0 × Zt0 × Int × Int, YwY (⟨pf, fs38 lo, [], 0⟩ : Tabs) [] Ynp Ynq q38_L3_b x = Ynr lo x := fun x => by kernel_rfl
def Yns (lo : Lo) : Zt0 × Zt0 × Int × Int -> Option (Bool ⊕ Unit) := lo.run (Ynr lo)
def Yhz (lo : Lo) : LpE := ⟨3, [], Ynp, Ynq, Yns lo⟩
theorem YuL {lo : Lo} (hlo : LoOK lo) (C : Ctx) (hT : TOK (⟨pf, fs38 lo, [], 0⟩ : Tabs) C) : YwI (fun _ => False) [] 0 C (.loop q38_L3_b.er) (Yhz lo) :=
  Yal hT frNo (show LK C _ q38_L3_b from ⟨tv, ⟨⟨tv, tv⟩, ⟨⟨tv, ⟨tv, ⟨⟨tv, tv⟩, tv⟩⟩⟩, tv⟩⟩⟩) (fun x y h => Yam (YuK lo) (hlo _ _ _ h))
def q38 (lo : Lo) (s10 : List (Int × Int × ByteArray)) (s21 : List (Int × Int × ByteArray)) : Option Bool :=
  bif (!decide ((s10.length : Int) = (s21.length : Int))) then (some false) else (Option.bind (Yns lo (s10, s21, (s10.length : Int), (0 : Int))) fun y162 => alt2 y162 (fun y163 => some y163) (fun y164 => some true))
def Ynt : VCode :=
 (.seq (.reg [o 4 (.mv (kb false))])
 (.seq (.seq (.reg [mV 6 0, lN 7 6, mV 8 1, lN 9 8, o 10 (.bin .neq (t 7) (t 9))])
 (.cond (t 10) (.seq (.reg [o 4 (.mv (kb false))])
 (.fz [4] .ret))
 .skip))
 (.seq (.seq (.reg [mV 11 0, lN 12 11, o 13 (.mv (k 0))])
 (.blk 0 (.loop 3 q38_L3_b)))
 (.seq (.reg [o 4 (.mv (kb true))])
 (.fz [4] .ret)))))
def YhA : VFn := ⟨true, 26, [.t 4], Ynt⟩
def YhB (lo : Lo) : FnE := ⟨300, true, ⟨[0, 1], [.l Zc4, .l Zc4], [], (cs [.l Zc4, .l Zc4])⟩, .b, [], (cs [.b]), (fun x => q38 lo x.1 x.2 : Zt0 × Zt0 -> Option Bool)⟩
theorem YuM (lo : Lo) : ∀ x : Zt0 × Zt0, evP (⟨pf, fs38 lo, [Yhz lo], 0⟩ : Tabs) YhA ⟨[0, 1], [.l Zc4, .l Zc4], [], (cs [.l Zc4, .l Zc4])⟩ (.b) (cs [.b]) x = q38 lo x.1 x.2 := fun x => by kernel_rfl
theorem YuN {P : Program} {fm : FM} {lo : Lo} (hlo : LoOK lo) (hS : YwH P fm ⟨pf, fs38 lo, [], 0⟩) (hm : P.follows .mixedOrders = true) (htie : Ti P fm 300 YhA) : YwH P fm ⟨pf, YhB lo :: fs38 lo, [], 0⟩ :=
  Yak hS hm [Yhz lo] (YhB lo) rfl YhA htie (by decide) rfl (Nat.le_of_ble_eq_true (by kernel_rfl)) (fun C hT => show LK C _ Ynt from ⟨tv, ⟨⟨tv, ⟨⟨tv, tv⟩, tv⟩⟩, ⟨⟨tv, (YwW (by kernel_rfl) (YuL hlo C (Yai hT)))⟩, ⟨tv, tv⟩⟩⟩⟩) (fun x y h => (YuM lo x).trans h)
noncomputable def fs39 (lo : Lo) : List FnE := YhB lo :: fs38 lo
def q39 (lo : Lo) (s0_0 : Int) (s0_1 : List (Int × Int × ByteArray)) (v1_0 : Int) (v1_1 : List (Int × Int × ByteArray)) : Option (Bool × Int × Zt0) :=
  Option.bind (q38 lo v1_1 s0_1) fun y165 => some (y165, v1_0, v1_1)
def Ynu : VCode :=
 (.seq (.reg [o 2 (.box (t 0)), o 3 (.mv (kb false))])
 (.seq (.reg [fD 4 1 1, lD 5 4, fD 6 1 2, lD 7 6, o 8 (.call 300 [(t 5), (t 7)]), mV 3 8])
 .ret))
def YhC : VFn := ⟨true, 9, [.t 3], Ynu⟩
def YhD (lo : Lo) : FnE := ⟨299, false, ⟨[0, 1], [.ag [.i .i64, .l Zc4], .ptr 0 0 0], [.st [.i .i64, .l Zc4]], (cs [I, .l Zc4, I, .l Zc4])⟩, .b, [.st [.i .i64, .l Zc4]], (cs [.b, I, .l Zc4]), (fun x => q39 lo x.1 x.2.1 x.2.2.1 x.2.2.2 : Int × Zt0 × Int × Zt0 -> Option (Bool × Int × Zt0))⟩
theorem YuO (lo : Lo) : ∀ x : Int × Zt0 × Int × Zt0, evI (⟨pf, fs39 lo, [], 1⟩ : Tabs) YhC ⟨[0, 1], [.ag [.i .i64, .l Zc4], .ptr 0 0 0], [.st [.i .i64, .l Zc4]], (cs [I, .l Zc4, I, .l Zc4])⟩ (.b) [.st [.i .i64, .l Zc4]] (cs [.b, I, .l Zc4]) x = q39 lo x.1 x.2.1 x.2.2.1 x.2.2.2 := fun x => by kernel_rfl
theorem YuP {P : Program} {fm : FM} {lo : Lo} (hlo : LoOK lo) (hS : YwH P fm ⟨pf, fs39 lo, [], 0⟩) (hm : P.follows .mixedOrders = true) (htie : Ti P fm 299 YhC) : YwH P fm ⟨pf, YhD lo :: fs39 lo, [], 0⟩ :=
  Ybd hS hm [] (YhD lo) rfl YhC htie (by decide) rfl (Nat.le_of_ble_eq_true (by kernel_rfl)) (fun C hT Fr H0 hf => show LsOK Fr H0 C (⟨pf, fs39 lo, [], 1⟩ : Tabs) Ynu from ⟨tv, ⟨tv, tv⟩⟩) (fun x y h => (YuO lo x).trans h)
noncomputable def fs40 (lo : Lo) : List FnE := YhD lo :: fs39 lo
end Go.Abs.G03
namespace Go.Abs.G03
open Go Go.Abs
set_option maxRecDepth 100000
set_option maxHeartbeats 1000000
def q40_L3_b : VCode :=
 (.seq (.reg [o 9 (.bin .lss (t 8) (t 7))])
 (.seq (.cond (t 9) .skip
 (.exit 0))
 (.seq (.blk 1 (.seq (.reg [mV 10 8, mV 5 10])
 (.seq (.reg [mV 11 1, mV 12 0, mV 13 5, o 14 (.iad 2 (t 12) (t 13)), o 15 (.load true 2 (t 14)), o 16 (.dyn (t 11) [(t 15)])])
 (.cond (t 16) (.seq (.reg [mV 17 5, mV 4 17])
 .ret)
 .skip))))
 (.reg [o 18 (.bin .add (t 8) (k 1)), mV 8 18]))))
def Ynv : Sg := ⟨[0, 1, 7, 8], [.l Zc1, .clo 299 [.ptr 0 0 0], .i .i64, .i .i64], [.st [.i .i64, .l Zc4]], (cs [.l Zc1, I, I, I, .l Zc4])⟩
def Ynw : List Out1 := [⟨.ret, ⟨[4], [.i .i64], [.st [.i .i64, .l Zc4]], (cs [I, I, .l Zc4])⟩⟩, ⟨.exit 0, ⟨[], [], [.st [.i .i64, .l Zc4]], Zc1⟩⟩]
def Ynx (lo : Lo) : Zt3 × Int × Int × Int × Zt0 -> Option ((Zt3 × Int × Int × Int × Zt0) ⊕ ((Int × Int × Zt0) ⊕ (Int × Zt0))) := fun x => match x with
  | (s0, v7, v8, h0_0, h0_1) => bif (decide (v8 < v7)) then (chk (0 <= v8 /\ v8 < (s0.length : Int)) (Option.bind (q39 lo ((s0.getD v8.toNat ((0 : Int), [])).1) ((s0.getD v8.toNat ((0 : Int), [])).2) h0_0 h0_1) fun y166 => bif y166.1 then (some (.inr (.inl (v8, y166.2.1, y166.2.2)))) else (some (.inl (s0, v7, (IntKind.wrap .i64 (v8 + (1 : Int))), y166.2.1, y166.2.2))))) else (some (.inr (.inr (h0_0, h0_1))))
theorem YuQ (lo : Lo) : ∀ x : Zt3 × Int × Int × Int × Zt0, YwY (⟨pf, fs40 lo, [], 1⟩ : Tabs) [] Ynv Ynw q40_L3_b x = Ynx lo x := fun x => by kernel_rfl
def Yny (lo : Lo) : Zt3 × Int × Int × Int × Zt0 -> Option ((Int × Int × Zt0) ⊕ (Int × Zt0)) := lo.run (Ynx lo)
def Yex (lo : Lo) : LpE := ⟨3, [], Ynv, Ynw, Yny lo⟩
theorem YuR {lo : Lo} (hlo : LoOK lo) (C : Ctx) (hT : TOK (⟨pf, fs40 lo, [], 1⟩ : Tabs) C) {Fr : Nat -> Prop} {H0 : Heap} (hf : FrOK Fr H0) : YwI Fr H0 1 C (.loop q40_L3_b.er) (Yex lo) :=
  Yal hT hf (show LsOK Fr H0 C (⟨pf, fs40 lo, [], 1⟩ : Tabs) q40_L3_b from ⟨tv, ⟨⟨tv, tv⟩, ⟨⟨tv, ⟨tv, ⟨⟨tv, tv⟩, tv⟩⟩⟩, tv⟩⟩⟩) (fun x y h => Yam (YuQ lo) (hlo _ _ _ h))
def q40 (lo : Lo) (s0 : List (Int × Zt0)) (h0_0 : Int) (h0_1 : List (Int × Int × ByteArray)) : Option (Int × Int × Zt0) :=
  Option.bind (Yny lo (s0, (s0.length : Int), (0 : Int), h0_0, h0_1)) fun y167 => alt2 y167 (fun y168 => some (y168.1, y168.2.1, y168.2.2)) (fun y169 => some ((-1 : Int), y169.1, y169.2))
def Ynz : VCode :=
 (.seq (.reg [o 4 (.mv (k 0))])
 (.seq (.seq (.reg [mV 6 0, lN 7 6, o 8 (.mv (k 0))])
 (.blk 0 (.loop 3 q40_L3_b)))
 (.seq (.reg [o 4 (.mv (k (-1)))])
 .ret)))
def YhE : VFn := ⟨true, 19, [.t 4], Ynz⟩
def YhF (lo : Lo) : FnE := ⟨277, false, ⟨[0, 1], [.l Zc1, .clo 299 [.ptr 0 0 0]], [.st [.i .i64, .l Zc4]], (cs [.l Zc1, I, .l Zc4])⟩, .i .i64, [.st [.i .i64, .l Zc4]], (cs [I, I, .l Zc4]), (fun x => q40 lo x.1 x.2.1 x.2.2 : Zt3 × Int × Zt0 -> Option (Int × Int × Zt0))⟩
theorem YuS (lo : Lo) : ∀ x : Zt3 × Int × Zt0, evI (⟨pf, fs40 lo, [Yex lo], 1⟩ : Tabs) YhE ⟨[0, 1], [.l Zc1, .clo 299 [.ptr 0 0 0]], [.st [.i .i64, .l Zc4]], (cs [.l Zc1, I, .l Zc4])⟩ (.i .i64) [.st [.i .i64, .l Zc4]] (cs [I, I, .l Zc4]) x = q40 lo x.1 x.2.1 x.2.2 := fun x => by kernel_rfl
theorem YuT {P : Program} {fm : FM} {lo : Lo} (hlo : LoOK lo) (hS : YwH P fm ⟨pf, fs40 lo, [], 0⟩) (hm : P.follows .mixedOrders = true) (htie : Ti P fm 277 YhE) : YwH P fm ⟨pf, YhF lo :: fs40 lo, [], 0⟩ :=
  Ybd hS hm [Yex lo] (YhF lo) rfl YhE htie (by decide) rfl (Nat.le_of_ble_eq_true (by kernel_rfl)) (fun C hT Fr H0 hf => show LsOK Fr H0 C (⟨pf, fs40 lo, [Yex lo], 1⟩ : Tabs) Ynz from ⟨tv, ⟨⟨tv, (YwW (by kernel_rfl) (YuR hlo C (Yai hT) hf))⟩, ⟨tv, tv⟩⟩⟩) (fun x y h => (YuS lo x).trans h)
noncomputable def fs41 (lo : Lo) : List FnE := YhF lo :: fs40 lo
def q41 (lo : Lo) (s0 : List (Int × Zt0)) (h0_0 : Int) (h0_1 : List (Int × Int × ByteArray)) : Option (Bool × Int × Zt0) :=
  Option.bind (q40 lo s0 h0_0 h0_1) fun y170 => some ((decide ((0 : Int) <= y170.1)), y170.2.1, y170.2.2)
def YnA : VCode :=
 (.seq (.reg [o 4 (.mv (kb false))])
 (.seq (.reg [mV 5 0, mV 6 1, o 7 (.call 277 [(t 5), (t 6)]), o 8 (.bin .geq (t 7) (k 0)), mV 4 8])
 .ret))
def YhG : VFn := ⟨true, 9, [.t 4], YnA⟩
def YhH (lo : Lo) : FnE := ⟨298, false, ⟨[0, 1], [.l Zc1, .clo 299 [.ptr 0 0 0]], [.st [.i .i64, .l Zc4]], (cs [.l Zc1, I, .l Zc4])⟩, .b, [.st [.i .i64, .l Zc4]], (cs [.b, I, .l Zc4]), (fun x => q41 lo x.1 x.2.1 x.2.2 : Zt3 × Int × Zt0 -> Option (Bool × Int × Zt0))⟩
theorem YuU (lo : Lo) : ∀ x : Zt3 × Int × Zt0, evI (⟨pf, fs41 lo, [], 1⟩ : Tabs) YhG ⟨[0, 1], [.l Zc1, .clo 299 [.ptr 0 0 0]], [.st [.i .i64, .l Zc4]], (cs [.l Zc1, I, .l Zc4])⟩ (.b) [.st [.i .i64, .l Zc4]] (cs [.b, I, .l Zc4]) x = q41 lo x.1 x.2.1 x.2.2 := fun x => by kernel_rfl
theorem YuV {P : Program} {fm : FM} {lo : Lo} (hlo : LoOK lo) (hS : YwH P fm ⟨pf, fs41 lo, [], 0⟩) (hm : P.follows .mixedOrders = true) (htie : Ti P fm 298 YhG) : YwH P fm ⟨pf, YhH lo :: fs41 lo, [], 0⟩ :=
  Ybd hS hm [] (YhH lo) rfl YhG htie (by decide) rfl (Nat.le_of_ble_eq_true (by kernel_rfl)) (fun C hT Fr H0 hf => show LsOK Fr H0 C (⟨pf, fs41 lo, [], 1⟩ : Tabs) YnA from ⟨tv, ⟨tv, tv⟩⟩) (fun x y h => (YuU lo x).trans h)
noncomputable def fs42 (lo : Lo) : List FnE := YhH lo :: fs41 lo
def q42_L3_b : VCode :=
 (.seq (.reg [o 10 (.bin .lss (t 9) (t 8))])
 (.seq (.cond (t 10) .skip
 (.exit 0))
 (.seq (.blk 1 (.seq (.reg [o 11 (.iad 2 (t 7) (t 9)), o 12 (.load true 2 (t 11)), o 6 (.alloc [.i .i64 0, .e Zc4]), on (.store 2 (t 6) (t 12))])
 (.seq (.reg [mV 13 0, o 14 (.mkf 299 [(t 6)]), o 15 (.call 298 [(t 13), (t 14)]), o 16 (.not (t 15))])
 (.cond (t 16) (.seq (.reg [o 4 (.mv (kb false))])
 (.fz [4] .ret))
 .skip))))
 (.reg [o 17 (.bin .add (t 9) (k 1)), mV 9 17]))))
def YnB : Sg := ⟨[0, 7, 8, 9], [.l Zc1, .l Zc1, .i .i64, .i .i64], [], (cs [.l Zc1, .l Zc1, I, I])⟩
def YnC : List Out1 := [⟨.ret, ⟨[4], [.b], [], (cs [.b])⟩⟩, ⟨.exit 0, ⟨[], [], [], (cs [])⟩⟩]
def YnD (lo : Lo) : Zt3 × Zt3 × Int × Int -> Option ((Zt3 × Zt3 × Int × Int) ⊕ (Bool ⊕ Unit)) := fun x => match x with
  | (a0, v7, v8, v9) => bif (decide (v9 < v8)) then (chk (0 <= v9 /\ v9 < (v7.length : Int)) (Option.bind (q41 lo a0 ((v7.getD v9.toNat ((0 : Int), [])).1) ((v7.getD v9.toNat ((0 : Int), [])).2)) fun y171 => bif (!y171.1) then (some (.inr (.inl false))) else (some (.inl (a0, v7, v8, (IntKind.wrap .i64 (v9 + (1 : Int)))))))) else (some (.inr (.inr ())))
theorem YuW (lo : Lo) : ∀ x : Zt3 × Zt3 × Int × Int, YwY (⟨pf, fs42 lo, [], 0⟩ : Tabs) [] YnB YnC q42_L3_b x = YnD lo x := fun x => by kernel_rfl
def YnE (lo : Lo) : Zt3 × Zt3 × Int × Int -> Option (Bool ⊕ Unit) := lo.run (YnD lo)
def YhI (lo : Lo) : LpE := ⟨3, [], YnB, YnC, YnE lo⟩
theorem YuX {lo : Lo} (hlo : LoOK lo) (C : Ctx) (hT : TOK (⟨pf, fs42 lo, [], 0⟩ : Tabs) C) : YwI (fun _ => False) [] 0 C (.loop q42_L3_b.er) (YhI lo) :=
  Yal hT frNo (show LK C _ q42_L3_b from ⟨tv, ⟨⟨tv, tv⟩, ⟨⟨tv, ⟨tv, ⟨⟨tv, tv⟩, tv⟩⟩⟩, tv⟩⟩⟩) (fun x y h => Yam (YuW lo) (hlo _ _ _ h))
def q42 (lo : Lo) (a0 : List (Int × Zt0)) (b1 : List (Int × Zt0)) : Option Bool :=
  Option.bind (YnE lo (a0, b1, (b1.length : Int), (0 : Int))) fun y172 => alt2 y172 (fun y173 => some y173) (fun y174 => some true)
def YnF : VCode :=
 (.seq (.reg [o 4 (.mv (kb false))])
 (.seq (.seq (.reg [mV 7 1, lN 8 7, o 9 (.mv (k 0))])
 (.blk 0 (.loop 3 q42_L3_b)))
 (.seq (.reg [o 4 (.mv (kb true))])
 (.fz [4] .ret))))
def YhJ : VFn := ⟨true, 18, [.t 4], YnF⟩
def YhK (lo : Lo) : FnE := ⟨268, true, ⟨[0, 1], [.l Zc1, .l Zc1], [], (cs [.l Zc1, .l Zc1])⟩, .b, [], (cs [.b]), (fun x => q42 lo x.1 x.2 : Zt3 × Zt3 -> Option Bool)⟩
theorem YuY (lo : Lo) : ∀ x : Zt3 × Zt3, evP (⟨pf, fs42 lo, [YhI lo], 0⟩ : Tabs) YhJ ⟨[0, 1], [.l Zc1, .l Zc1], [], (cs [.l Zc1, .l Zc1])⟩ (.b) (cs [.b]) x = q42 lo x.1 x.2 := fun x => by kernel_rfl
theorem YuZ {P : Program} {fm : FM} {lo : Lo} (hlo : LoOK lo) (hS : YwH P fm ⟨pf, fs42 lo, [], 0⟩) (hm : P.follows .mixedOrders = true) (htie : Ti P fm 268 YhJ) : YwH P fm ⟨pf, YhK lo :: fs42 lo, [], 0⟩ :=
  Yak hS hm [YhI lo] (YhK lo) rfl YhJ htie (by decide) rfl (Nat.le_of_ble_eq_true (by kernel_rfl)) (fun C hT => show LK C _ YnF from ⟨tv, ⟨⟨tv, (YwW (by kernel_rfl) (YuX hlo C (Yai hT)))⟩, ⟨tv, tv⟩⟩⟩) (fun x y h => (YuY lo x).trans h)
noncomputable def fs43 (lo : Lo) : List FnE := YhK lo :: fs42 lo
def q43 (lo : Lo) (a0_0 : ByteArray) (a0_1 : List ByteArray) (a0_2 : List (Int × Zt0)) (b1_0 : ByteArray) (b1_1 : List ByteArray) (b1_2 : List (Int × Zt0)) : Option Bool :=
  Option.bind (q37 lo a0_1 b1_1) fun y161 => bif y161 then (Option.bind (q42 lo a0_2 b1_2) fun y175 => bif y175 then (Option.bind (q42 lo b1_2 a0_2) fun y176 => some y176) else (some false)) else (some false)
def YnG : VCode :=
 (.seq (.reg [o 2 (.box (t 0)), o 3 (.box (t 1)), o 4 (.mv (kb false))])
 (.seq (.reg [fD 5 1 2, lD 6 5, fD 7 1 3, lD 8 7, o 9 (.call 267 [(t 6), (t 8)]), mV 10 9, og 11 10 true (.fad 2 (t 2)), og 12 10 true (.load false 1 (t 11)), og 13 10 true (.fad 2 (t 3)), og 14 10 true (.load false 1 (t 13)), og 15 10 true (.call 268 [(t 12), (t 14)]), o 16 (.pick (t 10) (t 15) (kb false)), mV 17 16, og 18 17 true (.fad 2 (t 3)), og 19 17 true (.load false 1 (t 18)), og 20 17 true (.fad 2 (t 2)), og 21 17 true (.load false 1 (t 20)), og 22 17 true (.call 268 [(t 19), (t 21)]), o 23 (.pick (t 17) (t 22) (kb false)), mV 4 23])
 (.fz [4] .ret)))
def YhL : VFn := ⟨true, 24, [.t 4], YnG⟩
def YhM (lo : Lo) : FnE := ⟨236, true, ⟨[0, 1], [.ag [.s, .l (cs [.s]), .l Zc1], .ag [.s, .l (cs [.s]), .l Zc1]], [], Zc6⟩, .b, [], (cs [.b]), (fun x => q43 lo x.1 x.2.1 x.2.2.1 x.2.2.2.1 x.2.2.2.2.1 x.2.2.2.2.2 : Zp39 -> Option Bool)⟩
theorem Yu0 (lo : Lo) : ∀ x : Zp39, evP (⟨pf, fs43 lo, [], 0⟩ : Tabs) YhL ⟨[0, 1], [.ag [.s, .l (cs [.s]), .l Zc1], .ag [.s, .l (cs [.s]), .l Zc1]], [], Zc6⟩ (.b) (cs [.b]) x = q43 lo x.1 x.2.1 x.2.2.1 x.2.2.2.1 x.2.2.2.2.1 x.2.2.2.2.2 := fun x => by kernel_rfl
theorem Yu1 {P : Program} {fm : FM} {lo : Lo} (hlo : LoOK lo) (hS : YwH P fm ⟨pf, fs43 lo, [], 0⟩) (hm : P.follows .mixedOrders = true) (htie : Ti P fm 236 YhL) : YwH P fm ⟨pf, YhM lo :: fs43 lo, [], 0⟩ :=
  Yak hS hm [] (YhM lo) rfl YhL htie (by decide) rfl (Nat.le_of_ble_eq_true (by kernel_rfl)) (fun C hT => show LK C _ YnG from ⟨tv, ⟨tv, tv⟩⟩) (fun x y h => (Yu0 lo x).trans h)
noncomputable def fs44 (lo : Lo) : List FnE := YhM lo :: fs43 lo
noncomputable def q44 (lo : Lo) : Option Bool :=
  Option.bind (q2 lo) fun y6 => Option.bind (q18 lo y6.1 y6.2.1 y6.2.2 (1 : Int)) fun y51 => Option.bind (q18 lo y6.1 y6.2.1 y6.2.2 (2 : Int)) fun y52 => Option.bind (q36 lo y6.1 y6.2.1 y6.2.2 y52.1 y52.2.1 y52.2.2.1) fun y155 => Option.bind (q36 lo y51.1 y51.2.1 y51.2.2.1 y52.1 y52.2.1 y52.2.2.1) fun y156 => bif (decide (y51.2.2.2 = (0 : Int))) then (bif (decide (y52.2.2.2 = (0 : Int))) then (bif (decide (y155.2.2.2 = (0 : Int))) then (bif (decide (y156.2.2.2 = (0 : Int))) then (Option.bind (q11 lo y6.1 y6.2.1 y6.2.2) fun y157 => bif (decide (y157 = (0 : Int))) then (bif (decide ((y51.2.2.1.length : Int) = (2 : Int))) then (chk (0 <= (1 : Int) /\ (1 : Int) < (y51.2.2.1.length : Int)) (bif (decide ((y51.2.2.1.getD 1 ((0 : Int), [])).1 = (4 : Int))) then (Option.bind (q43 lo y155.1 y155.2.1 y155.2.2.1 y6.1 y6.2.1 y6.2.2) fun y177 => bif y177 then (bif (decide ((y156.2.2.1.length : Int) = (4 : Int))) then (chk (0 <= (1 : Int) /\ (1 : Int) < (y156.2.2.1.length : Int)) (chk (0 <= (1 : Int) /\ (1 : Int) < (((y156.2.2.1.getD 1 ((0 : Int), [])).2).length : Int)) (bif (decide ((((y156.2.2.1.getD 1 ((0 : Int), [])).2).getD 1 ((0 : Int), (0 : Int), (ByteArray.mk #[]))).2.2 = (ByteArray.mk #[121]))) then (chk (0 <= (3 : Int) /\ (3 : Int) < (y156.2.2.1.length : Int)) (some (decide ((y156.2.2.1.getD 3 ((0 : Int), [])).1 = (4 : Int))))) else (some false)))) else (some false)) else (some false)) else (some false))) else (some false)) else (some false)) else (some false)) else (some false)) else (some false)) else (some false)
def YnH : VCode :=
 (.seq (.reg [o 0 (.mv (kb false))])
 (.seq (.reg [o 11 (.call 254 []), o 1 (.alloc [.s (⟨#[]⟩), .e (cs [.s]), .e Zc1]), on (.store 3 (t 1) (t 11))])
 (.seq (.reg [o 13 (.load true 3 (t 1)), o 14 (.call 233 [(t 13), (ki .u32 1)]), mV 12 14, eX 15 12 0, eX 16 12 1, o 2 (.alloc [.s (⟨#[]⟩), .e (cs [.s]), .e Zc1]), on (.store 3 (t 2) (t 15)), mV 3 16])
 (.seq (.reg [o 18 (.load true 3 (t 1)), o 19 (.call 233 [(t 18), (ki .u32 2)]), mV 17 19, eX 20 17 0, eX 21 17 1, o 4 (.alloc [.s (⟨#[]⟩), .e (cs [.s]), .e Zc1]), on (.store 3 (t 4) (t 20)), mV 5 21])
 (.seq (.reg [o 23 (.load true 3 (t 1)), o 24 (.load true 3 (t 4)), o 25 (.call 237 [(t 23), (t 24)]), mV 22 25, eX 26 22 0, eX 27 22 1, o 6 (.alloc [.s (⟨#[]⟩), .e (cs [.s]), .e Zc1]), on (.store 3 (t 6) (t 26)), mV 7 27])
 (.seq (.reg [o 29 (.load true 3 (t 2)), o 30 (.load true 3 (t 4)), o 31 (.call 237 [(t 29), (t 30)]), mV 28 31, eX 32 28 0, eX 33 28 1, o 8 (.alloc [.s (⟨#[]⟩), .e (cs [.s]), .e Zc1]), on (.store 3 (t 8) (t 32)), mV 9 33])
 (.seq (.reg [mV 34 3, o 35 (.bin .eql (t 34) (k 0)), mV 36 35, og 37 36 true (.mv (t 5)), og 38 36 true (.bin .eql (t 37) (k 0)), o 39 (.pick (t 36) (t 38) (kb false)), mV 40 39, og 41 40 true (.mv (t 7)), og 42 40 true (.bin .eql (t 41) (k 0)), o 43 (.pick (t 40) (t 42) (kb false)), mV 44 43, og 45 44 true (.mv (t 9)), og 46 44 true (.bin .eql (t 45) (k 0)), o 47 (.pick (t 44) (t 46) (kb false)), mV 10 47])
 (.seq (.reg [mV 48 10, mV 49 48, og 50 49 true (.load true 3 (t 1)), og 51 49 true (.call 230 [(t 50)]), og 52 49 true (.bin .eql (t 51) (k 0)), o 53 (.pick (t 49) (t 52) (kb false)), mV 54 53, og 55 54 true (.fad 2 (t 2)), og 56 54 true (.load false 1 (t 55)), og 57 54 true (.len (t 56)), og 58 54 true (.bin .eql (t 57) (k 2)), o 59 (.pick (t 54) (t 58) (kb false)), mV 60 59, og 61 60 true (.fad 2 (t 2)), og 62 60 true (.load false 1 (t 61)), og 63 60 true (.iad 2 (t 62) (k 1)), og 64 60 true (.fad 0 (t 63)), og 65 60 true (.load false 1 (t 64)), og 66 60 true (.bin .eql (t 65) (k 4)), o 67 (.pick (t 60) (t 66) (kb false)), mV 68 67, og 69 68 true (.load true 3 (t 6)), og 70 68 true (.load true 3 (t 1)), og 71 68 true (.call 236 [(t 69), (t 70)]), o 72 (.pick (t 68) (t 71) (kb false)), mV 73 72, og 74 73 true (.fad 2 (t 8)), og 75 73 true (.load false 1 (t 74)), og 76 73 true (.len (t 75)), og 77 73 true (.bin .eql (t 76) (k 4)), o 78 (.pick (t 73) (t 77) (kb false)), mV 79 78, og 80 79 true (.fad 2 (t 8)), og 81 79 true (.load false 1 (t 80)), og 82 79 true (.iad 2 (t 81) (k 1)), og 83 79 true (.fad 1 (t 82)), og 84 79 true (.load false 1 (t 83)), og 85 79 true (.iad 3 (t 84) (k 1)), og 86 79 true (.fad 2 (t 85)), og 87 79 true (.load false 1 (t 86)), og 88 79 true (.bin .eql (t 87) (ks (⟨#[121]⟩))), o 89 (.pick (t 79) (t 88) (kb false)), mV 90 89, og 91 90 true (.fad 2 (t 8)), og 92 90 true (.load false 1 (t 91)), og 93 90 true (.iad 2 (t 92) (k 3)), og 94 90 true (.fad 0 (t 93)), og 95 90 true (.load false 1 (t 94)), og 96 90 true (.bin .eql (t 95) (k 4)), o 97 (.pick (t 90) (t 96) (kb false)), mV 0 97])
 (.fz [0] .ret)))))))))
def YhN : VFn := ⟨true, 98, [.t 0], YnH⟩
noncomputable def YhO (lo : Lo) : FnE := ⟨229, true, ⟨[], [], [], (cs [])⟩, .b, [], (cs [.b]), (fun x => q44 lo  : Unit -> Option Bool)⟩
theorem Yu2 (lo : Lo) : ∀ x : Unit, evP (⟨pf, fs44 lo, [], 0⟩ : Tabs) YhN ⟨[], [], [], (cs [])⟩ (.b) (cs [.b]) x = q44 lo  := fun x => by kernel_rfl
theorem Yu3 {P : Program} {fm : FM} {lo : Lo} (hlo : LoOK lo) (hS : YwH P fm ⟨pf, fs44 lo, [], 0⟩) (hm : P.follows .mixedOrders = true) (htie : Ti P fm 229 YhN) : YwH P fm ⟨pf, YhO lo :: fs44 lo, [], 0⟩ :=
  Yak hS hm [] (YhO lo) rfl YhN htie (by decide) rfl (Nat.le_of_ble_eq_true (by kernel_rfl)) (fun C hT => show LK C _ YnH from ⟨tv, ⟨tv, ⟨tv, ⟨tv, ⟨tv, ⟨tv, ⟨tv, ⟨tv, tv⟩⟩⟩⟩⟩⟩⟩⟩) (fun x y h => (Yu2 lo x).trans h)
noncomputable def fs45 (lo : Lo) : List FnE := YhO lo :: fs44 lo
noncomputable def fs46 (lo : Lo) : List FnE := fs45 lo
noncomputable def fs47 (lo : Lo) : List FnE := fs46 lo
def q47_L3_b : VCode :=
 (.seq (.seq (.reg [mV 6 5, mV 7 0, lN 8 7, o 9 (.bin .lss (t 6) (t 8))])
 (.cond (t 9) .skip
 (.exit 0)))
 (.seq (.blk 1 (.seq (.reg [mV 12 0, mV 13 5, o 14 (.iad 1 (t 12) (t 13)), lD 15 14, mV 16 1, o 17 (.bin .eql (t 15) (t 16))])
 (.cond (t 17) (.seq (.reg [mV 18 5, mV 4 18])
 (.fz [4] .ret))
 .skip)))
 (.reg [mV 10 5, o 11 (.bin .add (t 10) (k 1)), mV 5 11])))
def YnI : Sg := ⟨[0, 1, 5], [.l (cs [.s]), .s, .i .i64], [], (cs [.l (cs [.s]), .s, I])⟩
def YnJ : List Out1 := [⟨.ret, ⟨[4], [.i .i64], [], (cs [I])⟩⟩, ⟨.exit 0, ⟨[], [], [], (cs [])⟩⟩]
def Yey (lo : Lo) : Zt2 × ByteArray × Int -> Option ((Zt2 × ByteArray × Int) ⊕ (Int ⊕ Unit)) := fun x => match x with
  | (l0, name1, i5) => bif (decide (i5 < (l0.length : Int))) then (chk (0 <= i5 /\ i5 < (l0.length : Int)) (bif (decide ((l0.getD i5.toNat (ByteArray.mk #[])) = name1)) then (some (.inr (.inl i5))) else (some (.inl (l0, name1, (IntKind.wrap .i64 (i5 + (1 : Int)))))))) else (some (.inr (.inr ())))
theorem Yu4 (lo : Lo) : ∀ x : Zt2 × ByteArray × Int, YwY (⟨pf, fs47 lo, [], 0⟩ : Tabs) [] YnI YnJ q47_L3_b x = Yey lo x := fun x => by kernel_rfl
def YhP (lo : Lo) : Zt2 × ByteArray × Int -> Option (Int ⊕ Unit) := lo.run (Yey lo)
def YhQ (lo : Lo) : LpE := ⟨3, [], YnI, YnJ, YhP lo⟩
theorem Yu5 {lo : Lo} (hlo : LoOK lo) (C : Ctx) (hT : TOK (⟨pf, fs47 lo, [], 0⟩ : Tabs) C) : YwI (fun _ => False) [] 0 C (.loop q47_L3_b.er) (YhQ lo) :=
  Yal hT frNo (show LK C _ q47_L3_b from ⟨⟨tv, ⟨tv, tv⟩⟩, ⟨⟨tv, ⟨⟨tv, tv⟩, tv⟩⟩, tv⟩⟩) (fun x y h => Yam (Yu4 lo) (hlo _ _ _ h))
def q47 (lo : Lo) (l0 : List ByteArray) (name1 : ByteArray) : Option Int :=
  Option.bind (YhP lo (l0, name1, (0 : Int))) fun y190 => alt2 y190 (fun y191 => some y191) (fun y192 => some (-1 : Int))
def YnK : VCode :=
 (.seq (.reg [o 4 (.mv (k 0))])
 (.seq (.seq (.reg [o 5 (.mv (k 0))])
 (.blk 0 (.loop 3 q47_L3_b)))
 (.seq (.reg [o 4 (.mv (k (-1)))])
 (.fz [4] .ret))))
def YhR : VFn := ⟨true, 19, [.t 4], YnK⟩
def YhS (lo : Lo) : FnE := ⟨272, true, ⟨[0, 1], [.l (cs [.s]), .s], [], (cs [.l (cs [.s]), .s])⟩, .i .i64, [], (cs [I]), (fun x => q47 lo x.1 x.2 : Zt2 × ByteArray -> Option Int)⟩
theorem Yu6 (lo : Lo) : ∀ x : Zt2 × ByteArray, evP (⟨pf, fs47 lo, [YhQ lo], 0⟩ : Tabs) YhR ⟨[0, 1], [.l (cs [.s]), .s], [], (cs [.l (cs [.s]), .s])⟩ (.i .i64) (cs [I]) x = q47 lo x.1 x.2 := fun x => by kernel_rfl
theorem Yu7 {P : Program} {fm : FM} {lo : Lo} (hlo : LoOK lo) (hS : YwH P fm ⟨pf, fs47 lo, [], 0⟩) (hm : P.follows .mixedOrders = true) (htie : Ti P fm 272 YhR) : YwH P fm ⟨pf, YhS lo :: fs47 lo, [], 0⟩ :=
  Yak hS hm [YhQ lo] (YhS lo) rfl YhR htie (by decide) rfl (Nat.le_of_ble_eq_true (by kernel_rfl)) (fun C hT => show LK C _ YnK from ⟨tv, ⟨⟨tv, (YwW (by kernel_rfl) (Yu5 hlo C (Yai hT)))⟩, ⟨tv, tv⟩⟩⟩) (fun x y h => (Yu6 lo x).trans h)
noncomputable def fs48 (lo : Lo) : List FnE := YhS lo :: fs47 lo
noncomputable def fs49 (lo : Lo) : List FnE := fs48 lo
noncomputable def fs50 (lo : Lo) : List FnE := fs49 lo
noncomputable def fs51 (lo : Lo) : List FnE := fs50 lo
noncomputable def fs52 (lo : Lo) : List FnE := fs51 lo
noncomputable def fs53 (lo : Lo) : List FnE := fs52 lo
end Go.Abs.G03
namespace Go.Abs.G03
open Go Go.Abs
set_option maxRecDepth 100000
set_option maxHeartbeats 1000000
noncomputable def fs54 (lo : Lo) : List FnE := fs53 lo
def q54_L3_b : VCode :=
 (.seq (.seq (.reg [mV 5 4, mV 6 0, o 7 (.bin .lss (t 5) (t 6)), mV 8 7, og 9 8 true (.mv (t 4)), og 10 8 true (.bin .lss (t 9) (k 32)), o 11 (.pick (t 8) (t 10) (kb false))])
 (.cond (t 11) .skip
 (.exit 0)))
 (.seq (.blk 1 (.reg [mV 14 3, mV 15 4, o 16 (.bin .shl (ki .u32 1) (t 15)), o 17 (.bin .or (t 14) (t 16)), mV 3 17]))
 (.reg [mV 12 4, o 13 (.bin .add (t 12) (k 1)), mV 4 13])))
def YnL : Sg := ⟨[0, 3, 4], [.i .i64, .i .u32, .i .i64], [], (cs [I, .i .u32, I])⟩
def YnM : List Out1 := [⟨.exit 0, ⟨[3], [.i .u32], [], (cs [.i .u32])⟩⟩]
def Yez (lo : Lo) : Int × Int × Int -> Option ((Int × Int × Int) ⊕ Int) := fun x => match x with
  | (n0, s3, i4) => bif (decide (i4 < n0)) then (bif (decide (i4 < (32 : Int))) then (chk (0 <= i4) (some (.inl (n0, (bits .or .u32 s3 (IntKind.wrap .u32 ((1 : Int) * 2 ^ (min i4.toNat (IntKind.bits .u32))))), (IntKind.wrap .i64 (i4 + (1 : Int))))))) else (some (.inr s3))) else (some (.inr s3))
theorem Yu8 (lo : Lo) : ∀ x : Int × Int × Int, YwY (⟨pf, fs54 lo, [], 0⟩ : Tabs) [] YnL YnM q54_L3_b x = Yez lo x := fun x => by kernel_rfl
def YhT (lo : Lo) : Int × Int × Int -> Option Int := lo.run (Yez lo)
def YhU (lo : Lo) : LpE := ⟨3, [], YnL, YnM, YhT lo⟩
theorem Yu9 {lo : Lo} (hlo : LoOK lo) (C : Ctx) (hT : TOK (⟨pf, fs54 lo, [], 0⟩ : Tabs) C) : YwI (fun _ => False) [] 0 C (.loop q54_L3_b.er) (YhU lo) :=
  Yal hT frNo (show LK C _ q54_L3_b from ⟨⟨tv, ⟨tv, tv⟩⟩, ⟨tv, tv⟩⟩) (fun x y h => Yam (Yu8 lo) (hlo _ _ _ h))
def q54 (lo : Lo) (n0 : Int) : Option Int :=
  Option.bind (YhT lo (n0, (0 : Int), (0 : Int))) fun y213 => some y213
def YnN : VCode :=
 (.seq (.reg [o 2 (.mv (ki .u32 0))])
 (.seq (.reg [o 3 (.mv (ki .u32 0))])
 (.seq (.seq (.reg [o 4 (.mv (k 0))])
 (.blk 0 (.loop 3 q54_L3_b)))
 (.seq (.reg [mV 18 3, mV 2 18])
 (.fz [2] .ret)))))
def YhV : VFn := ⟨true, 19, [.t 2], YnN⟩
def YhW (lo : Lo) : FnE := ⟨118, true, ⟨[0], [.i .i64], [], (cs [I])⟩, .i .u32, [], (cs [.i .u32]), (fun x => q54 lo x : Int -> Option Int)⟩
theorem Yva (lo : Lo) : ∀ x : Int, evP (⟨pf, fs54 lo, [YhU lo], 0⟩ : Tabs) YhV ⟨[0], [.i .i64], [], (cs [I])⟩ (.i .u32) (cs [.i .u32]) x = q54 lo x := fun x => by kernel_rfl
theorem Yvb {P : Program} {fm : FM} {lo : Lo} (hlo : LoOK lo) (hS : YwH P fm ⟨pf, fs54 lo, [], 0⟩) (hm : P.follows .mixedOrders = true) (htie : Ti P fm 118 YhV) : YwH P fm ⟨pf, YhW lo :: fs54 lo, [], 0⟩ :=
  Yak hS hm [YhU lo] (YhW lo) rfl YhV htie (by decide) rfl (Nat.le_of_ble_eq_true (by kernel_rfl)) (fun C hT => show LK C _ YnN from ⟨tv, ⟨tv, ⟨⟨tv, (YwW (by kernel_rfl) (Yu9 hlo C (Yai hT)))⟩, ⟨tv, tv⟩⟩⟩⟩) (fun x y h => (Yva lo x).trans h)
noncomputable def fs55 (lo : Lo) : List FnE := YhW lo :: fs54 lo
noncomputable def fs56 (lo : Lo) : List FnE := fs55 lo
noncomputable def fs57 (lo : Lo) : List FnE := fs56 lo
def q57 (lo : Lo) (a0 : Int) (b1 : Int) : Option Int :=
  bif (decide (a0 < b1)) then (some (-1 : Int)) else (bif (decide (b1 < a0)) then (some (1 : Int)) else (some (0 : Int)))
def YnO : VCode :=
 (.seq (.reg [o 4 (.mv (k 0))])
 (.seq (.seq (.reg [mV 5 0, mV 6 1, o 7 (.bin .lss (t 5) (t 6))])
 (.cond (t 7) (.seq (.reg [o 4 (.mv (k (-1)))])
 (.fz [4] .ret))
 .skip))
 (.seq (.seq (.reg [mV 8 0, mV 9 1, o 10 (.bin .gtr (t 8) (t 9))])
 (.cond (t 10) (.seq (.reg [o 4 (.mv (k 1))])
 (.fz [4] .ret))
 .skip))
 (.seq (.reg [o 4 (.mv (k 0))])
 (.fz [4] .ret)))))
def YhX : VFn := ⟨true, 11, [.t 4], YnO⟩
def YhY (lo : Lo) : FnE := ⟨303, true, ⟨[0, 1], [.i .i64, .i .i64], [], (cs [I, I])⟩, .i .i64, [], (cs [I]), (fun x => q57 lo x.1 x.2 : Int × Int -> Option Int)⟩
theorem Yvc (lo : Lo) : ∀ x : Int × Int, evP (⟨pf, fs57 lo, [], 0⟩ : Tabs) YhX ⟨[0, 1], [.i .i64, .i .i64], [], (cs [I, I])⟩ (.i .i64) (cs [I]) x = q57 lo x.1 x.2 := fun x => by kernel_rfl
theorem Yvd {P : Program} {fm : FM} {lo : Lo} (hlo : LoOK lo) (hS : YwH P fm ⟨pf, fs57 lo, [], 0⟩) (hm : P.follows .mixedOrders = true) (htie : Ti P fm 303 YhX) : YwH P fm ⟨pf, YhY lo :: fs57 lo, [], 0⟩ :=
  Yak hS hm [] (YhY lo) rfl YhX htie (by decide) rfl (Nat.le_of_ble_eq_true (by kernel_rfl)) (fun C hT => show LK C _ YnO from ⟨tv, ⟨⟨tv, ⟨⟨tv, tv⟩, tv⟩⟩, ⟨⟨tv, ⟨⟨tv, tv⟩, tv⟩⟩, ⟨tv, tv⟩⟩⟩⟩) (fun x y h => (Yvc lo x).trans h)
noncomputable def fs58 (lo : Lo) : List FnE := YhY lo :: fs57 lo
def q58_L3_b : VCode :=
 (.seq (.seq (.reg [mV 6 5, mV 7 0, o 8 (.lenS (t 7)), o 9 (.bin .lss (t 6) (t 8)), mV 10 9, og 11 10 true (.mv (t 5)), og 12 10 true (.mv (t 1)), og 13 10 true (.lenS (t 12)), og 14 10 true (.bin .lss (t 11) (t 13)), o 15 (.pick (t 10) (t 14) (kb false))])
 (.cond (t 15) .skip
 (.exit 0)))
 (.seq (.blk 1 (.seq (.reg [mV 18 0, mV 19 5, o 20 (.idx (t 18) (t 19)), mV 21 1, mV 22 5, o 23 (.idx (t 21) (t 22)), o 24 (.bin .neq (t 20) (t 23))])
 (.cond (t 24) (.seq (.reg [mV 25 0, mV 26 5, o 27 (.idx (t 25) (t 26)), o 28 (.conv .i64 (t 27)), mV 29 1, mV 30 5, o 31 (.idx (t 29) (t 30)), o 32 (.conv .i64 (t 31)), o 33 (.call 303 [(t 28), (t 32)]), mV 4 33])
 (.fz [4] .ret))
 .skip)))
 (.reg [mV 16 5, o 17 (.bin .add (t 16) (k 1)), mV 5 17])))
def YnP : Sg := ⟨[0, 1, 5], [.s, .s, .i .i64], [], (cs [.s, .s, I])⟩
def YnQ : List Out1 := [⟨.ret, ⟨[4], [.i .i64], [], (cs [I])⟩⟩, ⟨.exit 0, ⟨[0, 1], [.s, .s], [], (cs [.s, .s])⟩⟩]
def Yc3 (lo : Lo) : ByteArray × ByteArray × Int -> Option ((ByteArray × ByteArray × Int) ⊕ (Int ⊕ (ByteArray × ByteArray))) := fun x => match x with
  | (a0, b1, i5) => bif (decide (i5 < (a0.size : Int))) then (bif (decide (i5 < (b1.size : Int))) then (chk (0 <= i5 /\ i5 < (a0.size : Int)) (chk (0 <= i5 /\ i5 < (b1.size : Int)) (bif (!decide ((YwK a0 i5) = (YwK b1 i5))) then (chk (0 <= i5 /\ i5 < (a0.size : Int)) (chk (0 <= i5 /\ i5 < (b1.size : Int)) (Option.bind (q57 lo (IntKind.wrap .i64 (YwK a0 i5)) (IntKind.wrap .i64 (YwK b1 i5))) fun y222 => some (.inr (.inl y222))))) else (some (.inl (a0, b1, (IntKind.wrap .i64 (i5 + (1 : Int))))))))) else (some (.inr (.inr (a0, b1))))) else (some (.inr (.inr (a0, b1))))
theorem Yve (lo : Lo) : ∀ x : ByteArray × ByteArray × Int, YwY (⟨pf, fs58 lo, [], 0⟩ : Tabs) [] YnP YnQ q58_L3_b x = Yc3 lo x := fun x => by kernel_rfl
def YhZ (lo : Lo) : ByteArray × ByteArray × Int -> Option (Int ⊕ (ByteArray × ByteArray)) := lo.run (Yc3 lo)
def Yh0 (lo : Lo) : LpE := ⟨3, [], YnP, YnQ, YhZ lo⟩
theorem Yvf {lo : Lo} (hlo : LoOK lo) (C : Ctx) (hT : TOK (⟨pf, fs58 lo, [], 0⟩ : Tabs) C) : YwI (fun _ => False) [] 0 C (.loop q58_L3_b.er) (Yh0 lo) :=
  Yal hT frNo (show LK C _ q58_L3_b from ⟨⟨tv, ⟨tv, tv⟩⟩, ⟨⟨tv, ⟨⟨tv, tv⟩, tv⟩⟩, tv⟩⟩) (fun x y h => Yam (Yve lo) (hlo _ _ _ h))
def q58 (lo : Lo) (a0 : ByteArray) (b1 : ByteArray) : Option Int :=
  Option.bind (YhZ lo (a0, b1, (0 : Int))) fun y223 => alt2 y223 (fun y224 => some y224) (fun y225 => Option.bind (q57 lo (y225.1.size : Int) (y225.2.size : Int)) fun y226 => some y226)
def YnR : VCode :=
 (.seq (.reg [o 4 (.mv (k 0))])
 (.seq (.seq (.reg [o 5 (.mv (k 0))])
 (.blk 0 (.loop 3 q58_L3_b)))
 (.seq (.reg [mV 34 0, o 35 (.lenS (t 34)), mV 36 1, o 37 (.lenS (t 36)), o 38 (.call 303 [(t 35), (t 37)]), mV 4 38])
 (.fz [4] .ret))))
def Yh1 : VFn := ⟨true, 39, [.t 4], YnR⟩
def Yh2 (lo : Lo) : FnE := ⟨320, true, ⟨[0, 1], [.s, .s], [], (cs [.s, .s])⟩, .i .i64, [], (cs [I]), (fun x => q58 lo x.1 x.2 : ByteArray × ByteArray -> Option Int)⟩
theorem Yvg (lo : Lo) : ∀ x : ByteArray × ByteArray, evP (⟨pf, fs58 lo, [Yh0 lo], 0⟩ : Tabs) Yh1 ⟨[0, 1], [.s, .s], [], (cs [.s, .s])⟩ (.i .i64) (cs [I]) x = q58 lo x.1 x.2 := fun x => by kernel_rfl
theorem Yvh {P : Program} {fm : FM} {lo : Lo} (hlo : LoOK lo) (hS : YwH P fm ⟨pf, fs58 lo, [], 0⟩) (hm : P.follows .mixedOrders = true) (htie : Ti P fm 320 Yh1) : YwH P fm ⟨pf, Yh2 lo :: fs58 lo, [], 0⟩ :=
  Yak hS hm [Yh0 lo] (Yh2 lo) rfl Yh1 htie (by decide) rfl (Nat.le_of_ble_eq_true (by kernel_rfl)) (fun C hT => show LK C _ YnR from ⟨tv, ⟨⟨tv, (YwW (by kernel_rfl) (Yvf hlo C (Yai hT)))⟩, ⟨tv, tv⟩⟩⟩) (fun x y h => (Yvg lo x).trans h)
noncomputable def fs59 (lo : Lo) : List FnE := Yh2 lo :: fs58 lo
def q59 (lo : Lo) (a0_0 : Int) (a0_1 : Int) (a0_2 : ByteArray) (b1_0 : Int) (b1_1 : Int) (b1_2 : ByteArray) : Option Int :=
  Option.bind (q57 lo a0_0 b1_0) fun y220 => bif (!decide (y220 = (0 : Int))) then (some y220) else (Option.bind (q57 lo a0_1 b1_1) fun y221 => bif (!decide (y221 = (0 : Int))) then (some y221) else (Option.bind (q58 lo a0_2 b1_2) fun y227 => some y227))
def YnS : VCode :=
 (.seq (.reg [o 2 (.box (t 0)), o 3 (.box (t 1)), o 4 (.mv (k 0))])
 (.seq (.seq (.reg [fD 7 0 2, lD 8 7, fD 9 0 3, lD 10 9, o 11 (.call 303 [(t 8), (t 10)]), mV 5 11])
 (.seq (.reg [mV 12 5, o 13 (.bin .neq (t 12) (k 0))])
 (.cond (t 13) (.seq (.reg [mV 14 5, mV 4 14])
 (.fz [4] .ret))
 .skip)))
 (.seq (.seq (.reg [fD 15 1 2, lD 16 15, fD 17 1 3, lD 18 17, o 19 (.call 303 [(t 16), (t 18)]), mV 6 19])
 (.seq (.reg [mV 20 6, o 21 (.bin .neq (t 20) (k 0))])
 (.cond (t 21) (.seq (.reg [mV 22 6, mV 4 22])
 (.fz [4] .ret))
 .skip)))
 (.seq (.reg [fD 23 2 2, lD 24 23, fD 25 2 3, lD 26 25, o 27 (.call 320 [(t 24), (t 26)]), mV 4 27])
 (.fz [4] .ret)))))
def Yh3 : VFn := ⟨true, 28, [.t 4], YnS⟩
def Yh4 (lo : Lo) : FnE := ⟨302, true, ⟨[0, 1], [.ag [.i .i64, .i .i64, .s], .ag [.i .i64, .i .i64, .s]], [], (cs [I, I, .s, I, I, .s])⟩, .i .i64, [], (cs [I]), (fun x => q59 lo x.1 x.2.1 x.2.2.1 x.2.2.2.1 x.2.2.2.2.1 x.2.2.2.2.2 : Int × Int × ByteArray × Int × Int × ByteArray -> Option Int)⟩
theorem Yvi (lo : Lo) : ∀ x : Int × Int × ByteArray × Int × Int × ByteArray, evP (⟨pf, fs59 lo, [], 0⟩ : Tabs) Yh3 ⟨[0, 1], [.ag [.i .i64, .i .i64, .s], .ag [.i .i64, .i .i64, .s]], [], (cs [I, I, .s, I, I, .s])⟩ (.i .i64) (cs [I]) x = q59 lo x.1 x.2.1 x.2.2.1 x.2.2.2.1 x.2.2.2.2.1 x.2.2.2.2.2 := fun x => by kernel_rfl
theorem Yvj {P : Program} {fm : FM} {lo : Lo} (hlo : LoOK lo) (hS : YwH P fm ⟨pf, fs59 lo, [], 0⟩) (hm : P.follows .mixedOrders = true) (htie : Ti P fm 302 Yh3) : YwH P fm ⟨pf, Yh4 lo :: fs59 lo, [], 0⟩ :=
  Yak hS hm [] (Yh4 lo) rfl Yh3 htie (by decide) rfl (Nat.le_of_ble_eq_true (by kernel_rfl)) (fun C hT => show LK C _ YnS from ⟨tv, ⟨⟨tv, ⟨tv, ⟨⟨tv, tv⟩, tv⟩⟩⟩, ⟨⟨tv, ⟨tv, ⟨⟨tv, tv⟩, tv⟩⟩⟩, ⟨tv, tv⟩⟩⟩⟩) (fun x y h => (Yvi lo x).trans h)
noncomputable def fs60 (lo : Lo) : List FnE := Yh4 lo :: fs59 lo
noncomputable def fs61 (lo : Lo) : List FnE := fs60 lo
noncomputable def fs62 (lo : Lo) : List FnE := fs61 lo
noncomputable def fs63 (lo : Lo) : List FnE := fs62 lo
noncomputable def fs64 (lo : Lo) : List FnE := fs63 lo
noncomputable def fs65 (lo : Lo) : List FnE := fs64 lo
noncomputable def fs66 (lo : Lo) : List FnE := fs65 lo
end Go.Abs.G03
namespace Go.Abs.G03
open Go Go.Abs
set_option maxRecDepth 100000
set_option maxHeartbeats 1000000
noncomputable def fs67 (lo : Lo) : List FnE := fs66 lo
noncomputable def fs68 (lo : Lo) : List FnE := fs67 lo
def q68_L3_b : VCode :=
 (.seq (.seq (.reg [mV 17 11, fD 18 1 5, lD 19 18, lN 20 19, o 21 (.bin .lss (t 17) (t 20))])
 (.cond (t 21) .skip
 (.exit 0)))
 (.seq (.blk 1 (.seq (.reg [fD 24 1 4, lD 25 24, fD 26 1 5, lD 27 26, mV 28 11, o 29 (.iad 1 (t 27) (t 28)), lD 30 29, o 31 (.call 272 [(t 25), (t 30)]), mV 12 31])
 (.seq (.reg [mV 32 12, o 33 (.bin .lss (t 32) (k 0))])
 (.cond (t 33) (.reg [mV 34 10, fD 35 1 7, lD 36 35, mV 37 11, o 38 (.iad 3 (t 36) (t 37)), o 39 (.load true 3 (t 38)), o 40 (.bsl Zc4 1 [(0, (t 39))]), o 41 (.app Zc4 0 (t 34) (t 40)), mV 10 41])
 (.seq (.reg [fD 42 1 6, lD 43 42, mV 44 12, o 45 (.iad 3 (t 43) (t 44)), o 46 (.load true 3 (t 45)), fD 47 1 7, lD 48 47, mV 49 11, o 50 (.iad 3 (t 48) (t 49)), o 51 (.load true 3 (t 50)), o 52 (.call 302 [(t 46), (t 51)]), o 53 (.bin .neq (t 52) (k 0))])
 (.cond (t 53) (.seq (.reg [o 8 (.mv (ke Zc4)), o 9 (.mv (kb false))])
 (.fz [8, 9] .ret))
 .skip))))))
 (.reg [mV 22 11, o 23 (.bin .add (t 22) (k 1)), mV 11 23])))
def YnT : Sg := ⟨[4, 5, 6, 7, 10, 11], [.ptr 0 0 0, .ptr 1 0 0, .ptr 2 0 0, .ptr 3 0 0, .ref 4, .i .i64], [.st [.s, .l (cs [.s]), .l Zc1], .st [.s, .l (cs [.s]), .l Zc1], .st [.i .i64, .l Zc4], .st [.i .i64, .l Zc4], .sq Zc4], (cs [I, .s, .l (cs [.s]), .l Zc1, .s, .l (cs [.s]), .l Zc1, I, .l Zc4, I, .l Zc4, .l Zc4])⟩
def YnU : List Out1 := [⟨.ret, ⟨[8, 9], [.l Zc4, .b], [], (cs [.l Zc4, .b])⟩⟩, ⟨.exit 0, ⟨[10], [.ref 0], [.sq Zc4], (cs [.l Zc4])⟩⟩]
def YeA (lo : Lo) : Zp31 -> Option (Zp31 ⊕ ((Zt0 × Bool) ⊕ (Zt0))) := fun x => match x with
  | (i11, a4_0, a4_1, a4_2, b5_0, b5_1, b5_2, r6_0, r6_1, s7_0, s7_1, out10) => bif (decide (i11 < (b5_1.length : Int))) then (chk (0 <= i11 /\ i11 < (b5_1.length : Int)) (Option.bind (q47 lo a4_1 (b5_1.getD i11.toNat (ByteArray.mk #[]))) fun y266 => bif (decide (y266 < (0 : Int))) then (chk (0 <= i11 /\ i11 < (s7_1.length : Int)) (chk (out10.length + ([(s7_1.getD i11.toNat ((0 : Int), (0 : Int), (ByteArray.mk #[])))]).length <= maxEl) (some (.inl ((IntKind.wrap .i64 (i11 + (1 : Int))), a4_0, a4_1, a4_2, b5_0, b5_1, b5_2, r6_0, r6_1, s7_0, s7_1, (out10 ++ ([(s7_1.getD i11.toNat ((0 : Int), (0 : Int), (ByteArray.mk #[])))]))))))) else (chk (0 <= y266 /\ y266 < (r6_1.length : Int)) (chk (0 <= i11 /\ i11 < (s7_1.length : Int)) (Option.bind (q59 lo ((r6_1.getD y266.toNat ((0 : Int), (0 : Int), (ByteArray.mk #[]))).1) ((r6_1.getD y266.toNat ((0 : Int), (0 : Int), (ByteArray.mk #[]))).2.1) ((r6_1.getD y266.toNat ((0 : Int), (0 : Int), (ByteArray.mk #[]))).2.2) ((s7_1.getD i11.toNat ((0 : Int), (0 : Int), (ByteArray.mk #[]))).1) ((s7_1.getD i11.toNat ((0 : Int), (0 : Int), (ByteArray.mk #[]))).2.1) ((s7_1.getD i11.toNat ((0 : Int), (0 : Int), (ByteArray.mk #[]))).2.2)) fun y267 => bif (!decide (y267 = (0 : Int))) then (some (.inr (.inl (([] : List (Int × Int × ByteArray)), false)))) else (some (.inl ((IntKind.wrap .i64 (i11 + (1 : Int))), a4_0, a4_1, a4_2, b5_0, b5_1, b5_2, r6_0, r6_1, s7_0, s7_1, out10)))))))) else (some (.inr (.inr out10)))
theorem Yvk (lo : Lo) : ∀ x : Zp31, YwY (⟨pf, fs68 lo, [], 0⟩ : Tabs) [] YnT YnU q68_L3_b x = YeA lo x := fun x => by kernel_rfl
def Yh5 (lo : Lo) : Zp31 -> Option ((Zt0 × Bool) ⊕ (Zt0)) := lo.run (YeA lo)
def Yh6 (lo : Lo) : LpE := ⟨3, [], YnT, YnU, Yh5 lo⟩
theorem Yvl {lo : Lo} (hlo : LoOK lo) (C : Ctx) (hT : TOK (⟨pf, fs68 lo, [], 0⟩ : Tabs) C) : YwI (fun _ => False) [] 0 C (.loop q68_L3_b.er) (Yh6 lo) :=
  Yal hT frNo (show LK C _ q68_L3_b from ⟨⟨tv, ⟨tv, tv⟩⟩, ⟨⟨tv, ⟨tv, ⟨tv, ⟨tv, ⟨⟨tv, tv⟩, tv⟩⟩⟩⟩⟩, tv⟩⟩) (fun x y h => Yam (Yvk lo) (hlo _ _ _ h))
def q68 (lo : Lo) (a0_0 : ByteArray) (a0_1 : List ByteArray) (a0_2 : List (Int × Zt0)) (b1_0 : ByteArray) (b1_1 : List ByteArray) (b1_2 : List (Int × Zt0)) (r2_0 : Int) (r2_1 : List (Int × Int × ByteArray)) (s3_0 : Int) (s3_1 : List (Int × Int × ByteArray)) : Option (Zt0 × Bool) :=
  chk (r2_1.length <= maxEl) (Option.bind (Yh5 lo ((0 : Int), a0_0, a0_1, a0_2, b1_0, b1_1, b1_2, r2_0, r2_1, s3_0, s3_1, r2_1)) fun y268 => alt2 y268 (fun y269 => some (y269.1, y269.2)) (fun y270 => some (y270, true)))
def YnV : VCode :=
 (.seq (.reg [o 4 (.box (t 0)), o 5 (.box (t 1)), o 6 (.box (t 2)), o 7 (.box (t 3)), o 8 (.mv (ke Zc4)), o 9 (.mv (kb false))])
 (.seq (.reg [o 13 (.bsl Zc4 0 []), fD 14 1 6, lD 15 14, o 16 (.app Zc4 0 (t 13) (t 15)), mV 10 16])
 (.seq (.seq (.reg [o 11 (.mv (k 0))])
 (.blk 0 (.loop 3 q68_L3_b)))
 (.seq (.reg [mV 54 10, mV 8 54, o 9 (.mv (kb true))])
 (.fz [8, 9] .ret)))))
def Yh7 : VFn := ⟨true, 55, [.t 8, .t 9], YnV⟩
def Yh8 (lo : Lo) : FnE := ⟨273, true, ⟨[0, 1, 2, 3], [.ag [.s, .l (cs [.s]), .l Zc1], .ag [.s, .l (cs [.s]), .l Zc1], .ag [.i .i64, .l Zc4], .ag [.i .i64, .l Zc4]], [], Zc16⟩, .tp [.l Zc4, .b], [], (cs [.l Zc4, .b]), (fun x => q68 lo x.1 x.2.1 x.2.2.1 x.2.2.2.1 x.2.2.2.2.1 x.2.2.2.2.2.1 x.2.2.2.2.2.2.1 x.2.2.2.2.2.2.2.1 x.2.2.2.2.2.2.2.2.1 x.2.2.2.2.2.2.2.2.2 : Zp34 -> Option (Zt0 × Bool))⟩
theorem Yvm (lo : Lo) : ∀ x : Zp34, evP (⟨pf, fs68 lo, [Yh6 lo], 0⟩ : Tabs) Yh7 ⟨[0, 1, 2, 3], [.ag [.s, .l (cs [.s]), .l Zc1], .ag [.s, .l (cs [.s]), .l Zc1], .ag [.i .i64, .l Zc4], .ag [.i .i64, .l Zc4]], [], Zc16⟩ (.tp [.l Zc4, .b]) (cs [.l Zc4, .b]) x = q68 lo x.1 x.2.1 x.2.2.1 x.2.2.2.1 x.2.2.2.2.1 x.2.2.2.2.2.1 x.2.2.2.2.2.2.1 x.2.2.2.2.2.2.2.1 x.2.2.2.2.2.2.2.2.1 x.2.2.2.2.2.2.2.2.2 := fun x => by kernel_rfl
theorem Yvn {P : Program} {fm : FM} {lo : Lo} (hlo : LoOK lo) (hS : YwH P fm ⟨pf, fs68 lo, [], 0⟩) (hm : P.follows .mixedOrders = true) (htie : Ti P fm 273 Yh7) : YwH P fm ⟨pf, Yh8 lo :: fs68 lo, [], 0⟩ :=
  Yak hS hm [Yh6 lo] (Yh8 lo) rfl Yh7 htie (by decide) rfl (Nat.le_of_ble_eq_true (by kernel_rfl)) (fun C hT => show LK C _ YnV from ⟨tv, ⟨tv, ⟨⟨tv, (YwW (by kernel_rfl) (Yvl hlo C (Yai hT)))⟩, ⟨tv, tv⟩⟩⟩⟩) (fun x y h => (Yvm lo x).trans h)
noncomputable def fs69 (lo : Lo) : List FnE := Yh8 lo :: fs68 lo
noncomputable def fs70 (lo : Lo) : List FnE := fs69 lo
end Go.Abs.G03
namespace Go.Abs.G03
open Go Go.Abs
set_option maxRecDepth 100000
set_option maxHeartbeats 1000000
noncomputable def fs71 (lo : Lo) : List FnE := fs70 lo
def q71 (lo : Lo) (code0 : Int) : Option (Int × Int × ByteArray) :=
  chk ((12 : Int) ≠ 0) (bif (decide ((code0.tmod (12 : Int)) = (0 : Int))) then (some ((1 : Int), (0 : Int), (ByteArray.mk #[]))) else (bif (decide ((code0.tmod (12 : Int)) = (1 : Int))) then (some ((1 : Int), (1 : Int), (ByteArray.mk #[]))) else (bif (decide ((code0.tmod (12 : Int)) = (2 : Int))) then (some ((1 : Int), (2 : Int), (ByteArray.mk #[]))) else (bif (decide ((code0.tmod (12 : Int)) = (3 : Int))) then (some ((0 : Int), (0 : Int), (ByteArray.mk #[]))) else (bif (decide ((code0.tmod (12 : Int)) = (4 : Int))) then (some ((2 : Int), (0 : Int), (ByteArray.mk #[97]))) else (bif (decide ((code0.tmod (12 : Int)) = (5 : Int))) then (some ((2 : Int), (0 : Int), (ByteArray.mk #[98]))) else (bif (decide ((code0.tmod (12 : Int)) = (6 : Int))) then (some ((2 : Int), (0 : Int), (ByteArray.mk #[]))) else (bif (decide ((code0.tmod (12 : Int)) = (7 : Int))) then (some ((3 : Int), (1 : Int), (ByteArray.mk #[]))) else (bif (decide ((code0.tmod (12 : Int)) = (8 : Int))) then (some ((1 : Int), (-1 : Int), (ByteArray.mk #[]))) else (bif (decide ((code0.tmod (12 : Int)) = (9 : Int))) then (some ((2 : Int), (0 : Int), (ByteArray.mk #[97, 98]))) else (bif (decide ((code0.tmod (12 : Int)) = (10 : Int))) then (some ((3 : Int), (2 : Int), (ByteArray.mk #[]))) else (some ((1 : Int), (7 : Int), (ByteArray.mk #[]))))))))))))))
def YnW : VCode :=
 (.seq (.reg [o 2 (.alloc [.i .i64 0, .i .i64 0, .s (⟨#[]⟩)])])
 (.seq (.seq (.reg [mV 3 0, o 4 (.bin .rem (t 3) (ki .u8 12))])
 (.blk 0 (.seq (.reg [o 6 (.bin .eql (t 4) (ki .u8 0)), mV 5 6])
 (.cond (t 5) (.seq (.reg [o 7 (.build [.i .i64 0, .i .i64 0, .s (⟨#[]⟩)] [(0, 1, (k 1))]), on (.store 3 (t 2) (t 7))])
 (.fz [2] .ret))
 (.seq (.reg [o 9 (.bin .eql (t 4) (ki .u8 1)), mV 8 9])
 (.cond (t 8) (.seq (.reg [o 10 (.build [.i .i64 0, .i .i64 0, .s (⟨#[]⟩)] [(0, 1, (k 1)), (1, 1, (k 1))]), on (.store 3 (t 2) (t 10))])
 (.fz [2] .ret))
 (.seq (.reg [o 12 (.bin .eql (t 4) (ki .u8 2)), mV 11 12])
 (.cond (t 11) (.seq (.reg [o 13 (.build [.i .i64 0, .i .i64 0, .s (⟨#[]⟩)] [(0, 1, (k 1)), (1, 1, (k 2))]), on (.store 3 (t 2) (t 13))])
 (.fz [2] .ret))
 (.seq (.reg [o 15 (.bin .eql (t 4) (ki .u8 3)), mV 14 15])
 (.cond (t 14) (.seq (.reg [o 16 (.build [.i .i64 0, .i .i64 0, .s (⟨#[]⟩)] []), on (.store 3 (t 2) (t 16))])
 (.fz [2] .ret))
 (.seq (.reg [o 18 (.bin .eql (t 4) (ki .u8 4)), mV 17 18])
 (.cond (t 17) (.seq (.reg [o 19 (.build [.i .i64 0, .i .i64 0, .s (⟨#[]⟩)] [(0, 1, (k 2)), (2, 1, (ks (⟨#[97]⟩)))]), on (.store 3 (t 2) (t 19))])
 (.fz [2] .ret))
 (.seq (.reg [o 21 (.bin .eql (t 4) (ki .u8 5)), mV 20 21])
 (.cond (t 20) (.seq (.reg [o 22 (.build [.i .i64 0, .i .i64 0, .s (⟨#[]⟩)] [(0, 1, (k 2)), (2, 1, (ks (⟨#[98]⟩)))]), on (.store 3 (t 2) (t 22))])
 (.fz [2] .ret))
 (.seq (.reg [o 24 (.bin .eql (t 4) (ki .u8 6)), mV 23 24])
 (.cond (t 23) (.seq (.reg [o 25 (.build [.i .i64 0, .i .i64 0, .s (⟨#[]⟩)] [(0, 1, (k 2))]), on (.store 3 (t 2) (t 25))])
 (.fz [2] .ret))
 (.seq (.reg [o 27 (.bin .eql (t 4) (ki .u8 7)), mV 26 27])
 (.cond (t 26) (.seq (.reg [o 28 (.build [.i .i64 0, .i .i64 0, .s (⟨#[]⟩)] [(0, 1, (k 3)), (1, 1, (k 1))]), on (.store 3 (t 2) (t 28))])
 (.fz [2] .ret))
 (.seq (.reg [o 30 (.bin .eql (t 4) (ki .u8 8)), mV 29 30])
 (.cond (t 29) (.seq (.reg [o 31 (.build [.i .i64 0, .i .i64 0, .s (⟨#[]⟩)] [(0, 1, (k 1)), (1, 1, (k (-1)))]), on (.store 3 (t 2) (t 31))])
 (.fz [2] .ret))
 (.seq (.reg [o 33 (.bin .eql (t 4) (ki .u8 9)), mV 32 33])
 (.cond (t 32) (.seq (.reg [o 34 (.build [.i .i64 0, .i .i64 0, .s (⟨#[]⟩)] [(0, 1, (k 2)), (2, 1, (ks (⟨#[97, 98]⟩)))]), on (.store 3 (t 2) (t 34))])
 (.fz [2] .ret))
 (.seq (.reg [o 36 (.bin .eql (t 4) (ki .u8 10)), mV 35 36])
 (.cond (t 35) (.seq (.reg [o 37 (.build [.i .i64 0, .i .i64 0, .s (⟨#[]⟩)] [(0, 1, (k 3)), (1, 1, (k 2))]), on (.store 3 (t 2) (t 37))])
 (.fz [2] .ret))
 .skip))))))))))))))))))))))))
 (.seq (.reg [o 38 (.build [.i .i64 0, .i .i64 0, .s (⟨#[]⟩)] [(0, 1, (k 1)), (1, 1, (k 7))]), on (.store 3 (t 2) (t 38))])
 (.fz [2] .ret))))
def Yh9 : VFn := ⟨true, 39, [.c 2 true 3], YnW⟩
def Yia (lo : Lo) : FnE := ⟨251, true, ⟨[0], [.i .u8], [], (cs [.i .u8])⟩, .ag [.i .i64, .i .i64, .s], [], Zc4, (fun x => q71 lo x : Int -> Option (Int × Int × ByteArray))⟩
theorem Yvo (lo : Lo) : ∀ x : Int, evP (⟨pf, fs71 lo, [], 0⟩ : Tabs) Yh9 ⟨[0], [.i .u8], [], (cs [.i .u8])⟩ (.ag [.i .i64, .i .i64, .s]) Zc4 x = q71 lo x := fun x => by kernel_rfl
theorem Yvp {P : Program} {fm : FM} {lo : Lo} (hlo : LoOK lo) (hS : YwH P fm ⟨pf, fs71 lo, [], 0⟩) (hm : P.follows .mixedOrders = true) (htie : Ti P fm 251 Yh9) : YwH P fm ⟨pf, Yia lo :: fs71 lo, [], 0⟩ :=
  Yak hS hm [] (Yia lo) rfl Yh9 htie (by decide) rfl (Nat.le_of_ble_eq_true (by kernel_rfl)) (fun C hT => show LK C _ YnW from ⟨tv, ⟨⟨tv, ⟨tv, ⟨⟨tv, tv⟩, ⟨tv, ⟨⟨tv, tv⟩, ⟨tv, ⟨⟨tv, tv⟩, ⟨tv, ⟨⟨tv, tv⟩, ⟨tv, ⟨⟨tv, tv⟩, ⟨tv, ⟨⟨tv, tv⟩, ⟨tv, ⟨⟨tv, tv⟩, ⟨tv, ⟨⟨tv, tv⟩, ⟨tv, ⟨⟨tv, tv⟩, ⟨tv, ⟨⟨tv, tv⟩, ⟨tv, ⟨⟨tv, tv⟩, tv⟩⟩⟩⟩⟩⟩⟩⟩⟩⟩⟩⟩⟩⟩⟩⟩⟩⟩⟩⟩⟩⟩⟩, ⟨tv, tv⟩⟩⟩) (fun x y h => (Yvo lo x).trans h)
noncomputable def fs72 (lo : Lo) : List FnE := Yia lo :: fs71 lo
def q72_L6_b : VCode :=
 (.seq (.seq (.reg [mV 32 8, mV 33 1, o 34 (.bin .lss (t 32) (t 33))])
 (.cond (t 34) .skip
 (.exit 2)))
 (.seq (.blk 3 (.seq (.reg [o 9 (.mv (ki .u8 0))])
 (.seq (.seq (.reg [mV 37 8, fD 38 2 2, lD 39 38, mV 40 6, o 41 (.iad 1 (t 39) (t 40)), lD 42 41, lN 43 42, o 44 (.bin .lss (t 37) (t 43))])
 (.cond (t 44) (.reg [fD 45 2 2, lD 46 45, mV 47 6, o 48 (.iad 1 (t 46) (t 47)), lD 49 48, mV 50 8, o 51 (.iad 1 (t 49) (t 50)), lD 52 51, mV 9 52])
 .skip))
 (.reg [fD 53 1 7, lD 54 53, mV 55 9, o 56 (.call 251 [(t 55)]), o 57 (.bsl Zc4 1 [(0, (t 56))]), o 58 (.app Zc4 0 (t 54) (t 57)), fD 59 1 7, on (.store 1 (t 59) (t 58))]))))
 (.reg [mV 35 8, o 36 (.bin .add (t 35) (k 1)), mV 8 36])))
def YnX : Sg := ⟨[1, 2, 4, 5, 6, 7, 8], [.i .i64, .ptr 0 0 0, .ptr 1 0 0, .ptr 2 0 0, .i .i64, .ptr 3 0 0, .i .i64], [.st [.i .u8, .i .u8, .l Zc7], .st [.s, .l (cs [.s]), .l Zc1], .st [.s, .ref 4, .ref 5], .st [.i .i64, .ref 6], .sq (cs [.s]), .sq Zc1, .sq Zc4], (cs [I, I, I, .i .u8, .i .u8, .l Zc7, .s, .l (cs [.s]), .l Zc1, .s, I, .l (cs [.s]), .l Zc1, .l Zc4])⟩
def YnY : List Out1 := [⟨.exit 2, ⟨[1, 2, 4, 5, 6, 7], [.i .i64, .ptr 0 0 0, .ptr 1 0 0, .ptr 2 0 0, .i .i64, .ptr 3 0 0], [.st [.i .u8, .i .u8, .l Zc7], .st [.s, .l (cs [.s]), .l Zc1], .st [.s, .ref 4, .ref 5], .st [.i .i64, .ref 6], .sq (cs [.s]), .sq Zc1, .sq Zc4], (cs [I, I, .i .u8, .i .u8, .l Zc7, .s, .l (cs [.s]), .l Zc1, .s, I, .l (cs [.s]), .l Zc1, .l Zc4])⟩⟩]
def YeB (lo : Lo) : Zp27 -> Option (Zp27 ⊕ ((Int × Int × Int × Int × Zt11 × ByteArray × Zt2 × Zt3 × ByteArray × Int × Zt2 × Zt3 × Zt0))) := fun x => match x with
  | (n1, i6, k8, x2_0, x2_1, x2_2, v4_0, v4_1, v4_2, t5, r7, h4, h5, h6) => bif (decide (k8 < n1)) then (chk (0 <= i6 /\ i6 < (x2_2.length : Int)) (bif (decide (k8 < ((x2_2.getD i6.toNat []).length : Int))) then (chk (0 <= i6 /\ i6 < (x2_2.length : Int)) (chk (0 <= k8 /\ k8 < ((x2_2.getD i6.toNat []).length : Int)) (Option.bind (q71 lo ((x2_2.getD i6.toNat []).getD k8.toNat (0 : Int))) fun y286 => chk (h6.length + [y286].length <= maxEl) (some (.inl (n1, i6, (IntKind.wrap .i64 (k8 + (1 : Int))), x2_0, x2_1, x2_2, v4_0, v4_1, v4_2, t5, r7, h4, h5, (h6 ++ [y286]))))))) else (Option.bind (q71 lo (0 : Int)) fun y287 => chk (h6.length + [y287].length <= maxEl) (some (.inl (n1, i6, (IntKind.wrap .i64 (k8 + (1 : Int))), x2_0, x2_1, x2_2, v4_0, v4_1, v4_2, t5, r7, h4, h5, (h6 ++ [y287]))))))) else (some (.inr (n1, i6, x2_0, x2_1, x2_2, v4_0, v4_1, v4_2, t5, r7, h4, h5, h6)))
theorem Yvq (lo : Lo) : ∀ x : Zp27, YwY (⟨pf, fs72 lo, [], 0⟩ : Tabs) [(7, some 1, false)] YnX YnY q72_L6_b x = YeB lo x := fun x => by kernel_rfl
def Yib (lo : Lo) : Zp27 -> Option ((Int × Int × Int × Int × Zt11 × ByteArray × Zt2 × Zt3 × ByteArray × Int × Zt2 × Zt3 × Zt0)) := lo.run (YeB lo)
def Yc4 (lo : Lo) : LpE := ⟨6, [(7, some 1, false)], YnX, YnY, Yib lo⟩
theorem Yvr {lo : Lo} (hlo : LoOK lo) (C : Ctx) (hT : TOK (⟨pf, fs72 lo, [], 0⟩ : Tabs) C) : YwI (fun _ => False) [] 0 C (.loop q72_L6_b.er) (Yc4 lo) :=
  Yal hT frNo (show LK C _ q72_L6_b from ⟨⟨tv, ⟨tv, tv⟩⟩, ⟨⟨tv, ⟨⟨tv, ⟨tv, tv⟩⟩, tv⟩⟩, tv⟩⟩) (fun x y h => Yam (Yvq lo) (hlo _ _ _ h))
def q72_L3_b : VCode :=
 (.seq (.seq (.reg [mV 16 6, fD 17 2 2, lD 18 17, lN 19 18, o 20 (.bin .lss (t 16) (t 19))])
 (.cond (t 20) .skip
 (.exit 0)))
 (.seq (.blk 1 (.seq (.reg [mV 23 6, fD 24 1 2, lD 25 24, o 26 (.bin .rem (t 25) (ki .u8 3)), o 27 (.conv .i64 (t 26)), o 28 (.bin .add (k 1) (t 27)), o 29 (.bin .mul (t 23) (t 28)), o 30 (.bin .add (k 1) (t 29)), o 31 (.build [.i .i64 0, .e Zc4] [(0, 1, (t 30))]), o 7 (.alloc [.i .i64 0, .e Zc4]), on (.store 2 (t 7) (t 31))])
 (.seq (.seq (.reg [o 8 (.mv (k 0))])
 (.blk 2 (.loop 6 q72_L6_b)))
 (.fz [7] (.reg [fD 60 2 5, lD 61 60, o 62 (.load true 2 (t 7)), o 63 (.bsl Zc1 1 [(0, (t 62))]), o 64 (.app Zc1 0 (t 61) (t 63)), fD 65 2 5, on (.store 1 (t 65) (t 64))])))))
 (.reg [mV 21 6, o 22 (.bin .add (t 21) (k 1)), mV 6 22])))
def YnZ : Sg := ⟨[1, 2, 4, 5, 6], [.i .i64, .ptr 0 0 0, .ptr 1 0 0, .ptr 2 0 0, .i .i64], [.st [.i .u8, .i .u8, .l Zc7], .st [.s, .l (cs [.s]), .l Zc1], .st [.s, .ref 3, .ref 4], .sq (cs [.s]), .sq Zc1], (cs [I, I, .i .u8, .i .u8, .l Zc7, .s, .l (cs [.s]), .l Zc1, .s, .l (cs [.s]), .l Zc1])⟩
def Yn0 : List Out1 := [⟨.exit 0, ⟨[4, 5], [.ptr 0 0 0, .ptr 1 0 0], [.st [.s, .l (cs [.s]), .l Zc1], .st [.s, .ref 2, .ref 3], .sq (cs [.s]), .sq Zc1], Zc6⟩⟩]
def YeC (lo : Lo) : Zp32 -> Option (Zp32 ⊕ (Zp39)) := fun x => match x with
  | (n1, i6, x2_0, x2_1, x2_2, v4_0, v4_1, v4_2, t5, h3, h4) => bif (decide (i6 < (x2_2.length : Int))) then (chk ((3 : Int) ≠ 0) (Option.bind (Yib lo (n1, i6, (0 : Int), x2_0, x2_1, x2_2, v4_0, v4_1, v4_2, t5, (IntKind.wrap .i64 ((1 : Int) + (IntKind.wrap .i64 (i6 * (IntKind.wrap .i64 ((1 : Int) + (IntKind.wrap .i64 (x2_1.tmod (3 : Int))))))))), h3, h4, [])) fun y288 => chk (y288.2.2.2.2.2.2.2.2.2.2.2.1.length + ([(y288.2.2.2.2.2.2.2.2.2.1, y288.2.2.2.2.2.2.2.2.2.2.2.2)]).length <= maxEl) (some (.inl (y288.1, (IntKind.wrap .i64 (y288.2.1 + (1 : Int))), y288.2.2.1, y288.2.2.2.1, y288.2.2.2.2.1, y288.2.2.2.2.2.1, y288.2.2.2.2.2.2.1, y288.2.2.2.2.2.2.2.1, y288.2.2.2.2.2.2.2.2.1, y288.2.2.2.2.2.2.2.2.2.2.1, (y288.2.2.2.2.2.2.2.2.2.2.2.1 ++ ([(y288.2.2.2.2.2.2.2.2.2.1, y288.2.2.2.2.2.2.2.2.2.2.2.2)]))))))) else (some (.inr (v4_0, v4_1, v4_2, t5, h3, h4)))
theorem Yvs (lo : Lo) : ∀ x : Zp32, YwY (⟨pf, fs72 lo, [Yc4 lo], 0⟩ : Tabs) [(5, some 2, false)] YnZ Yn0 q72_L3_b x = YeC lo x := fun x => by kernel_rfl
def YeD (lo : Lo) : Zp32 -> Option (Zp39) := lo.run (YeC lo)
def Yic (lo : Lo) : LpE := ⟨3, [(5, some 2, false)], YnZ, Yn0, YeD lo⟩
theorem Yvt {lo : Lo} (hlo : LoOK lo) (C : Ctx) (hT : TOK (⟨pf, fs72 lo, [Yc4 lo], 0⟩ : Tabs) C) : YwI (fun _ => False) [] 0 C (.loop q72_L3_b.er) (Yic lo) :=
  Yal hT frNo (show LK C _ q72_L3_b from ⟨⟨tv, ⟨tv, tv⟩⟩, ⟨⟨tv, ⟨⟨tv, (YwW (by kernel_rfl) (Yvr hlo C (Yai hT)))⟩, tv⟩⟩, tv⟩⟩) (fun x y h => Yam (Yvs lo) (hlo _ _ _ h))
def q72 (lo : Lo) (x0_0 : Int) (x0_1 : Int) (x0_2 : List ((List Int))) (n1 : Int) : Option (ByteArray × Zt2 × Zt3) :=
  chk (0 <= (0 : Int) /\ (0 : Int) <= n1 /\ n1 <= (([(ByteArray.mk #[97]), (ByteArray.mk #[98]), (ByteArray.mk #[99]), (ByteArray.mk #[100]), (ByteArray.mk #[101]), (ByteArray.mk #[102]), (ByteArray.mk #[103]), (ByteArray.mk #[104])]).length : Int)) (chk (((([(ByteArray.mk #[97]), (ByteArray.mk #[98]), (ByteArray.mk #[99]), (ByteArray.mk #[100]), (ByteArray.mk #[101]), (ByteArray.mk #[102]), (ByteArray.mk #[103]), (ByteArray.mk #[104])]).take n1.toNat).drop 0).length <= maxEl) (Option.bind (YeD lo (n1, (0 : Int), x0_0, x0_1, x0_2, (ByteArray.mk #[]), ([] : List ByteArray), ([] : List (Int × Zt0)), (ByteArray.mk #[114]), ((([(ByteArray.mk #[97]), (ByteArray.mk #[98]), (ByteArray.mk #[99]), (ByteArray.mk #[100]), (ByteArray.mk #[101]), (ByteArray.mk #[102]), (ByteArray.mk #[103]), (ByteArray.mk #[104])]).take n1.toNat).drop 0), [])) fun y289 => some (y289.2.2.2.1, y289.2.2.2.2.1, y289.2.2.2.2.2)))
def Yn1 : VCode :=
 (.seq (.reg [o 2 (.box (t 0)), o 4 (.alloc [.s (⟨#[]⟩), .e (cs [.s]), .e Zc1])])
 (.seq (.reg [o 10 (.bsl (cs [.s]) 0 []), o 11 (.bsl (cs [.s]) 8 [(0, (ks (⟨#[97]⟩))), (1, (ks (⟨#[98]⟩))), (2, (ks (⟨#[99]⟩))), (3, (ks (⟨#[100]⟩))), (4, (ks (⟨#[101]⟩))), (5, (ks (⟨#[102]⟩))), (6, (ks (⟨#[103]⟩))), (7, (ks (⟨#[104]⟩)))]), mV 12 1, o 13 (.slcR 1 (t 11) none (some (t 12))), o 14 (.app (cs [.s]) 0 (t 10) (t 13)), o 15 (.build [.s (⟨#[]⟩), .e (cs [.s]), .e Zc1] [(0, 1, (ks (⟨#[114]⟩))), (1, 1, (t 14))]), o 5 (.alloc [.s (⟨#[]⟩), .e (cs [.s]), .e Zc1]), on (.store 3 (t 5) (t 15))])
 (.seq (.seq (.reg [o 6 (.mv (k 0))])
 (.blk 0 (.loop 3 q72_L3_b)))
 (.seq (.reg [o 66 (.load true 3 (t 5)), on (.store 3 (t 4) (t 66))])
 (.fz [4] .ret)))))
def Yid : VFn := ⟨true, 67, [.c 4 true 3], Yn1⟩
def Yie (lo : Lo) : FnE := ⟨275, true, ⟨[0, 1], [.ag [.i .u8, .i .u8, .l Zc7], .i .i64], [], (cs [.i .u8, .i .u8, .l Zc7, I])⟩, .ag [.s, .l (cs [.s]), .l Zc1], [], Zc14, (fun x => q72 lo x.1 x.2.1 x.2.2.1 x.2.2.2 : Int × Int × Zt11 × Int -> Option (ByteArray × Zt2 × Zt3))⟩
theorem Yvu (lo : Lo) : ∀ x : Int × Int × Zt11 × Int, evP (⟨pf, fs72 lo, [Yic lo, Yc4 lo], 0⟩ : Tabs) Yid ⟨[0, 1], [.ag [.i .u8, .i .u8, .l Zc7], .i .i64], [], (cs [.i .u8, .i .u8, .l Zc7, I])⟩ (.ag [.s, .l (cs [.s]), .l Zc1]) Zc14 x = q72 lo x.1 x.2.1 x.2.2.1 x.2.2.2 := fun x => by kernel_rfl
theorem Yvv {P : Program} {fm : FM} {lo : Lo} (hlo : LoOK lo) (hS : YwH P fm ⟨pf, fs72 lo, [], 0⟩) (hm : P.follows .mixedOrders = true) (htie : Ti P fm 275 Yid) : YwH P fm ⟨pf, Yie lo :: fs72 lo, [], 0⟩ :=
  Yak hS hm [Yic lo, Yc4 lo] (Yie lo) rfl Yid htie (by decide) rfl (Nat.le_of_ble_eq_true (by kernel_rfl)) (fun C hT => show LK C _ Yn1 from ⟨tv, ⟨tv, ⟨⟨tv, (YwW (by kernel_rfl) (Yvt hlo C (Yai hT)))⟩, ⟨tv, tv⟩⟩⟩⟩) (fun x y h => (Yvu lo x).trans h)
noncomputable def fs73 (lo : Lo) : List FnE := Yie lo :: fs72 lo
def q73 (lo : Lo) (x0_0 : Int) (x0_1 : Int) (x0_2 : List ((List Int))) (most1 : Int) : Option (ByteArray × Zt2 × Zt3 × Bool) :=
  bif (decide (most1 < (x0_2.length : Int))) then (some ((ByteArray.mk #[]), ([] : List ByteArray), ([] : List (Int × Zt0)), false)) else (chk ((6 : Int) ≠ 0) (Option.bind (q72 lo x0_0 x0_1 x0_2 (IntKind.wrap .i64 (x0_0.tmod (6 : Int)))) fun y290 => some (y290.1, y290.2.1, y290.2.2, true)))
def Yn2 : VCode :=
 (.seq (.reg [o 2 (.box (t 0)), o 4 (.alloc [.s (⟨#[]⟩), .e (cs [.s]), .e Zc1]), o 5 (.mv (kb false))])
 (.seq (.seq (.reg [fD 6 2 2, lD 7 6, lN 8 7, mV 9 1, o 10 (.bin .gtr (t 8) (t 9))])
 (.cond (t 10) (.seq (.reg [o 11 (.build [.s (⟨#[]⟩), .e (cs [.s]), .e Zc1] []), on (.store 3 (t 4) (t 11)), o 5 (.mv (kb false))])
 (.fz [4, 5] .ret))
 .skip))
 (.seq (.reg [o 12 (.load true 3 (t 2)), fD 13 0 2, lD 14 13, o 15 (.bin .rem (t 14) (ki .u8 6)), o 16 (.conv .i64 (t 15)), o 17 (.call 275 [(t 12), (t 16)]), on (.store 3 (t 4) (t 17)), o 5 (.mv (kb true))])
 (.fz [4, 5] .ret))))
def Yif : VFn := ⟨true, 18, [.c 4 true 3, .t 5], Yn2⟩
def Yig (lo : Lo) : FnE := ⟨239, true, ⟨[0, 1], [.ag [.i .u8, .i .u8, .l Zc7], .i .i64], [], (cs [.i .u8, .i .u8, .l Zc7, I])⟩, .tp [.ag [.s, .l (cs [.s]), .l Zc1], .b], [], (cs [.s, .l (cs [.s]), .l Zc1, .b]), (fun x => q73 lo x.1 x.2.1 x.2.2.1 x.2.2.2 : Int × Int × Zt11 × Int -> Option (ByteArray × Zt2 × Zt3 × Bool))⟩
theorem Yvw (lo : Lo) : ∀ x : Int × Int × Zt11 × Int, evP (⟨pf, fs73 lo, [], 0⟩ : Tabs) Yif ⟨[0, 1], [.ag [.i .u8, .i .u8, .l Zc7], .i .i64], [], (cs [.i .u8, .i .u8, .l Zc7, I])⟩ (.tp [.ag [.s, .l (cs [.s]), .l Zc1], .b]) (cs [.s, .l (cs [.s]), .l Zc1, .b]) x = q73 lo x.1 x.2.1 x.2.2.1 x.2.2.2 := fun x => by kernel_rfl
theorem Yvx {P : Program} {fm : FM} {lo : Lo} (hlo : LoOK lo) (hS : YwH P fm ⟨pf, fs73 lo, [], 0⟩) (hm : P.follows .mixedOrders = true) (htie : Ti P fm 239 Yif) : YwH P fm ⟨pf, Yig lo :: fs73 lo, [], 0⟩ :=
  Yak hS hm [] (Yig lo) rfl Yif htie (by decide) rfl (Nat.le_of_ble_eq_true (by kernel_rfl)) (fun C hT => show LK C _ Yn2 from ⟨tv, ⟨⟨tv, ⟨⟨tv, tv⟩, tv⟩⟩, ⟨tv, tv⟩⟩⟩) (fun x y h => (Yvw lo x).trans h)
noncomputable def fs74 (lo : Lo) : List FnE := Yig lo :: fs73 lo
def q74_L8_b : VCode :=
 (.seq (.seq (.reg [mV 17 7, fD 18 2 2, lD 19 18, lN 20 19, o 21 (.bin .lss (t 17) (t 20))])
 (.cond (t 21) .skip
 (.exit 2)))
 (.seq (.blk 3 (.seq (.reg [o 25 (.load true 3 (t 2)), o 26 (.load true 3 (t 3)), fD 27 2 2, lD 28 27, mV 29 7, o 30 (.iad 2 (t 28) (t 29)), o 31 (.load true 2 (t 30)), fD 32 2 3, lD 33 32, mV 34 5, o 35 (.iad 2 (t 33) (t 34)), o 36 (.load true 2 (t 35)), o 37 (.call 273 [(t 25), (t 26), (t 31), (t 36)]), mV 24 37, eX 38 24 0, eX 39 24 1, mV 8 38, mV 9 39])
 (.reg [mV 40 6, mV 41 40, og 42 41 false (.mv (t 9)), o 43 (.pick (t 41) (kb true) (t 42)), mV 6 43])))
 (.reg [mV 22 7, o 23 (.bin .add (t 22) (k 1)), mV 7 23])))
def Yn3 : Sg := ⟨[2, 3, 5, 6, 7], [.ptr 0 0 0, .ptr 1 0 0, .i .i64, .b, .i .i64], [.st [.s, .l (cs [.s]), .l Zc1], .st [.s, .l (cs [.s]), .l Zc1]], (cs [I, .b, I, .s, .l (cs [.s]), .l Zc1, .s, .l (cs [.s]), .l Zc1])⟩
def Yn4 : List Out1 := [⟨.exit 2, ⟨[2, 3, 5, 6], [.ptr 0 0 0, .ptr 1 0 0, .i .i64, .b], [.st [.s, .l (cs [.s]), .l Zc1], .st [.s, .l (cs [.s]), .l Zc1]], (cs [I, .b, .s, .l (cs [.s]), .l Zc1, .s, .l (cs [.s]), .l Zc1])⟩⟩]
def YeE (lo : Lo) : Zp35 -> Option (Zp35 ⊕ ((Int × Bool × ByteArray × Zt2 × Zt3 × ByteArray × Zt2 × Zt3))) := fun x => match x with
  | (i5, found6, j7, a2_0, a2_1, a2_2, b3_0, b3_1, b3_2) => bif (decide (j7 < (a2_2.length : Int))) then (chk (0 <= j7 /\ j7 < (a2_2.length : Int)) (chk (0 <= i5 /\ i5 < (b3_2.length : Int)) (Option.bind (q68 lo a2_0 a2_1 a2_2 b3_0 b3_1 b3_2 ((a2_2.getD j7.toNat ((0 : Int), [])).1) ((a2_2.getD j7.toNat ((0 : Int), [])).2) ((b3_2.getD i5.toNat ((0 : Int), [])).1) ((b3_2.getD i5.toNat ((0 : Int), [])).2)) fun y299 => bif found6 then (some (.inl (i5, true, (IntKind.wrap .i64 (j7 + (1 : Int))), a2_0, a2_1, a2_2, b3_0, b3_1, b3_2))) else (some (.inl (i5, y299.2, (IntKind.wrap .i64 (j7 + (1 : Int))), a2_0, a2_1, a2_2, b3_0, b3_1, b3_2)))))) else (some (.inr (i5, found6, a2_0, a2_1, a2_2, b3_0, b3_1, b3_2)))
theorem Yvy (lo : Lo) : ∀ x : Zp35, YwY (⟨pf, fs74 lo, [], 0⟩ : Tabs) [] Yn3 Yn4 q74_L8_b x = YeE lo x := fun x => by kernel_rfl
def Yih (lo : Lo) : Zp35 -> Option ((Int × Bool × ByteArray × Zt2 × Zt3 × ByteArray × Zt2 × Zt3)) := lo.run (YeE lo)
def Yc5 (lo : Lo) : LpE := ⟨8, [], Yn3, Yn4, Yih lo⟩
theorem Yvz {lo : Lo} (hlo : LoOK lo) (C : Ctx) (hT : TOK (⟨pf, fs74 lo, [], 0⟩ : Tabs) C) : YwI (fun _ => False) [] 0 C (.loop q74_L8_b.er) (Yc5 lo) :=
  Yal hT frNo (show LK C _ q74_L8_b from ⟨⟨tv, ⟨tv, tv⟩⟩, ⟨⟨tv, tv⟩, tv⟩⟩) (fun x y h => Yam (Yvy lo) (hlo _ _ _ h))
def q74_L3_b : VCode :=
 (.seq (.seq (.reg [mV 10 5, fD 11 2 3, lD 12 11, lN 13 12, o 14 (.bin .lss (t 10) (t 13))])
 (.cond (t 14) .skip
 (.exit 0)))
 (.seq (.blk 1 (.seq (.reg [o 6 (.mv (kb false))])
 (.seq (.seq (.reg [o 7 (.mv (k 0))])
 (.blk 2 (.loop 8 q74_L8_b)))
 (.seq (.reg [mV 44 6, o 45 (.not (t 44))])
 (.cond (t 45) (.seq (.reg [o 4 (.mv (kb false))])
 (.fz [4] .ret))
 .skip)))))
 (.reg [mV 15 5, o 16 (.bin .add (t 15) (k 1)), mV 5 16])))
def Yn5 : Sg := ⟨[2, 3, 5], [.ptr 0 0 0, .ptr 1 0 0, .i .i64], [.st [.s, .l (cs [.s]), .l Zc1], .st [.s, .l (cs [.s]), .l Zc1]], (cs [I, .s, .l (cs [.s]), .l Zc1, .s, .l (cs [.s]), .l Zc1])⟩
def Yn6 : List Out1 := [⟨.ret, ⟨[4], [.b], [], (cs [.b])⟩⟩, ⟨.exit 0, ⟨[], [], [], (cs [])⟩⟩]
def YeF (lo : Lo) : Zp36 -> Option (Zp36 ⊕ (Bool ⊕ Unit)) := fun x => match x with
  | (i5, a2_0, a2_1, a2_2, b3_0, b3_1, b3_2) => bif (decide (i5 < (b3_2.length : Int))) then (Option.bind (Yih lo (i5, false, (0 : Int), a2_0, a2_1, a2_2, b3_0, b3_1, b3_2)) fun y300 => bif (!y300.2.1) then (some (.inr (.inl false))) else (some (.inl ((IntKind.wrap .i64 (y300.1 + (1 : Int))), y300.2.2.1, y300.2.2.2.1, y300.2.2.2.2.1, y300.2.2.2.2.2.1, y300.2.2.2.2.2.2.1, y300.2.2.2.2.2.2.2)))) else (some (.inr (.inr ())))
theorem YvA (lo : Lo) : ∀ x : Zp36, YwY (⟨pf, fs74 lo, [Yc5 lo], 0⟩ : Tabs) [] Yn5 Yn6 q74_L3_b x = YeF lo x := fun x => by kernel_rfl
def Yii (lo : Lo) : Zp36 -> Option (Bool ⊕ Unit) := lo.run (YeF lo)
def Yij (lo : Lo) : LpE := ⟨3, [], Yn5, Yn6, Yii lo⟩
theorem YvB {lo : Lo} (hlo : LoOK lo) (C : Ctx) (hT : TOK (⟨pf, fs74 lo, [Yc5 lo], 0⟩ : Tabs) C) : YwI (fun _ => False) [] 0 C (.loop q74_L3_b.er) (Yij lo) :=
  Yal hT frNo (show LK C _ q74_L3_b from ⟨⟨tv, ⟨tv, tv⟩⟩, ⟨⟨tv, ⟨⟨tv, (YwW (by kernel_rfl) (Yvz hlo C (Yai hT)))⟩, ⟨tv, ⟨⟨tv, tv⟩, tv⟩⟩⟩⟩, tv⟩⟩) (fun x y h => Yam (YvA lo) (hlo _ _ _ h))
def q74 (lo : Lo) (a0_0 : ByteArray) (a0_1 : List ByteArray) (a0_2 : List (Int × Zt0)) (b1_0 : ByteArray) (b1_1 : List ByteArray) (b1_2 : List (Int × Zt0)) : Option Bool :=
  Option.bind (Yii lo ((0 : Int), a0_0, a0_1, a0_2, b1_0, b1_1, b1_2)) fun y301 => alt2 y301 (fun y302 => some y302) (fun y303 => some true)
def Yn7 : VCode :=
 (.seq (.reg [o 2 (.box (t 0)), o 3 (.box (t 1)), o 4 (.mv (kb false))])
 (.seq (.seq (.reg [o 5 (.mv (k 0))])
 (.blk 0 (.loop 3 q74_L3_b)))
 (.seq (.reg [o 4 (.mv (kb true))])
 (.fz [4] .ret))))
def Yik : VFn := ⟨true, 46, [.t 4], Yn7⟩
def Yil (lo : Lo) : FnE := ⟨240, true, ⟨[0, 1], [.ag [.s, .l (cs [.s]), .l Zc1], .ag [.s, .l (cs [.s]), .l Zc1]], [], Zc6⟩, .b, [], (cs [.b]), (fun x => q74 lo x.1 x.2.1 x.2.2.1 x.2.2.2.1 x.2.2.2.2.1 x.2.2.2.2.2 : Zp39 -> Option Bool)⟩
theorem YvC (lo : Lo) : ∀ x : Zp39, evP (⟨pf, fs74 lo, [Yij lo, Yc5 lo], 0⟩ : Tabs) Yik ⟨[0, 1], [.ag [.s, .l (cs [.s]), .l Zc1], .ag [.s, .l (cs [.s]), .l Zc1]], [], Zc6⟩ (.b) (cs [.b]) x = q74 lo x.1 x.2.1 x.2.2.1 x.2.2.2.1 x.2.2.2.2.1 x.2.2.2.2.2 := fun x => by kernel_rfl
theorem YvD {P : Program} {fm : FM} {lo : Lo} (hlo : LoOK lo) (hS : YwH P fm ⟨pf, fs74 lo, [], 0⟩) (hm : P.follows .mixedOrders = true) (htie : Ti P fm 240 Yik) : YwH P fm ⟨pf, Yil lo :: fs74 lo, [], 0⟩ :=
  Yak hS hm [Yij lo, Yc5 lo] (Yil lo) rfl Yik htie (by decide) rfl (Nat.le_of_ble_eq_true (by kernel_rfl)) (fun C hT => show LK C _ Yn7 from ⟨tv, ⟨⟨tv, (YwW (by kernel_rfl) (YvB hlo C (Yai hT)))⟩, ⟨tv, tv⟩⟩⟩) (fun x y h => (YvC lo x).trans h)
noncomputable def fs75 (lo : Lo) : List FnE := Yil lo :: fs74 lo
noncomputable def q75 (lo : Lo) (x0_0 : Int) (x0_1 : Int) (x0_2 : List ((List Int))) (s1 : Int) : Option Bool :=
  Option.bind (q73 lo x0_0 x0_1 x0_2 (8 : Int)) fun y291 => Option.bind (q44 lo) fun y292 => bif (!y292) then (Option.bind (q44 lo) fun y293 => some y293) else (bif (!y291.2.2.2) then (Option.bind (q44 lo) fun y294 => some y294) else (Option.bind (q54 lo (y291.2.1.length : Int)) fun y295 => Option.bind (q18 lo y291.1 y291.2.1 y291.2.2.1 (bits .and .u32 s1 y295)) fun y296 => Option.bind (q18 lo y291.1 y291.2.1 y291.2.2.1 (bits .or .u32 (bits .andNot .u32 y295 (bits .and .u32 s1 y295)) (bits .and .u32 (bits .and .u32 s1 y295) (IntKind.wrap .u32 ((bits .and .u32 s1 y295) - (1 : Int)))))) fun y297 => Option.bind (q36 lo y296.1 y296.2.1 y296.2.2.1 y297.1 y297.2.1 y297.2.2.1) fun y298 => bif (!decide (y296.2.2.2 = (0 : Int))) then (some false) else (bif (!decide (y297.2.2.2 = (0 : Int))) then (some false) else (bif (!decide (y298.2.2.2 = (0 : Int))) then (some false) else (bif (decide ((IntKind.wrap .i64 ((y296.2.2.1.length : Int) * (y297.2.2.1.length : Int))) < (y298.2.2.1.length : Int))) then (some false) else (Option.bind (q74 lo y298.1 y298.2.1 y298.2.2.1 y291.1 y291.2.1 y291.2.2.1) fun y304 => some y304))))))
def Yn8 : VCode :=
 (.seq (.reg [o 2 (.box (t 0)), o 4 (.mv (kb false))])
 (.seq (.reg [o 15 (.load true 3 (t 2)), o 16 (.call 239 [(t 15), (k 8)]), mV 14 16, eX 17 14 0, eX 18 14 1, o 5 (.alloc [.s (⟨#[]⟩), .e (cs [.s]), .e Zc1]), on (.store 3 (t 5) (t 17)), mV 6 18])
 (.seq (.seq (.reg [o 19 (.call 229 []), o 20 (.not (t 19)), mV 21 20, og 22 21 false (.mv (t 6)), og 23 21 false (.not (t 22)), o 24 (.pick (t 21) (kb true) (t 23))])
 (.cond (t 24) (.seq (.reg [o 25 (.call 229 []), mV 4 25])
 (.fz [4] .ret))
 .skip))
 (.seq (.reg [fD 26 1 5, lD 27 26, lN 28 27, o 29 (.call 118 [(t 28)]), mV 7 29])
 (.seq (.reg [mV 30 1, mV 31 7, o 32 (.bin .and (t 30) (t 31)), mV 1 32])
 (.seq (.reg [o 34 (.load true 3 (t 5)), mV 35 1, o 36 (.call 233 [(t 34), (t 35)]), mV 33 36, eX 37 33 0, eX 38 33 1, o 8 (.alloc [.s (⟨#[]⟩), .e (cs [.s]), .e Zc1]), on (.store 3 (t 8) (t 37)), mV 9 38])
 (.seq (.reg [o 40 (.load true 3 (t 5)), mV 41 7, mV 42 1, o 43 (.bin .andNot (t 41) (t 42)), mV 44 1, mV 45 1, o 46 (.bin .sub (t 45) (ki .u32 1)), o 47 (.bin .and (t 44) (t 46)), o 48 (.bin .or (t 43) (t 47)), o 49 (.call 233 [(t 40), (t 48)]), mV 39 49, eX 50 39 0, eX 51 39 1, o 10 (.alloc [.s (⟨#[]⟩), .e (cs [.s]), .e Zc1]), on (.store 3 (t 10) (t 50)), mV 11 51])
 (.seq (.reg [o 53 (.load true 3 (t 8)), o 54 (.load true 3 (t 10)), o 55 (.call 237 [(t 53), (t 54)]), mV 52 55, eX 56 52 0, eX 57 52 1, o 12 (.alloc [.s (⟨#[]⟩), .e (cs [.s]), .e Zc1]), on (.store 3 (t 12) (t 56)), mV 13 57])
 (.seq (.seq (.reg [mV 58 9, o 59 (.bin .neq (t 58) (k 0)), mV 60 59, og 61 60 false (.mv (t 11)), og 62 60 false (.bin .neq (t 61) (k 0)), o 63 (.pick (t 60) (kb true) (t 62)), mV 64 63, og 65 64 false (.mv (t 13)), og 66 64 false (.bin .neq (t 65) (k 0)), o 67 (.pick (t 64) (kb true) (t 66)), mV 68 67, og 69 68 false (.fad 2 (t 12)), og 70 68 false (.load false 1 (t 69)), og 71 68 false (.len (t 70)), og 72 68 false (.fad 2 (t 8)), og 73 68 false (.load false 1 (t 72)), og 74 68 false (.len (t 73)), og 75 68 false (.fad 2 (t 10)), og 76 68 false (.load false 1 (t 75)), og 77 68 false (.len (t 76)), og 78 68 false (.bin .mul (t 74) (t 77)), og 79 68 false (.bin .gtr (t 71) (t 78)), o 80 (.pick (t 68) (kb true) (t 79))])
 (.cond (t 80) (.seq (.reg [o 4 (.mv (kb false))])
 (.fz [4] .ret))
 .skip))
 (.seq (.reg [o 81 (.load true 3 (t 12)), o 82 (.load true 3 (t 5)), o 83 (.call 240 [(t 81), (t 82)]), mV 4 83])
 (.fz [4] .ret)))))))))))
def Yim : VFn := ⟨true, 84, [.t 4], Yn8⟩
noncomputable def q75_f (lo : Lo) : FnE := ⟨222, true, ⟨[0, 1], [.ag [.i .u8, .i .u8, .l Zc7], .i .u32], [], (cs [.i .u8, .i .u8, .l Zc7, .i .u32])⟩, .b, [], (cs [.b]), (fun x => q75 lo x.1 x.2.1 x.2.2.1 x.2.2.2 : Int × Int × Zt11 × Int -> Option Bool)⟩
theorem YvE (lo : Lo) : ∀ x : Int × Int × Zt11 × Int, evP (⟨pf, fs75 lo, [], 0⟩ : Tabs) Yim ⟨[0, 1], [.ag [.i .u8, .i .u8, .l Zc7], .i .u32], [], (cs [.i .u8, .i .u8, .l Zc7, .i .u32])⟩ (.b) (cs [.b]) x = q75 lo x.1 x.2.1 x.2.2.1 x.2.2.2 := fun x => by kernel_rfl
theorem YvF {P : Program} {fm : FM} {lo : Lo} (hlo : LoOK lo) (hS : YwH P fm ⟨pf, fs75 lo, [], 0⟩) (hm : P.follows .mixedOrders = true) (htie : Ti P fm 222 Yim) : YwH P fm ⟨pf, q75_f lo :: fs75 lo, [], 0⟩ :=
  Yak hS hm [] (q75_f lo) rfl Yim htie (by decide) rfl (Nat.le_of_ble_eq_true (by kernel_rfl)) (fun C hT => show LK C _ Yn8 from ⟨tv, ⟨tv, ⟨⟨tv, ⟨⟨tv, tv⟩, tv⟩⟩, ⟨tv, ⟨tv, ⟨tv, ⟨tv, ⟨tv, ⟨⟨tv, ⟨⟨tv, tv⟩, tv⟩⟩, ⟨tv, tv⟩⟩⟩⟩⟩⟩⟩⟩⟩⟩) (fun x y h => (YvE lo x).trans h)
noncomputable def fs76 (lo : Lo) : List FnE := q75_f lo :: fs75 lo
end Go.Abs.G03
