/- Functions of the program as functions of data (written by program). No condition. -/
import Derived.Test.YtkgoecnchnbbfaaB
set_option linter.unusedVariables false
set_option linter.unusedSimpArgs false
set_option linter.unusedSectionVars false
open List renaming getElem?_eq_some_iff → YBc, getElem?_eq_getElem → YBd, mem_of_getElem? → YBe, getElem?_map → YBf, map_cons → YBg, getElem?_append_left → YBh, map_nil → YBi, getElem?_append_right → YBj, append_assoc → YBk, getElem?_set_ne → YBl, getD_eq_getElem?_getD → YBm, length_eq_zero_iff → YBn, getElem?_set_self → YBo, mem_cons_self → YBp, mem_iff_getElem? → YBq, mem_cons → YBr, mem_singleton → YBs, getElem?_take → YBt, getElem?_drop → YBu, getElem?_eq_none → YBv, mem_map → YBw, length_cons → YBx, mem_append → YBy, all_eq_true → YBz, length_map → YBA, mem_cons_of_mem → YBB, mem_append_left → YBC, append_nil → YBD, cons_append → YBE, getElem?_range → YBF, mem_iff_getElem → YBG, take_length → YBH, ext_getElem? → YBI, map_map → YBJ, getElem?_replicate → YBK, nil_append → YBL, mem_filter → YBM, length_append → YBN, drop_zero → YBO, getElem?_cons_succ → YBP, any_eq_true → YBQ, getElem_mem → YBR, mem_append_right → YBS, getElem?_eq_none_iff → YBT, pairwise_cons → YBU
namespace Go.Abs.G03
open Go Go.Abs
abbrev Zt3 : Type := List (Int × Int × ByteArray)
abbrev Zt0 : Type := List (Int × Zt3)
abbrev Zc4 : Cs := cs [I, I, .s]
abbrev Zc1 : Cs := cs [I, .l Zc4]
abbrev Zt2 : Type := List ByteArray
abbrev Zc5 : Cs := cs [.s, .l (cs [.s]), .l Zc1, .s, .l (cs [.s]), .l Zc1]
abbrev Zt6 : Type := List (Int × ByteArray × Zt3)
abbrev Zc7 : Cs := cs [I, .s, .l (cs [.s]), .l Zc1, .s, .l (cs [.s]), .l Zc1, .s, .l (cs [.s]), .l Zc1, .s, .l (cs [.s]), .l Zc1]
abbrev Zc14 : Cs := cs [I, .s, .l Zc4]
abbrev Zc8 : Cs := cs [.l (cs [I]), .l Zc1, I, I, .s, .l (cs [.s]), .l Zc1, .s, .l (cs [.s]), .l Zc1, .s, I, .l Zc14, .b, .l (cs [.s]), .l Zc1]
abbrev Zt9 : Type := List (Int × ByteArray × Bool)
abbrev Zc10 : Cs := cs [.l (cs [.s])]
abbrev Zc11 : Cs := cs [.s, .l (cs [.s]), .l Zc1]
abbrev Zc12 : Cs := cs [I, I, I, .b, .b, .l (cs [.s])]
abbrev Zc13 : Cs := cs [I, I, .s, .l (cs [.s]), .l Zc1, .s, .l (cs [.s]), .l Zc1, .s, .l (cs [.s]), .l Zc1, .s, .l (cs [.s]), .l Zc1]
abbrev Zc15 : Cs := cs [.s, .l (cs [.s]), .l Zc1, I]
abbrev Zc16 : Cs := cs [I, I, I, .l (cs [.s])]
abbrev Zc17 : Cs := cs [.s, .l (cs [.s]), .l Zc1, .s, .l (cs [.s]), .l Zc1, I, .l Zc4, I, .l Zc4]
abbrev Zc18 : Cs := cs [.l (cs [I]), .l Zc1, I, I, .l Zc1, I, I, .s, .l (cs [.s]), .l Zc1, .s, .l (cs [.s]), .l Zc1, .s, I, .l Zc14, .b, I, .l Zc4, .l (cs [.s]), .l Zc1]
abbrev Zc19 : Cs := cs [.l (cs [.s]), I, I, .s, .l (cs [.s]), .l Zc1, .s, .l (cs [.s]), .l Zc1, .s, .l (cs [.s]), .l Zc1, .s, .l (cs [I]), .l (cs [.s]), .l Zc1]
abbrev Zc20 : Cs := cs [.i .u32, .l Zc1, I, I, .l Zc4, I, I, .s, .l (cs [.s]), .l Zc1, .s, I, .l (cs [I, .s, .b]), .b, I, .l (cs [.s]), .l Zc1, .l Zc4]
abbrev Zc21 : Cs := cs [I, I, .l (cs [.s])]
abbrev Zp22 : Type := (List Int) × Zt0 × Int × Int × Zt0 × Int × Int × ByteArray × Zt2 × Zt0 × ByteArray × Zt2 × Zt0 × ByteArray × Int × Zt6 × Bool × Int × Zt3 × Zt2 × Zt0
abbrev Zp23 : Type := Zt2 × Int × Int × ByteArray × Zt2 × Zt0 × ByteArray × Zt2 × Zt0 × ByteArray × Zt2 × Zt0 × ByteArray × (List Int) × Zt2 × Zt0
abbrev Zp24 : Type := (List Int) × Zt0 × Int × Int × ByteArray × Zt2 × Zt0 × ByteArray × Zt2 × Zt0 × ByteArray × Int × Zt6 × Bool × Zt2 × Zt0
abbrev Zp25 : Type := Int × Zt0 × Int × Int × Zt3 × Int × Int × ByteArray × Zt2 × Zt0 × ByteArray × Int × Zt9 × Bool × Int × Zt2 × Zt0 × Zt3
abbrev Zp26 : Type := Int × Int × Int × ByteArray × Zt2 × Zt0 × ByteArray × Zt2 × Zt0 × ByteArray × Zt2 × Zt0 × ByteArray × Zt2 × Zt0
abbrev Zp27 : Type := Int × Int × ByteArray × Zt2 × Zt0 × ByteArray × Zt2 × Zt0 × ByteArray × Zt2 × Zt0 × ByteArray × Zt2 × Zt0
abbrev Zp28 : Type := (ByteArray × Zt2 × Zt0 × ByteArray × Int × Zt6 × Bool × Zt2 × Int × Int × (List Int) × Bool × Zt2 × Zt0)
abbrev Zp29 : Type := Int × ByteArray × Zt2 × Zt0 × ByteArray × Zt2 × Zt0 × ByteArray × Zt2 × Zt0 × ByteArray × Zt2 × Zt0
abbrev Zp30 : Type := Int × Zt2 × Int × Int × ByteArray × Zt2 × Zt0 × ByteArray × Zt2 × Zt0 × ByteArray × Zt2 × Zt0
abbrev Zp31 : Type := Int × Zt0 × Int × Int × ByteArray × Zt2 × Zt0 × ByteArray × Int × Zt9 × Bool × Zt2 × Zt0
abbrev Zp32 : Type := Int × Int × ByteArray × Zt2 × Zt0 × ByteArray × Int × Zt6 × Bool × Zt2 × Zt2 × Zt0
abbrev Zp33 : Type := Int × ByteArray × Zt2 × Zt0 × ByteArray × Zt2 × Zt0 × Int × Zt3 × Int × Zt3 × Zt3
abbrev Zp34 : Type := (ByteArray × Zt2 × Zt0 × ByteArray × Int × Zt6 × Bool × Zt2 × Zt2 × Zt0)
abbrev Zp35 : Type := ByteArray × Zt2 × Zt0 × ByteArray × Zt2 × Zt0 × Int × Zt3 × Int × Zt3
abbrev Zp36 : Type := Int × ByteArray × Zt2 × Zt0 × ByteArray × Zt2 × Zt0
abbrev Zp37 : Type := Int × Zt0 × Int × Int × ByteArray × Zt2 × Zt0
abbrev Zp38 : Type := Int × Int × Int × Int × ByteArray × ByteArray
abbrev Zp39 : Type := ByteArray × Zt2 × Zt0 × ByteArray × Zt2 × Zt0
abbrev Zp40 : Type := Zt3 × Zt3 × (List Int) × Int × Int × Zt3
abbrev Zp41 : Type := Zt2 × Int × Int × ByteArray × Zt2 × Zt0
abbrev Zp42 : Type := Int × Int × Int × Bool × Bool × Zt2
abbrev Zp43 : Type := Int × Int × ByteArray × Zt2 × Zt0
abbrev mV (n a : Nat) : VI := o n (.mv (t a))
abbrev lD (n a : Nat) : VI := o n (.load false 1 (t a))
abbrev fD (n i a : Nat) : VI := o n (.fad i (t a))
abbrev eX (n a i : Nat) : VI := o n (.ext (t a) i)
abbrev lN (n a : Nat) : VI := o n (.len (t a))
theorem tv : True := trivial
abbrev LK (C : Ctx) (T : Tabs) (c : VCode) : Prop := LsOK (fun _ => False) [] C T c
set_option maxRecDepth 100000
set_option maxHeartbeats 1000000
abbrev pf : Nat -> Bool := fun g => !(List.any ([310, 277, 278, 286, 293, 149, 151, 298, 299, 309, 164, 196, 323, 324, 327, 271, 288, 301, 307, 311, 312, 313, 315, 316, 318, 319, 321, 322, 326, 269, 305] : List Nat) (Nat.beq g))
abbrev Ti (P : Program) (fm : FM) (g : Nat) (F : VFn) : Prop := ∀ f, fm f = g -> fnTr P fm pf f = some (F.slots, F.res, F.code.er)
def fs0 (_ : Lo) : List FnE := []
def q0 (lo : Lo) (n0 : Int) : Option (Int × Int × ByteArray) :=
  some ((1 : Int), n0, (ByteArray.mk #[]))
def Ymy : VCode :=
 (.seq (.reg [o 2 (.alloc [.i .i64 0, .i .i64 0, .s (⟨#[]⟩)])])
 (.seq (.reg [mV 3 0, o 4 (.build [.i .i64 0, .i .i64 0, .s (⟨#[]⟩)] [(0, 1, (k 1)), (1, 1, (t 3))]), on (.store 3 (t 2) (t 4))])
 (.fz [2] .ret)))
def Ygi : VFn := ⟨true, 5, [.c 2 true 3], Ymy⟩
def Ygj (lo : Lo) : FnE := ⟨291, true, ⟨[0], [.i .i64], [], (cs [I])⟩, .ag [.i .i64, .i .i64, .s], [], Zc4, (fun x => q0 lo x : Int -> Option (Int × Int × ByteArray))⟩
theorem YtQ (lo : Lo) : ∀ x : Int, evP (⟨pf, fs0 lo, [], 0⟩ : Tabs) Ygi ⟨[0], [.i .i64], [], (cs [I])⟩ (.ag [.i .i64, .i .i64, .s]) Zc4 x = q0 lo x := fun x => by kernel_rfl
theorem YtR {P : Program} {fm : FM} {lo : Lo} (hlo : LoOK lo) (hS : Yx2 P fm ⟨pf, fs0 lo, [], 0⟩) (hm : P.follows .mixedOrders = true) (htie : Ti P fm 291 Ygi) : Yx2 P fm ⟨pf, Ygj lo :: fs0 lo, [], 0⟩ :=
  Yah hS hm [] (Ygj lo) rfl Ygi htie (by decide) rfl (Nat.le_of_ble_eq_true (by kernel_rfl)) (fun C hT => show LK C _ Ymy from ⟨tv, ⟨tv, tv⟩⟩) (fun x y h => (YtQ lo x).trans h)
def fs1 (lo : Lo) : List FnE := Ygj lo :: fs0 lo
def q1 (lo : Lo) (s0 : ByteArray) : Option (Int × Int × ByteArray) :=
  some ((2 : Int), (0 : Int), s0)
def Ymz : VCode :=
 (.seq (.reg [o 2 (.alloc [.i .i64 0, .i .i64 0, .s (⟨#[]⟩)])])
 (.seq (.reg [mV 3 0, o 4 (.build [.i .i64 0, .i .i64 0, .s (⟨#[]⟩)] [(0, 1, (k 2)), (2, 1, (t 3))]), on (.store 3 (t 2) (t 4))])
 (.fz [2] .ret)))
def Ygk : VFn := ⟨true, 5, [.c 2 true 3], Ymz⟩
def Ygl (lo : Lo) : FnE := ⟨292, true, ⟨[0], [.s], [], (cs [.s])⟩, .ag [.i .i64, .i .i64, .s], [], Zc4, (fun x => q1 lo x : ByteArray -> Option (Int × Int × ByteArray))⟩
theorem YtS (lo : Lo) : ∀ x : ByteArray, evP (⟨pf, fs1 lo, [], 0⟩ : Tabs) Ygk ⟨[0], [.s], [], (cs [.s])⟩ (.ag [.i .i64, .i .i64, .s]) Zc4 x = q1 lo x := fun x => by kernel_rfl
theorem YtT {P : Program} {fm : FM} {lo : Lo} (hlo : LoOK lo) (hS : Yx2 P fm ⟨pf, fs1 lo, [], 0⟩) (hm : P.follows .mixedOrders = true) (htie : Ti P fm 292 Ygk) : Yx2 P fm ⟨pf, Ygl lo :: fs1 lo, [], 0⟩ :=
  Yah hS hm [] (Ygl lo) rfl Ygk htie (by decide) rfl (Nat.le_of_ble_eq_true (by kernel_rfl)) (fun C hT => show LK C _ Ymz from ⟨tv, ⟨tv, tv⟩⟩) (fun x y h => (YtS lo x).trans h)
def fs2 (lo : Lo) : List FnE := Ygl lo :: fs1 lo
def q2 (lo : Lo) : Option (ByteArray × Zt2 × Zt0) :=
  Option.bind (q0 lo (5 : Int)) fun y0 => Option.bind (q1 lo (ByteArray.mk #[120])) fun y1 => Option.bind (q0 lo (5 : Int)) fun y2 => Option.bind (q1 lo (ByteArray.mk #[121])) fun y3 => Option.bind (q0 lo (7 : Int)) fun y4 => Option.bind (q1 lo (ByteArray.mk #[120])) fun y5 => some ((ByteArray.mk #[114]), [(ByteArray.mk #[97]), (ByteArray.mk #[98])], [((1 : Int), [y0, y1]), ((2 : Int), [y2, y3]), ((4 : Int), [y4, y5])])
def YmA : VCode :=
 (.seq (.reg [o 0 (.alloc [.s (⟨#[]⟩), .e (cs [.s]), .e Zc1])])
 (.seq (.reg [o 1 (.mv (.c (.f 291)))])
 (.seq (.reg [o 2 (.mv (.c (.f 292)))])
 (.seq (.reg [o 3 (.bsl (cs [.s]) 2 [(0, (ks (⟨#[97]⟩))), (1, (ks (⟨#[98]⟩)))]), mV 4 1, o 5 (.dyn (t 4) [(k 5)]), mV 6 2, o 7 (.dyn (t 6) [(ks (⟨#[120]⟩))]), o 8 (.bsl Zc4 2 [(0, (t 5)), (1, (t 7))]), o 9 (.build [.i .i64 0, .e Zc4] [(0, 1, (k 1)), (1, 1, (t 8))]), mV 10 1, o 11 (.dyn (t 10) [(k 5)]), mV 12 2, o 13 (.dyn (t 12) [(ks (⟨#[121]⟩))]), o 14 (.bsl Zc4 2 [(0, (t 11)), (1, (t 13))]), o 15 (.build [.i .i64 0, .e Zc4] [(0, 1, (k 2)), (1, 1, (t 14))]), mV 16 1, o 17 (.dyn (t 16) [(k 7)]), mV 18 2, o 19 (.dyn (t 18) [(ks (⟨#[120]⟩))]), o 20 (.bsl Zc4 2 [(0, (t 17)), (1, (t 19))]), o 21 (.build [.i .i64 0, .e Zc4] [(0, 1, (k 4)), (1, 1, (t 20))]), o 22 (.bsl Zc1 3 [(0, (t 9)), (1, (t 15)), (2, (t 21))]), o 23 (.build [.s (⟨#[]⟩), .e (cs [.s]), .e Zc1] [(0, 1, (ks (⟨#[114]⟩))), (1, 1, (t 3)), (2, 1, (t 22))]), on (.store 3 (t 0) (t 23))])
 (.fz [0] .ret)))))
def Ygm : VFn := ⟨true, 24, [.c 0 true 3], YmA⟩
def Ygn (lo : Lo) : FnE := ⟨254, true, ⟨[], [], [], (cs [])⟩, .ag [.s, .l (cs [.s]), .l Zc1], [], Zc11, (fun x => q2 lo  : Unit -> Option (ByteArray × Zt2 × Zt0))⟩
theorem YtU (lo : Lo) : ∀ x : Unit, evP (⟨pf, fs2 lo, [], 0⟩ : Tabs) Ygm ⟨[], [], [], (cs [])⟩ (.ag [.s, .l (cs [.s]), .l Zc1]) Zc11 x = q2 lo  := fun x => by kernel_rfl
theorem YtV {P : Program} {fm : FM} {lo : Lo} (hlo : LoOK lo) (hS : Yx2 P fm ⟨pf, fs2 lo, [], 0⟩) (hm : P.follows .mixedOrders = true) (htie : Ti P fm 254 Ygm) : Yx2 P fm ⟨pf, Ygn lo :: fs2 lo, [], 0⟩ :=
  Yah hS hm [] (Ygn lo) rfl Ygm htie (by decide) rfl (Nat.le_of_ble_eq_true (by kernel_rfl)) (fun C hT => show LK C _ YmA from ⟨tv, ⟨tv, ⟨tv, ⟨tv, tv⟩⟩⟩⟩) (fun x y h => (YtU lo x).trans h)
def fs3 (lo : Lo) : List FnE := Ygn lo :: fs2 lo
def q3_L3_b : VCode :=
 (.seq (.reg [o 20 (.bin .lss (t 19) (t 18))])
 (.seq (.cond (t 20) .skip
 (.exit 0))
 (.seq (.blk 1 (.seq (.reg [mV 21 19, mV 3 21])
 (.seq (.reg [mV 22 0, mV 23 3, o 24 (.idx (t 22) (t 23)), mV 4 24])
 (.seq (.reg [mV 25 4, o 26 (.bin .geq (t 25) (ki .u8 97)), mV 27 26, og 28 27 true (.mv (t 4)), og 29 27 true (.bin .leq (t 28) (ki .u8 122)), o 30 (.pick (t 27) (t 29) (kb false)), mV 31 30, og 32 31 false (.mv (t 4)), og 33 31 false (.bin .geq (t 32) (ki .u8 65)), og 34 31 false (.mv (t 33)), og 35 34 true (.mv (t 4)), og 36 34 true (.bin .leq (t 35) (ki .u8 90)), og 37 31 false (.pick (t 34) (t 36) (kb false)), o 38 (.pick (t 31) (kb true) (t 37)), mV 39 38, og 40 39 false (.mv (t 4)), og 41 39 false (.bin .eql (t 40) (ki .u8 95)), o 42 (.pick (t 39) (kb true) (t 41)), mV 5 42])
 (.seq (.reg [mV 43 5, o 44 (.not (t 43)), mV 45 44, og 46 45 true (.mv (t 3)), og 47 45 true (.bin .eql (t 46) (k 0)), og 48 45 true (.mv (t 47)), og 49 48 false (.mv (t 4)), og 50 48 false (.bin .lss (t 49) (ki .u8 48)), og 51 45 true (.pick (t 48) (kb true) (t 50)), og 52 45 true (.mv (t 51)), og 53 52 false (.mv (t 4)), og 54 52 false (.bin .gtr (t 53) (ki .u8 57)), og 55 45 true (.pick (t 52) (kb true) (t 54)), o 56 (.pick (t 45) (t 55) (kb false))])
 (.cond (t 56) (.seq (.reg [o 2 (.mv (kb false))])
 (.fz [2] .ret))
 .skip))))))
 (.reg [o 57 (.bin .add (t 19) (k 1)), mV 19 57]))))
def YmB : Sg := ⟨[0, 18, 19], [.s, .i .i64, .i .i64], [], (cs [.s, I, I])⟩
def YmC : List Out1 := [⟨.ret, ⟨[2], [.b], [], (cs [.b])⟩⟩, ⟨.exit 0, ⟨[], [], [], (cs [])⟩⟩]
def Yd5 (lo : Lo) : ByteArray × Int × Int -> Option ((ByteArray × Int × Int) ⊕ (Bool ⊕ Unit)) := fun x => match x with
  | (s0, v18, v19) => bif (decide (v19 < v18)) then (chk (0 <= v19 /\ v19 < (s0.size : Int)) (bif (decide ((97 : Int) <= (Yx5 s0 v19))) then (bif (decide ((Yx5 s0 v19) <= (122 : Int))) then (bif (!true) then (bif (decide (v19 = (0 : Int))) then (some (.inr (.inl false))) else (bif (decide ((Yx5 s0 v19) < (48 : Int))) then (some (.inr (.inl false))) else (bif (decide ((57 : Int) < (Yx5 s0 v19))) then (some (.inr (.inl false))) else (some (.inl (s0, v18, (IntKind.wrap .i64 (v19 + (1 : Int))))))))) else (some (.inl (s0, v18, (IntKind.wrap .i64 (v19 + (1 : Int))))))) else (bif (decide ((65 : Int) <= (Yx5 s0 v19))) then (bif (decide ((Yx5 s0 v19) <= (90 : Int))) then (bif (!true) then (bif (decide (v19 = (0 : Int))) then (some (.inr (.inl false))) else (bif (decide ((Yx5 s0 v19) < (48 : Int))) then (some (.inr (.inl false))) else (bif (decide ((57 : Int) < (Yx5 s0 v19))) then (some (.inr (.inl false))) else (some (.inl (s0, v18, (IntKind.wrap .i64 (v19 + (1 : Int))))))))) else (some (.inl (s0, v18, (IntKind.wrap .i64 (v19 + (1 : Int))))))) else (bif (!(decide ((Yx5 s0 v19) = (95 : Int)))) then (bif (decide (v19 = (0 : Int))) then (some (.inr (.inl false))) else (bif (decide ((Yx5 s0 v19) < (48 : Int))) then (some (.inr (.inl false))) else (bif (decide ((57 : Int) < (Yx5 s0 v19))) then (some (.inr (.inl false))) else (some (.inl (s0, v18, (IntKind.wrap .i64 (v19 + (1 : Int))))))))) else (some (.inl (s0, v18, (IntKind.wrap .i64 (v19 + (1 : Int)))))))) else (bif (!(decide ((Yx5 s0 v19) = (95 : Int)))) then (bif (decide (v19 = (0 : Int))) then (some (.inr (.inl false))) else (bif (decide ((Yx5 s0 v19) < (48 : Int))) then (some (.inr (.inl false))) else (bif (decide ((57 : Int) < (Yx5 s0 v19))) then (some (.inr (.inl false))) else (some (.inl (s0, v18, (IntKind.wrap .i64 (v19 + (1 : Int))))))))) else (some (.inl (s0, v18, (IntKind.wrap .i64 (v19 + (1 : Int))))))))) else (bif (decide ((65 : Int) <= (Yx5 s0 v19))) then (bif (decide ((Yx5 s0 v19) <= (90 : Int))) then (bif (!true) then (bif (decide (v19 = (0 : Int))) then (some (.inr (.inl false))) else (bif (decide ((Yx5 s0 v19) < (48 : Int))) then (some (.inr (.inl false))) else (bif (decide ((57 : Int) < (Yx5 s0 v19))) then (some (.inr (.inl false))) else (some (.inl (s0, v18, (IntKind.wrap .i64 (v19 + (1 : Int))))))))) else (some (.inl (s0, v18, (IntKind.wrap .i64 (v19 + (1 : Int))))))) else (bif (!(decide ((Yx5 s0 v19) = (95 : Int)))) then (bif (decide (v19 = (0 : Int))) then (some (.inr (.inl false))) else (bif (decide ((Yx5 s0 v19) < (48 : Int))) then (some (.inr (.inl false))) else (bif (decide ((57 : Int) < (Yx5 s0 v19))) then (some (.inr (.inl false))) else (some (.inl (s0, v18, (IntKind.wrap .i64 (v19 + (1 : Int))))))))) else (some (.inl (s0, v18, (IntKind.wrap .i64 (v19 + (1 : Int)))))))) else (bif (!(decide ((Yx5 s0 v19) = (95 : Int)))) then (bif (decide (v19 = (0 : Int))) then (some (.inr (.inl false))) else (bif (decide ((Yx5 s0 v19) < (48 : Int))) then (some (.inr (.inl false))) else (bif (decide ((57 : Int) < (Yx5 s0 v19))) then (some (.inr (.inl false))) else (some (.inl (s0, v18, (IntKind.wrap .i64 (v19 + (1 : Int))))))))) else (some (.inl (s0, v18, (IntKind.wrap .i64 (v19 + (1 : Int)))))))))) else (some (.inr (.inr ())))
theorem YtW (lo : Lo) : ∀ x : ByteArray × Int × Int, Yyf (⟨pf, fs3 lo, [], 0⟩ : Tabs) [] YmB YmC q3_L3_b x = Yd5 lo x := fun x => by kernel_rfl
def Ygo (lo : Lo) : ByteArray × Int × Int -> Option (Bool ⊕ Unit) := lo.run (Yd5 lo)
def Ygp (lo : Lo) : LpE := ⟨3, [], YmB, YmC, Ygo lo⟩
theorem YtX {lo : Lo} (hlo : LoOK lo) (C : Ctx) (hT : TOK (⟨pf, fs3 lo, [], 0⟩ : Tabs) C) : Yx3 (fun _ => False) [] 0 C (.loop q3_L3_b.er) (Ygp lo) :=
  Yak hT frNo (show LK C _ q3_L3_b from ⟨tv, ⟨⟨tv, tv⟩, ⟨⟨tv, ⟨tv, ⟨tv, ⟨tv, ⟨⟨tv, tv⟩, tv⟩⟩⟩⟩⟩, tv⟩⟩⟩) (fun x y h => Yal (YtW lo) (hlo _ _ _ h))
def q3 (lo : Lo) (s0 : ByteArray) : Option Bool :=
  bif (decide (s0 = (ByteArray.mk #[]))) then (some false) else (bif (decide ((24 : Int) < (s0.size : Int))) then (some false) else (bif (decide (s0 = (ByteArray.mk #[110, 117, 108, 108]))) then (some false) else (Option.bind (Ygo lo (s0, (s0.size : Int), (0 : Int))) fun y7 => alt2 y7 (fun y8 => some y8) (fun y9 => some true))))
def YmD : VCode :=
 (.seq (.reg [o 2 (.mv (kb false))])
 (.seq (.seq (.reg [mV 6 0, o 7 (.bin .eql (t 6) (ks (⟨#[]⟩))), mV 8 7, og 9 8 false (.mv (t 0)), og 10 8 false (.lenS (t 9)), og 11 8 false (.bin .gtr (t 10) (k 24)), o 12 (.pick (t 8) (kb true) (t 11)), mV 13 12, og 14 13 false (.mv (t 0)), og 15 13 false (.bin .eql (t 14) (ks (⟨#[110, 117, 108, 108]⟩))), o 16 (.pick (t 13) (kb true) (t 15))])
 (.cond (t 16) (.seq (.reg [o 2 (.mv (kb false))])
 (.fz [2] .ret))
 .skip))
 (.seq (.seq (.reg [mV 17 0, o 18 (.lenS (t 17)), o 19 (.mv (k 0))])
 (.blk 0 (.loop 3 q3_L3_b)))
 (.seq (.reg [o 2 (.mv (kb true))])
 (.fz [2] .ret)))))
def Ygq : VFn := ⟨true, 58, [.t 2], YmD⟩
def Ygr (lo : Lo) : FnE := ⟨255, true, ⟨[0], [.s], [], (cs [.s])⟩, .b, [], (cs [.b]), (fun x => q3 lo x : ByteArray -> Option Bool)⟩
theorem YtY (lo : Lo) : ∀ x : ByteArray, evP (⟨pf, fs3 lo, [Ygp lo], 0⟩ : Tabs) Ygq ⟨[0], [.s], [], (cs [.s])⟩ (.b) (cs [.b]) x = q3 lo x := fun x => by kernel_rfl
theorem YtZ {P : Program} {fm : FM} {lo : Lo} (hlo : LoOK lo) (hS : Yx2 P fm ⟨pf, fs3 lo, [], 0⟩) (hm : P.follows .mixedOrders = true) (htie : Ti P fm 255 Ygq) : Yx2 P fm ⟨pf, Ygr lo :: fs3 lo, [], 0⟩ :=
  Yah hS hm [Ygp lo] (Ygr lo) rfl Ygq htie (by decide) rfl (Nat.le_of_ble_eq_true (by kernel_rfl)) (fun C hT => show LK C _ YmD from ⟨tv, ⟨⟨tv, ⟨⟨tv, tv⟩, tv⟩⟩, ⟨⟨tv, (Yye (by kernel_rfl) (YtX hlo C (Yaf hT)))⟩, ⟨tv, tv⟩⟩⟩⟩) (fun x y h => (YtY lo x).trans h)
def fs4 (lo : Lo) : List FnE := Ygr lo :: fs3 lo
def q4_L3_b : VCode :=
 (.seq (.reg [o 9 (.bin .lss (t 8) (t 7))])
 (.seq (.cond (t 9) .skip
 (.exit 0))
 (.seq (.blk 1 (.seq (.reg [mV 10 8, mV 5 10])
 (.seq (.reg [mV 11 1, mV 12 0, mV 13 5, o 14 (.iad 1 (t 12) (t 13)), lD 15 14, o 16 (.bin .eql (t 11) (t 15))])
 (.cond (t 16) (.seq (.reg [mV 17 5, mV 4 17])
 (.fz [4] .ret))
 .skip))))
 (.reg [o 18 (.bin .add (t 8) (k 1)), mV 8 18]))))
def YmE : Sg := ⟨[0, 1, 7, 8], [.l (cs [.s]), .s, .i .i64, .i .i64], [], (cs [.l (cs [.s]), .s, I, I])⟩
def YmF : List Out1 := [⟨.ret, ⟨[4], [.i .i64], [], (cs [I])⟩⟩, ⟨.exit 0, ⟨[], [], [], (cs [])⟩⟩]
def Yd6 (lo : Lo) : Zt2 × ByteArray × Int × Int -> Option ((Zt2 × ByteArray × Int × Int) ⊕ (Int ⊕ Unit)) := fun x => match x with
  | (s0, v1, v7, v8) => bif (decide (v8 < v7)) then (chk (0 <= v8 /\ v8 < (s0.length : Int)) (bif (decide (v1 = (s0.getD v8.toNat (ByteArray.mk #[])))) then (some (.inr (.inl v8))) else (some (.inl (s0, v1, v7, (IntKind.wrap .i64 (v8 + (1 : Int)))))))) else (some (.inr (.inr ())))
theorem Yt0 (lo : Lo) : ∀ x : Zt2 × ByteArray × Int × Int, Yyf (⟨pf, fs4 lo, [], 0⟩ : Tabs) [] YmE YmF q4_L3_b x = Yd6 lo x := fun x => by kernel_rfl
def Ygs (lo : Lo) : Zt2 × ByteArray × Int × Int -> Option (Int ⊕ Unit) := lo.run (Yd6 lo)
def Ygt (lo : Lo) : LpE := ⟨3, [], YmE, YmF, Ygs lo⟩
theorem Yt1 {lo : Lo} (hlo : LoOK lo) (C : Ctx) (hT : TOK (⟨pf, fs4 lo, [], 0⟩ : Tabs) C) : Yx3 (fun _ => False) [] 0 C (.loop q4_L3_b.er) (Ygt lo) :=
  Yak hT frNo (show LK C _ q4_L3_b from ⟨tv, ⟨⟨tv, tv⟩, ⟨⟨tv, ⟨tv, ⟨⟨tv, tv⟩, tv⟩⟩⟩, tv⟩⟩⟩) (fun x y h => Yal (Yt0 lo) (hlo _ _ _ h))
def q4 (lo : Lo) (s0 : List ByteArray) (v1 : ByteArray) : Option Int :=
  Option.bind (Ygs lo (s0, v1, (s0.length : Int), (0 : Int))) fun y12 => alt2 y12 (fun y13 => some y13) (fun y14 => some (-1 : Int))
def YmG : VCode :=
 (.seq (.reg [o 4 (.mv (k 0))])
 (.seq (.seq (.reg [mV 6 0, lN 7 6, o 8 (.mv (k 0))])
 (.blk 0 (.loop 3 q4_L3_b)))
 (.seq (.reg [o 4 (.mv (k (-1)))])
 (.fz [4] .ret))))
def Ygu : VFn := ⟨true, 19, [.t 4], YmG⟩
def Ygv (lo : Lo) : FnE := ⟨173, true, ⟨[0, 1], [.l (cs [.s]), .s], [], (cs [.l (cs [.s]), .s])⟩, .i .i64, [], (cs [I]), (fun x => q4 lo x.1 x.2 : Zt2 × ByteArray -> Option Int)⟩
theorem Yt2 (lo : Lo) : ∀ x : Zt2 × ByteArray, evP (⟨pf, fs4 lo, [Ygt lo], 0⟩ : Tabs) Ygu ⟨[0, 1], [.l (cs [.s]), .s], [], (cs [.l (cs [.s]), .s])⟩ (.i .i64) (cs [I]) x = q4 lo x.1 x.2 := fun x => by kernel_rfl
theorem Yt3 {P : Program} {fm : FM} {lo : Lo} (hlo : LoOK lo) (hS : Yx2 P fm ⟨pf, fs4 lo, [], 0⟩) (hm : P.follows .mixedOrders = true) (htie : Ti P fm 173 Ygu) : Yx2 P fm ⟨pf, Ygv lo :: fs4 lo, [], 0⟩ :=
  Yah hS hm [Ygt lo] (Ygv lo) rfl Ygu htie (by decide) rfl (Nat.le_of_ble_eq_true (by kernel_rfl)) (fun C hT => show LK C _ YmG from ⟨tv, ⟨⟨tv, (Yye (by kernel_rfl) (Yt1 hlo C (Yaf hT)))⟩, ⟨tv, tv⟩⟩⟩) (fun x y h => (Yt2 lo x).trans h)
def fs5 (lo : Lo) : List FnE := Ygv lo :: fs4 lo
def q5 (lo : Lo) (s0 : List ByteArray) (v1 : ByteArray) : Option Bool :=
  Option.bind (q4 lo s0 v1) fun y15 => some (decide ((0 : Int) <= y15))
def YmH : VCode :=
 (.seq (.reg [o 4 (.mv (kb false))])
 (.seq (.reg [mV 5 0, mV 6 1, o 7 (.call 173 [(t 5), (t 6)]), o 8 (.bin .geq (t 7) (k 0)), mV 4 8])
 (.fz [4] .ret)))
def Ygw : VFn := ⟨true, 9, [.t 4], YmH⟩
def Ygx (lo : Lo) : FnE := ⟨256, true, ⟨[0, 1], [.l (cs [.s]), .s], [], (cs [.l (cs [.s]), .s])⟩, .b, [], (cs [.b]), (fun x => q5 lo x.1 x.2 : Zt2 × ByteArray -> Option Bool)⟩
theorem Yt4 (lo : Lo) : ∀ x : Zt2 × ByteArray, evP (⟨pf, fs5 lo, [], 0⟩ : Tabs) Ygw ⟨[0, 1], [.l (cs [.s]), .s], [], (cs [.l (cs [.s]), .s])⟩ (.b) (cs [.b]) x = q5 lo x.1 x.2 := fun x => by kernel_rfl
theorem Yt5 {P : Program} {fm : FM} {lo : Lo} (hlo : LoOK lo) (hS : Yx2 P fm ⟨pf, fs5 lo, [], 0⟩) (hm : P.follows .mixedOrders = true) (htie : Ti P fm 256 Ygw) : Yx2 P fm ⟨pf, Ygx lo :: fs5 lo, [], 0⟩ :=
  Yah hS hm [] (Ygx lo) rfl Ygw htie (by decide) rfl (Nat.le_of_ble_eq_true (by kernel_rfl)) (fun C hT => show LK C _ YmH from ⟨tv, ⟨tv, tv⟩⟩) (fun x y h => (Yt4 lo x).trans h)
def fs6 (lo : Lo) : List FnE := Ygx lo :: fs5 lo
def q6 (lo : Lo) (v0_0 : Int) (v0_1 : Int) (v0_2 : ByteArray) : Option Bool :=
  bif (decide (v0_0 = (0 : Int))) then (bif (decide (v0_1 = (0 : Int))) then (some (decide (v0_2 = (ByteArray.mk #[])))) else (some false)) else (bif (decide (v0_0 = (1 : Int))) then (some (decide (v0_2 = (ByteArray.mk #[])))) else (bif (decide (v0_0 = (2 : Int))) then (bif (decide (v0_1 = (0 : Int))) then (some (decide ((v0_2.size : Int) <= (200 : Int)))) else (some false)) else (bif (decide (v0_0 = (3 : Int))) then (bif (decide ((1 : Int) <= v0_1)) then (some (decide (v0_2 = (ByteArray.mk #[])))) else (some false)) else (some false))))
def YmI : VCode :=
 (.seq (.reg [o 1 (.box (t 0)), o 2 (.mv (kb false))])
 (.seq (.seq (.reg [fD 3 0 1, lD 4 3])
 (.blk 0 (.seq (.reg [o 6 (.bin .eql (t 4) (k 0)), mV 5 6])
 (.cond (t 5) (.seq (.reg [fD 7 1 1, lD 8 7, o 9 (.bin .eql (t 8) (k 0)), mV 10 9, og 11 10 true (.fad 2 (t 1)), og 12 10 true (.load false 1 (t 11)), og 13 10 true (.bin .eql (t 12) (ks (⟨#[]⟩))), o 14 (.pick (t 10) (t 13) (kb false)), mV 2 14])
 (.fz [2] .ret))
 (.seq (.reg [o 16 (.bin .eql (t 4) (k 1)), mV 15 16])
 (.cond (t 15) (.seq (.reg [fD 17 2 1, lD 18 17, o 19 (.bin .eql (t 18) (ks (⟨#[]⟩))), mV 2 19])
 (.fz [2] .ret))
 (.seq (.reg [o 21 (.bin .eql (t 4) (k 2)), mV 20 21])
 (.cond (t 20) (.seq (.reg [fD 22 1 1, lD 23 22, o 24 (.bin .eql (t 23) (k 0)), mV 25 24, og 26 25 true (.fad 2 (t 1)), og 27 25 true (.load false 1 (t 26)), og 28 25 true (.lenS (t 27)), og 29 25 true (.bin .leq (t 28) (k 200)), o 30 (.pick (t 25) (t 29) (kb false)), mV 2 30])
 (.fz [2] .ret))
 (.seq (.reg [o 32 (.bin .eql (t 4) (k 3)), mV 31 32])
 (.cond (t 31) (.seq (.reg [fD 33 1 1, lD 34 33, o 35 (.bin .geq (t 34) (k 1)), mV 36 35, og 37 36 true (.fad 2 (t 1)), og 38 36 true (.load false 1 (t 37)), og 39 36 true (.bin .eql (t 38) (ks (⟨#[]⟩))), o 40 (.pick (t 36) (t 39) (kb false)), mV 2 40])
 (.fz [2] .ret))
 .skip))))))))))
 (.seq (.reg [o 2 (.mv (kb false))])
 (.fz [2] .ret))))
def Ygy : VFn := ⟨true, 41, [.t 2], YmI⟩
def Ygz (lo : Lo) : FnE := ⟨283, true, ⟨[0], [.ag [.i .i64, .i .i64, .s]], [], Zc4⟩, .b, [], (cs [.b]), (fun x => q6 lo x.1 x.2.1 x.2.2 : Int × Int × ByteArray -> Option Bool)⟩
theorem Yt6 (lo : Lo) : ∀ x : Int × Int × ByteArray, evP (⟨pf, fs6 lo, [], 0⟩ : Tabs) Ygy ⟨[0], [.ag [.i .i64, .i .i64, .s]], [], Zc4⟩ (.b) (cs [.b]) x = q6 lo x.1 x.2.1 x.2.2 := fun x => by kernel_rfl
theorem Yt7 {P : Program} {fm : FM} {lo : Lo} (hlo : LoOK lo) (hS : Yx2 P fm ⟨pf, fs6 lo, [], 0⟩) (hm : P.follows .mixedOrders = true) (htie : Ti P fm 283 Ygy) : Yx2 P fm ⟨pf, Ygz lo :: fs6 lo, [], 0⟩ :=
  Yah hS hm [] (Ygz lo) rfl Ygy htie (by decide) rfl (Nat.le_of_ble_eq_true (by kernel_rfl)) (fun C hT => show LK C _ YmI from ⟨tv, ⟨⟨tv, ⟨tv, ⟨⟨tv, tv⟩, ⟨tv, ⟨⟨tv, tv⟩, ⟨tv, ⟨⟨tv, tv⟩, ⟨tv, ⟨⟨tv, tv⟩, tv⟩⟩⟩⟩⟩⟩⟩⟩⟩, ⟨tv, tv⟩⟩⟩) (fun x y h => (Yt6 lo x).trans h)
def fs7 (lo : Lo) : List FnE := Ygz lo :: fs6 lo
def q7 (lo : Lo) (v0_0 : Int) (v0_1 : Int) (v0_2 : ByteArray) : Option Bool :=
  Option.bind (q6 lo v0_0 v0_1 v0_2) fun y20 => some (!y20)
def YmJ : VCode :=
 (.seq (.reg [o 1 (.box (t 0)), o 2 (.mv (kb false))])
 (.seq (.reg [o 3 (.load true 3 (t 1)), o 4 (.call 283 [(t 3)]), o 5 (.not (t 4)), mV 2 5])
 (.fz [2] .ret)))
def YgA : VFn := ⟨true, 6, [.t 2], YmJ⟩
def YgB (lo : Lo) : FnE := ⟨294, true, ⟨[0], [.ag [.i .i64, .i .i64, .s]], [], Zc4⟩, .b, [], (cs [.b]), (fun x => q7 lo x.1 x.2.1 x.2.2 : Int × Int × ByteArray -> Option Bool)⟩
theorem Yt8 (lo : Lo) : ∀ x : Int × Int × ByteArray, evP (⟨pf, fs7 lo, [], 0⟩ : Tabs) YgA ⟨[0], [.ag [.i .i64, .i .i64, .s]], [], Zc4⟩ (.b) (cs [.b]) x = q7 lo x.1 x.2.1 x.2.2 := fun x => by kernel_rfl
theorem Yt9 {P : Program} {fm : FM} {lo : Lo} (hlo : LoOK lo) (hS : Yx2 P fm ⟨pf, fs7 lo, [], 0⟩) (hm : P.follows .mixedOrders = true) (htie : Ti P fm 294 YgA) : Yx2 P fm ⟨pf, YgB lo :: fs7 lo, [], 0⟩ :=
  Yah hS hm [] (YgB lo) rfl YgA htie (by decide) rfl (Nat.le_of_ble_eq_true (by kernel_rfl)) (fun C hT => show LK C _ YmJ from ⟨tv, ⟨tv, tv⟩⟩) (fun x y h => (Yt8 lo x).trans h)
def fs8 (lo : Lo) : List FnE := YgB lo :: fs7 lo
def q8_L3_b : VCode :=
 (.seq (.reg [o 9 (.bin .lss (t 8) (t 7))])
 (.seq (.cond (t 9) .skip
 (.exit 0))
 (.seq (.blk 1 (.seq (.reg [mV 10 8, mV 5 10])
 (.seq (.reg [mV 11 1, mV 12 0, mV 13 5, o 14 (.iad 3 (t 12) (t 13)), o 15 (.load true 3 (t 14)), o 16 (.dyn (t 11) [(t 15)])])
 (.cond (t 16) (.seq (.reg [mV 17 5, mV 4 17])
 .ret)
 .skip))))
 (.reg [o 18 (.bin .add (t 8) (k 1)), mV 8 18]))))
def YmK : Sg := ⟨[0, 1, 7, 8], [.l Zc4, .clo 294 [], .i .i64, .i .i64], [], (cs [.l Zc4, I, I])⟩
def YmL : List Out1 := [⟨.ret, ⟨[4], [.i .i64], [], (cs [I])⟩⟩, ⟨.exit 0, ⟨[], [], [], (cs [])⟩⟩]
def Yd7 (lo : Lo) : Zt3 × Int × Int -> Option ((Zt3 × Int × Int) ⊕ (Int ⊕ Unit)) := fun x => match x with
  | (s0, v7, v8) => bif (decide (v8 < v7)) then (chk (0 <= v8 /\ v8 < (s0.length : Int)) (Option.bind (q7 lo ((s0.getD v8.toNat ((0 : Int), (0 : Int), (ByteArray.mk #[]))).1) ((s0.getD v8.toNat ((0 : Int), (0 : Int), (ByteArray.mk #[]))).2.1) ((s0.getD v8.toNat ((0 : Int), (0 : Int), (ByteArray.mk #[]))).2.2)) fun y21 => bif y21 then (some (.inr (.inl v8))) else (some (.inl (s0, v7, (IntKind.wrap .i64 (v8 + (1 : Int)))))))) else (some (.inr (.inr ())))
theorem Yua (lo : Lo) : ∀ x : Zt3 × Int × Int, Yyf (⟨pf, fs8 lo, [], 0⟩ : Tabs) [] YmK YmL q8_L3_b x = Yd7 lo x := fun x => by kernel_rfl
def YgC (lo : Lo) : Zt3 × Int × Int -> Option (Int ⊕ Unit) := lo.run (Yd7 lo)
def Yd8 (lo : Lo) : LpE := ⟨3, [], YmK, YmL, YgC lo⟩
theorem Yub {lo : Lo} (hlo : LoOK lo) (C : Ctx) (hT : TOK (⟨pf, fs8 lo, [], 0⟩ : Tabs) C) {Fr : Nat -> Prop} {H0 : Heap} (hf : FrOK Fr H0) : Yx3 Fr H0 0 C (.loop q8_L3_b.er) (Yd8 lo) :=
  Yak hT hf (show LsOK Fr H0 C (⟨pf, fs8 lo, [], 0⟩ : Tabs) q8_L3_b from ⟨tv, ⟨⟨tv, tv⟩, ⟨⟨tv, ⟨tv, ⟨⟨tv, tv⟩, tv⟩⟩⟩, tv⟩⟩⟩) (fun x y h => Yal (Yua lo) (hlo _ _ _ h))
def q8 (lo : Lo) (s0 : List (Int × Int × ByteArray)) : Option Int :=
  Option.bind (YgC lo (s0, (s0.length : Int), (0 : Int))) fun y22 => alt2 y22 (fun y23 => some y23) (fun y24 => some (-1 : Int))
def YmM : VCode :=
 (.seq (.reg [o 4 (.mv (k 0))])
 (.seq (.seq (.reg [mV 6 0, lN 7 6, o 8 (.mv (k 0))])
 (.blk 0 (.loop 3 q8_L3_b)))
 (.seq (.reg [o 4 (.mv (k (-1)))])
 .ret)))
def YgD : VFn := ⟨true, 19, [.t 4], YmM⟩
def YgE (lo : Lo) : FnE := ⟨309, false, ⟨[0, 1], [.l Zc4, .clo 294 []], [], (cs [.l Zc4])⟩, .i .i64, [], (cs [I]), (fun x => q8 lo x : Zt3 -> Option Int)⟩
theorem Yuc (lo : Lo) : ∀ x : Zt3, evI (⟨pf, fs8 lo, [Yd8 lo], 0⟩ : Tabs) YgD ⟨[0, 1], [.l Zc4, .clo 294 []], [], (cs [.l Zc4])⟩ (.i .i64) [] (cs [I]) x = q8 lo x := fun x => by kernel_rfl
theorem Yud {P : Program} {fm : FM} {lo : Lo} (hlo : LoOK lo) (hS : Yx2 P fm ⟨pf, fs8 lo, [], 0⟩) (hm : P.follows .mixedOrders = true) (htie : Ti P fm 309 YgD) : Yx2 P fm ⟨pf, YgE lo :: fs8 lo, [], 0⟩ :=
  Ybf hS hm [Yd8 lo] (YgE lo) rfl YgD htie (by decide) rfl (Nat.le_of_ble_eq_true (by kernel_rfl)) (fun C hT Fr H0 hf => show LsOK Fr H0 C (⟨pf, fs8 lo, [Yd8 lo], 0⟩ : Tabs) YmM from ⟨tv, ⟨⟨tv, (Yye (by kernel_rfl) (Yub hlo C (Yaf hT) hf))⟩, ⟨tv, tv⟩⟩⟩) (fun x y h => (Yuc lo x).trans h)
def fs9 (lo : Lo) : List FnE := YgE lo :: fs8 lo
def q9 (lo : Lo) (s0 : List (Int × Int × ByteArray)) : Option Bool :=
  Option.bind (q8 lo s0) fun y25 => some (decide ((0 : Int) <= y25))
def YmN : VCode :=
 (.seq (.reg [o 4 (.mv (kb false))])
 (.seq (.reg [mV 5 0, mV 6 1, o 7 (.call 309 [(t 5), (t 6)]), o 8 (.bin .geq (t 7) (k 0)), mV 4 8])
 .ret))
def YgF : VFn := ⟨true, 9, [.t 4], YmN⟩
def YgG (lo : Lo) : FnE := ⟨293, false, ⟨[0, 1], [.l Zc4, .clo 294 []], [], (cs [.l Zc4])⟩, .b, [], (cs [.b]), (fun x => q9 lo x : Zt3 -> Option Bool)⟩
theorem Yue (lo : Lo) : ∀ x : Zt3, evI (⟨pf, fs9 lo, [], 0⟩ : Tabs) YgF ⟨[0, 1], [.l Zc4, .clo 294 []], [], (cs [.l Zc4])⟩ (.b) [] (cs [.b]) x = q9 lo x := fun x => by kernel_rfl
theorem Yuf {P : Program} {fm : FM} {lo : Lo} (hlo : LoOK lo) (hS : Yx2 P fm ⟨pf, fs9 lo, [], 0⟩) (hm : P.follows .mixedOrders = true) (htie : Ti P fm 293 YgF) : Yx2 P fm ⟨pf, YgG lo :: fs9 lo, [], 0⟩ :=
  Ybf hS hm [] (YgG lo) rfl YgF htie (by decide) rfl (Nat.le_of_ble_eq_true (by kernel_rfl)) (fun C hT Fr H0 hf => show LsOK Fr H0 C (⟨pf, fs9 lo, [], 0⟩ : Tabs) YmN from ⟨tv, ⟨tv, tv⟩⟩) (fun x y h => (Yue lo x).trans h)
def fs10 (lo : Lo) : List FnE := YgG lo :: fs9 lo
def q10 (lo : Lo) (l0 : List (Int × Int × ByteArray)) : Option Bool :=
  Option.bind (q9 lo l0) fun y26 => some (!y26)
def YmO : VCode :=
 (.seq (.reg [o 2 (.mv (kb false))])
 (.seq (.reg [mV 3 0, o 4 (.call 293 [(t 3), (.c (.f 294))]), o 5 (.not (t 4)), mV 2 5])
 (.fz [2] .ret)))
def YgH : VFn := ⟨true, 6, [.t 2], YmO⟩
def YgI (lo : Lo) : FnE := ⟨257, true, ⟨[0], [.l Zc4], [], (cs [.l Zc4])⟩, .b, [], (cs [.b]), (fun x => q10 lo x : Zt3 -> Option Bool)⟩
theorem Yug (lo : Lo) : ∀ x : Zt3, evP (⟨pf, fs10 lo, [], 0⟩ : Tabs) YgH ⟨[0], [.l Zc4], [], (cs [.l Zc4])⟩ (.b) (cs [.b]) x = q10 lo x := fun x => by kernel_rfl
theorem Yuh {P : Program} {fm : FM} {lo : Lo} (hlo : LoOK lo) (hS : Yx2 P fm ⟨pf, fs10 lo, [], 0⟩) (hm : P.follows .mixedOrders = true) (htie : Ti P fm 257 YgH) : Yx2 P fm ⟨pf, YgI lo :: fs10 lo, [], 0⟩ :=
  Yah hS hm [] (YgI lo) rfl YgH htie (by decide) rfl (Nat.le_of_ble_eq_true (by kernel_rfl)) (fun C hT => show LK C _ YmO from ⟨tv, ⟨tv, tv⟩⟩) (fun x y h => (Yug lo x).trans h)
def fs11 (lo : Lo) : List FnE := YgI lo :: fs10 lo
def q11_L20_b : VCode :=
 (.seq (.reg [o 26 (.bin .lss (t 25) (t 24))])
 (.seq (.cond (t 26) .skip
 (.exit 0))
 (.seq (.blk 1 (.seq (.reg [mV 27 25, o 28 (.iad 1 (t 23) (t 25)), lD 29 28, mV 3 27, mV 4 29])
 (.seq (.reg [mV 30 4, o 31 (.call 255 [(t 30)]), o 32 (.not (t 31)), mV 33 32, og 34 33 false (.fad 1 (t 1)), og 35 33 false (.load false 1 (t 34)), og 36 33 false (.mv (t 3)), og 37 33 false (.slcR 1 (t 35) none (some (t 36))), og 38 33 false (.mv (t 4)), og 39 33 false (.call 256 [(t 37), (t 38)]), o 40 (.pick (t 33) (kb true) (t 39))])
 (.cond (t 40) (.seq (.reg [o 2 (.mv (k 1))])
 (.fz [2] .ret))
 .skip))))
 (.reg [o 41 (.bin .add (t 25) (k 1)), mV 25 41]))))
def YmP : Sg := ⟨[1, 23, 24, 25], [.ptr 0 0 0, .l (cs [.s]), .i .i64, .i .i64], [.st [.s, .l (cs [.s]), .l Zc1]], (cs [.l (cs [.s]), I, I, .s, .l (cs [.s]), .l Zc1])⟩
def YmQ : List Out1 := [⟨.ret, ⟨[2], [.i .i64], [], (cs [I])⟩⟩, ⟨.exit 0, ⟨[1], [.ptr 0 0 0], [.st [.s, .l (cs [.s]), .l Zc1]], Zc11⟩⟩]
def Yd9 (lo : Lo) : Zp41 -> Option (Zp41 ⊕ (Int ⊕ (ByteArray × Zt2 × Zt0))) := fun x => match x with
  | (v23, v24, v25, t1_0, t1_1, t1_2) => bif (decide (v25 < v24)) then (chk (0 <= v25 /\ v25 < (v23.length : Int)) (Option.bind (q3 lo (v23.getD v25.toNat (ByteArray.mk #[]))) fun y11 => bif (!y11) then (some (.inr (.inl (1 : Int)))) else (chk (0 <= (0 : Int) /\ (0 : Int) <= v25 /\ v25 <= (t1_1.length : Int)) (Option.bind (q5 lo ((t1_1.take v25.toNat).drop 0) (v23.getD v25.toNat (ByteArray.mk #[]))) fun y16 => bif y16 then (some (.inr (.inl (1 : Int)))) else (some (.inl (v23, v24, (IntKind.wrap .i64 (v25 + (1 : Int))), t1_0, t1_1, t1_2))))))) else (some (.inr (.inr (t1_0, t1_1, t1_2))))
theorem Yui (lo : Lo) : ∀ x : Zp41, Yyf (⟨pf, fs11 lo, [], 0⟩ : Tabs) [] YmP YmQ q11_L20_b x = Yd9 lo x := fun x => by kernel_rfl
def YgJ (lo : Lo) : Zp41 -> Option (Int ⊕ (ByteArray × Zt2 × Zt0)) := lo.run (Yd9 lo)
def YcX (lo : Lo) : LpE := ⟨20, [], YmP, YmQ, YgJ lo⟩
theorem Yuj {lo : Lo} (hlo : LoOK lo) (C : Ctx) (hT : TOK (⟨pf, fs11 lo, [], 0⟩ : Tabs) C) : Yx3 (fun _ => False) [] 0 C (.loop q11_L20_b.er) (YcX lo) :=
  Yak hT frNo (show LK C _ q11_L20_b from ⟨tv, ⟨⟨tv, tv⟩, ⟨⟨tv, ⟨tv, ⟨⟨tv, tv⟩, tv⟩⟩⟩, tv⟩⟩⟩) (fun x y h => Yal (Yui lo) (hlo _ _ _ h))
def q11_L3_b : VCode :=
 (.seq (.reg [o 46 (.bin .lss (t 45) (t 44))])
 (.seq (.cond (t 46) .skip
 (.exit 2))
 (.seq (.blk 3 (.seq (.reg [o 47 (.iad 2 (t 43) (t 45)), o 48 (.load true 2 (t 47)), o 7 (.alloc [.i .i64 0, .e Zc4]), on (.store 2 (t 7) (t 48))])
 (.seq (.blk 4 (.seq (.reg [fD 50 0 7, lD 51 50, mV 52 5, o 53 (.bin .leq (t 51) (t 52)), mV 49 53])
 (.cond (t 49) (.seq (.reg [o 2 (.mv (k 1))])
 (.fz [2] .ret))
 (.seq (.reg [fD 55 1 7, lD 56 55, lN 57 56, fD 58 1 1, lD 59 58, lN 60 59, o 61 (.bin .neq (t 57) (t 60)), mV 54 61])
 (.cond (t 54) (.seq (.reg [o 2 (.mv (k 6))])
 (.fz [2] .ret))
 (.seq (.reg [fD 63 1 7, lD 64 63, o 65 (.call 257 [(t 64)]), o 66 (.not (t 65)), mV 62 66])
 (.cond (t 62) (.seq (.reg [o 2 (.mv (k 1))])
 (.fz [2] .ret))
 .skip)))))))
 (.reg [fD 67 0 7, lD 68 67, mV 5 68]))))
 (.reg [o 69 (.bin .add (t 45) (k 1)), mV 45 69]))))
def YmR : Sg := ⟨[1, 5, 43, 44, 45], [.ptr 0 0 0, .i .i64, .l Zc1, .i .i64, .i .i64], [.st [.s, .l (cs [.s]), .l Zc1]], (cs [I, .l Zc1, I, I, .s, .l (cs [.s]), .l Zc1])⟩
def YmS : List Out1 := [⟨.ret, ⟨[2], [.i .i64], [], (cs [I])⟩⟩, ⟨.exit 2, ⟨[], [], [], (cs [])⟩⟩]
def Yea (lo : Lo) : Zp37 -> Option (Zp37 ⊕ (Int ⊕ Unit)) := fun x => match x with
  | (last5, v43, v44, v45, t1_0, t1_1, t1_2) => bif (decide (v45 < v44)) then (chk (0 <= v45 /\ v45 < (v43.length : Int)) (bif (decide ((v43.getD v45.toNat ((0 : Int), [])).1 <= last5)) then (some (.inr (.inl (1 : Int)))) else (bif (!decide ((((v43.getD v45.toNat ((0 : Int), [])).2).length : Int) = (t1_1.length : Int))) then (some (.inr (.inl (6 : Int)))) else (Option.bind (q10 lo ((v43.getD v45.toNat ((0 : Int), [])).2)) fun y27 => bif (!y27) then (some (.inr (.inl (1 : Int)))) else (some (.inl ((v43.getD v45.toNat ((0 : Int), [])).1, v43, v44, (IntKind.wrap .i64 (v45 + (1 : Int))), t1_0, t1_1, t1_2))))))) else (some (.inr (.inr ())))
theorem Yuk (lo : Lo) : ∀ x : Zp37, Yyf (⟨pf, fs11 lo, [YcX lo], 0⟩ : Tabs) [] YmR YmS q11_L3_b x = Yea lo x := fun x => by kernel_rfl
def YgK (lo : Lo) : Zp37 -> Option (Int ⊕ Unit) := lo.run (Yea lo)
def YgL (lo : Lo) : LpE := ⟨3, [], YmR, YmS, YgK lo⟩
theorem Yul {lo : Lo} (hlo : LoOK lo) (C : Ctx) (hT : TOK (⟨pf, fs11 lo, [YcX lo], 0⟩ : Tabs) C) : Yx3 (fun _ => False) [] 0 C (.loop q11_L3_b.er) (YgL lo) :=
  Yak hT frNo (show LK C _ q11_L3_b from ⟨tv, ⟨⟨tv, tv⟩, ⟨⟨tv, ⟨⟨tv, ⟨⟨tv, tv⟩, ⟨tv, ⟨⟨tv, tv⟩, ⟨tv, ⟨⟨tv, tv⟩, tv⟩⟩⟩⟩⟩⟩, tv⟩⟩, tv⟩⟩⟩) (fun x y h => Yal (Yuk lo) (hlo _ _ _ h))
def q11 (lo : Lo) (t0_0 : ByteArray) (t0_1 : List ByteArray) (t0_2 : List (Int × Zt3)) : Option Int :=
  Option.bind (q3 lo t0_0) fun y10 => bif (!y10) then (some (1 : Int)) else (bif (decide ((16 : Int) < (t0_1.length : Int))) then (some (3 : Int)) else (bif (decide ((1000 : Int) < (t0_2.length : Int))) then (some (3 : Int)) else (Option.bind (YgJ lo (t0_1, (t0_1.length : Int), (0 : Int), t0_0, t0_1, t0_2)) fun y17 => alt2 y17 (fun y18 => some y18) (fun y19 => Option.bind (YgK lo ((0 : Int), y19.2.2, (y19.2.2.length : Int), (0 : Int), y19.1, y19.2.1, y19.2.2)) fun y28 => alt2 y28 (fun y29 => some y29) (fun y30 => some (0 : Int))))))
def YmT : VCode :=
 (.seq (.reg [o 1 (.box (t 0)), o 2 (.mv (k 0))])
 (.seq (.seq (.reg [fD 8 0 1, lD 9 8, o 10 (.call 255 [(t 9)]), o 11 (.not (t 10))])
 (.cond (t 11) (.seq (.reg [o 2 (.mv (k 1))])
 (.fz [2] .ret))
 .skip))
 (.seq (.seq (.reg [fD 12 1 1, lD 13 12, lN 14 13, o 15 (.bin .gtr (t 14) (k 16)), mV 16 15, og 17 16 false (.fad 2 (t 1)), og 18 16 false (.load false 1 (t 17)), og 19 16 false (.len (t 18)), og 20 16 false (.bin .gtr (t 19) (k 1000)), o 21 (.pick (t 16) (kb true) (t 20))])
 (.cond (t 21) (.seq (.reg [o 2 (.mv (k 3))])
 (.fz [2] .ret))
 .skip))
 (.seq (.seq (.reg [fD 22 1 1, lD 23 22, lN 24 23, o 25 (.mv (k 0))])
 (.blk 0 (.loop 20 q11_L20_b)))
 (.seq (.reg [o 5 (.mv (k 0))])
 (.seq (.seq (.reg [fD 42 2 1, lD 43 42, lN 44 43, o 45 (.mv (k 0))])
 (.blk 2 (.loop 3 q11_L3_b)))
 (.seq (.reg [o 2 (.mv (k 0))])
 (.fz [2] .ret))))))))
def YgM : VFn := ⟨true, 70, [.t 2], YmT⟩
def YgN (lo : Lo) : FnE := ⟨230, true, ⟨[0], [.ag [.s, .l (cs [.s]), .l Zc1]], [], Zc11⟩, .i .i64, [], (cs [I]), (fun x => q11 lo x.1 x.2.1 x.2.2 : ByteArray × Zt2 × Zt0 -> Option Int)⟩
theorem Yum (lo : Lo) : ∀ x : ByteArray × Zt2 × Zt0, evP (⟨pf, fs11 lo, [YgL lo, YcX lo], 0⟩ : Tabs) YgM ⟨[0], [.ag [.s, .l (cs [.s]), .l Zc1]], [], Zc11⟩ (.i .i64) (cs [I]) x = q11 lo x.1 x.2.1 x.2.2 := fun x => by kernel_rfl
theorem Yun {P : Program} {fm : FM} {lo : Lo} (hlo : LoOK lo) (hS : Yx2 P fm ⟨pf, fs11 lo, [], 0⟩) (hm : P.follows .mixedOrders = true) (htie : Ti P fm 230 YgM) : Yx2 P fm ⟨pf, YgN lo :: fs11 lo, [], 0⟩ :=
  Yah hS hm [YgL lo, YcX lo] (YgN lo) rfl YgM htie (by decide) rfl (Nat.le_of_ble_eq_true (by kernel_rfl)) (fun C hT => show LK C _ YmT from ⟨tv, ⟨⟨tv, ⟨⟨tv, tv⟩, tv⟩⟩, ⟨⟨tv, ⟨⟨tv, tv⟩, tv⟩⟩, ⟨⟨tv, (Yye (by kernel_rfl) (Yuj hlo C (Yaf hT)))⟩, ⟨tv, ⟨⟨tv, (Yye (by kernel_rfl) (Yul hlo C (Yaf hT)))⟩, ⟨tv, tv⟩⟩⟩⟩⟩⟩⟩) (fun x y h => (Yum lo x).trans h)
def fs12 (lo : Lo) : List FnE := YgN lo :: fs11 lo
def q12_L3_b : VCode :=
 (.seq (.seq (.reg [mV 10 6, o 11 (.bin .geq (t 10) (k 0))])
 (.cond (t 11) .skip
 (.exit 0)))
 (.seq (.blk 1 (.reg [mV 14 0, mV 15 5, mV 16 6, o 17 (.bin .shr (t 15) (t 16)), o 18 (.conv .u8 (t 17)), o 19 (.bsl (cs [.i .u8]) 1 [(0, (t 18))]), o 20 (.appb (t 14) (t 19)), mV 0 20]))
 (.reg [mV 12 6, o 13 (.bin .sub (t 12) (k 8)), mV 6 13])))
def YmU : Sg := ⟨[0, 5, 6], [.ref 1, .i .u64, .i .i64], [.dd, .sb], (cs [.i .u64, I, .s])⟩
def YmV : List Out1 := [⟨.exit 0, ⟨[0], [.ref 1], [.dd, .sb], (cs [.s])⟩⟩]
def Yeb (lo : Lo) : Int × Int × ByteArray -> Option ((Int × Int × ByteArray) ⊕ ByteArray) := fun x => match x with
  | (u5, shift6, out0) => bif (decide ((0 : Int) <= shift6)) then (chk (0 <= shift6) (bif inB ([(IntKind.wrap .u8 (u5.fdiv (2 ^ (min shift6.toNat (IntKind.bits .u64)))))]) then (chk (out0.size + ([(IntKind.wrap .u8 (u5.fdiv (2 ^ (min shift6.toNat (IntKind.bits .u64)))))]).length <= maxEl) (some (.inl (u5, (IntKind.wrap .i64 (shift6 - (8 : Int))), (out0 ++ Yyc ([(IntKind.wrap .u8 (u5.fdiv (2 ^ (min shift6.toNat (IntKind.bits .u64)))))])))))) else none)) else (some (.inr out0))
theorem Yuo (lo : Lo) : ∀ x : Int × Int × ByteArray, Yyf (⟨pf, fs12 lo, [], 1⟩ : Tabs) [(0, some 0, false)] YmU YmV q12_L3_b x = Yeb lo x := fun x => by kernel_rfl
def YgO (lo : Lo) : Int × Int × ByteArray -> Option ByteArray := lo.run (Yeb lo)
def Yec (lo : Lo) : LpE := ⟨3, [(0, some 0, false)], YmU, YmV, YgO lo⟩
theorem Yup {lo : Lo} (hlo : LoOK lo) (C : Ctx) (hT : TOK (⟨pf, fs12 lo, [], 1⟩ : Tabs) C) {Fr : Nat -> Prop} {H0 : Heap} (hf : FrOK Fr H0) : Yx3 Fr H0 1 C (.loop q12_L3_b.er) (Yec lo) :=
  Yak hT hf (show LsOK Fr H0 C (⟨pf, fs12 lo, [], 1⟩ : Tabs) q12_L3_b from ⟨⟨tv, ⟨tv, tv⟩⟩, ⟨tv, tv⟩⟩) (fun x y h => Yal (Yuo lo) (hlo _ _ _ h))
def q12 (lo : Lo) (n1 : Int) (out0 : ByteArray) : Option ByteArray :=
  Option.bind (YgO lo ((bits .xor .u64 (IntKind.wrap .u64 n1) (9223372036854775808 : Int)), (56 : Int), out0)) fun y35 => some y35
def YmW : VCode :=
 (.seq (.reg [o 4 (.mv (ke (cs [.i .u8])))])
 (.seq (.reg [mV 7 1, o 8 (.conv .u64 (t 7)), o 9 (.bin .xor (t 8) (ki .u64 9223372036854775808)), mV 5 9])
 (.seq (.seq (.reg [o 6 (.mv (k 56))])
 (.blk 0 (.loop 3 q12_L3_b)))
 (.seq (.reg [mV 21 0, mV 4 21])
 .ret))))
def YgP : VFn := ⟨true, 22, [.t 4], YmW⟩
def YgQ (lo : Lo) : FnE := ⟨310, false, ⟨[0, 1], [.ref 0, .i .i64], [.sb], (cs [I, .s])⟩, .ref 1, [.dd, .sb], (cs [.s]), (fun x => q12 lo x.1 x.2 : Int × ByteArray -> Option ByteArray)⟩
theorem Yuq (lo : Lo) : ∀ x : Int × ByteArray, evI (⟨pf, fs12 lo, [Yec lo], 1⟩ : Tabs) YgP ⟨[0, 1], [.ref 0, .i .i64], [.sb], (cs [I, .s])⟩ (.ref 1) [.dd, .sb] (cs [.s]) x = q12 lo x.1 x.2 := fun x => by kernel_rfl
theorem Yur {P : Program} {fm : FM} {lo : Lo} (hlo : LoOK lo) (hS : Yx2 P fm ⟨pf, fs12 lo, [], 0⟩) (hm : P.follows .mixedOrders = true) (htie : Ti P fm 310 YgP) : Yx2 P fm ⟨pf, YgQ lo :: fs12 lo, [], 0⟩ :=
  Ybf hS hm [Yec lo] (YgQ lo) rfl YgP htie (by decide) rfl (Nat.le_of_ble_eq_true (by kernel_rfl)) (fun C hT Fr H0 hf => show LsOK Fr H0 C (⟨pf, fs12 lo, [Yec lo], 1⟩ : Tabs) YmW from ⟨tv, ⟨tv, ⟨⟨tv, (Yye (by kernel_rfl) (Yup hlo C (Yaf hT) hf))⟩, ⟨tv, tv⟩⟩⟩⟩) (fun x y h => (Yuq lo x).trans h)
def fs13 (lo : Lo) : List FnE := YgQ lo :: fs12 lo
def q13_L5_b : VCode :=
 (.seq (.reg [o 28 (.bin .lss (t 27) (t 26))])
 (.seq (.cond (t 28) .skip
 (.exit 1))
 (.seq (.blk 2 (.seq (.reg [mV 29 27, mV 5 29])
 (.seq (.reg [mV 30 4, fD 31 2 1, lD 32 31, mV 33 5, o 34 (.idx (t 32) (t 33)), o 35 (.bsl (cs [.i .u8]) 1 [(0, (t 34))]), o 36 (.appb (t 30) (t 35)), mV 4 36])
 (.seq (.reg [fD 37 2 1, lD 38 37, mV 39 5, o 40 (.idx (t 38) (t 39)), o 41 (.bin .eql (t 40) (ki .u8 0))])
 (.cond (t 41) (.reg [mV 42 4, o 43 (.bsl (cs [.i .u8]) 1 [(0, (ki .u8 255))]), o 44 (.appb (t 42) (t 43)), mV 4 44])
 .skip)))))
 (.reg [o 45 (.bin .add (t 27) (k 1)), mV 27 45]))))
def YmX : Sg := ⟨[1, 4, 26, 27], [.ptr 0 0 0, .ref 1, .i .i64, .i .i64], [.st [.i .i64, .i .i64, .s], .sb], (cs [I, I, I, I, .s, .s])⟩
def YmY : List Out1 := [⟨.exit 1, ⟨[4], [.ref 0], [.sb], (cs [.s])⟩⟩]
def Yed (lo : Lo) : Zp38 -> Option (Zp38 ⊕ ByteArray) := fun x => match x with
  | (v26, v27, v1_0, v1_1, v1_2, out4) => bif (decide (v27 < v26)) then (chk (0 <= v27 /\ v27 < (v1_2.size : Int)) (bif inB ([(Yx5 v1_2 v27)]) then (chk (out4.size + ([(Yx5 v1_2 v27)]).length <= maxEl) (chk (0 <= v27 /\ v27 < (v1_2.size : Int)) (bif (decide ((Yx5 v1_2 v27) = (0 : Int))) then (bif inB ([(255 : Int)]) then (chk ((out4 ++ Yyc ([(Yx5 v1_2 v27)])).size + ([(255 : Int)]).length <= maxEl) (some (.inl (v26, (IntKind.wrap .i64 (v27 + (1 : Int))), v1_0, v1_1, v1_2, ((out4 ++ Yyc ([(Yx5 v1_2 v27)])) ++ Yyc ([(255 : Int)])))))) else none) else (some (.inl (v26, (IntKind.wrap .i64 (v27 + (1 : Int))), v1_0, v1_1, v1_2, (out4 ++ Yyc ([(Yx5 v1_2 v27)])))))))) else none)) else (some (.inr out4))
theorem Yus (lo : Lo) : ∀ x : Zp38, Yyf (⟨pf, fs13 lo, [], 0⟩ : Tabs) [] YmX YmY q13_L5_b x = Yed lo x := fun x => by kernel_rfl
def YgR (lo : Lo) : Zp38 -> Option ByteArray := lo.run (Yed lo)
def YcY (lo : Lo) : LpE := ⟨5, [], YmX, YmY, YgR lo⟩
theorem Yut {lo : Lo} (hlo : LoOK lo) (C : Ctx) (hT : TOK (⟨pf, fs13 lo, [], 0⟩ : Tabs) C) : Yx3 (fun _ => False) [] 0 C (.loop q13_L5_b.er) (YcY lo) :=
  Yak hT frNo (show LK C _ q13_L5_b from ⟨tv, ⟨⟨tv, tv⟩, ⟨⟨tv, ⟨tv, ⟨tv, ⟨tv, tv⟩⟩⟩⟩, tv⟩⟩⟩) (fun x y h => Yal (Yus lo) (hlo _ _ _ h))
def q13_J17_b : VCode :=
 (.cond (t 15) (.reg [mV 18 4, fD 19 1 1, lD 20 19, o 21 (.call 310 [(t 18), (t 20)]), mV 4 21])
 (.seq (.reg [o 23 (.bin .eql (t 14) (k 2)), mV 22 23])
 (.cond (t 22) (.seq (.seq (.reg [fD 24 2 1, lD 25 24, o 26 (.lenS (t 25)), o 27 (.mv (k 0))])
 (.blk 1 (.loop 5 q13_L5_b)))
 (.reg [mV 46 4, o 47 (.bsl (cs [.i .u8]) 2 [(0, (ki .u8 0)), (1, (ki .u8 1))]), o 48 (.appb (t 46) (t 47)), mV 4 48]))
 .skip)))
def YmZ : Sg := ⟨[1, 4, 14, 15], [.ptr 0 0 0, .ref 1, .i .i64, .b], [.st [.i .i64, .i .i64, .s], .sb], (cs [I, .b, I, I, .s, .s])⟩
def Ym0 : List Out1 := [⟨.nor, ⟨[4], [.ref 0], [.sb], (cs [.s])⟩⟩]
def Ybu (lo : Lo) : Int × Bool × Int × Int × ByteArray × ByteArray -> Option ByteArray := fun x => match x with
  | (v14, v15, v1_0, v1_1, v1_2, out4) => bif v15 then (Option.bind (q12 lo v1_1 out4) fun y36 => some y36) else (bif (decide (v14 = (2 : Int))) then (Option.bind (YgR lo ((v1_2.size : Int), (0 : Int), v1_0, v1_1, v1_2, out4)) fun y37 => bif inB ([(0 : Int), (1 : Int)]) then (chk (y37.size + ([(0 : Int), (1 : Int)]).length <= maxEl) (some (y37 ++ Yyc ([(0 : Int), (1 : Int)])))) else none) else (some out4))
theorem Yuu (lo : Lo) : ∀ x : Int × Bool × Int × Int × ByteArray × ByteArray, stepJ (⟨pf, fs13 lo, [YcY lo], 0⟩ : Tabs) YmZ Ym0 q13_J17_b x = Ybu lo x := fun x => by kernel_rfl
def YgS (lo : Lo) : LpE := ⟨17, [], YmZ, Ym0, Ybu lo⟩
theorem Yuv {lo : Lo} (hlo : LoOK lo) (C : Ctx) (hT : TOK (⟨pf, fs13 lo, [YcY lo], 0⟩ : Tabs) C) : Yx3 (fun _ => False) [] 0 C q13_J17_b.er (YgS lo) :=
  YcS hT frNo (show LK C _ q13_J17_b from ⟨tv, ⟨tv, ⟨⟨⟨tv, (Yye (by kernel_rfl) (Yut hlo C (Yaf hT)))⟩, tv⟩, tv⟩⟩⟩) (fun x y h => (Yuu lo x).trans h)
def q13 (lo : Lo) (v0_0 : Int) (v0_1 : Int) (v0_2 : ByteArray) : Option (ByteArray × Int) :=
  Option.bind (q6 lo v0_0 v0_1 v0_2) fun y34 => bif (!y34) then (some ((ByteArray.mk #[]), (1 : Int))) else (bif inB [(IntKind.wrap .u8 v0_0)] then (bif (decide (v0_0 = (1 : Int))) then (Option.bind (Ybu lo (v0_0, true, v0_0, v0_1, v0_2, (Yyc [(IntKind.wrap .u8 v0_0)]))) fun y38 => some (y38, (0 : Int))) else (Option.bind (Ybu lo (v0_0, (decide (v0_0 = (3 : Int))), v0_0, v0_1, v0_2, (Yyc [(IntKind.wrap .u8 v0_0)]))) fun y39 => some (y39, (0 : Int)))) else none)
def Ym1 : VCode :=
 (.seq (.reg [o 1 (.box (t 0)), o 2 (.mv (ks (⟨#[]⟩))), o 3 (.mv (k 0))])
 (.seq (.seq (.reg [o 6 (.load true 3 (t 1)), o 7 (.call 283 [(t 6)]), o 8 (.not (t 7))])
 (.cond (t 8) (.seq (.reg [o 2 (.mv (ks (⟨#[]⟩))), o 3 (.mv (k 1))])
 (.fz [2, 3] .ret))
 .skip))
 (.seq (.reg [fD 9 0 1, lD 10 9, o 11 (.conv .u8 (t 10)), o 12 (.litb [(t 11)]), mV 4 12])
 (.seq (.seq (.reg [fD 13 0 1, lD 14 13])
 (.blk 0 (.seq (.seq (.reg [o 16 (.bin .eql (t 14) (k 1)), mV 15 16])
 (.cond (t 15) .skip
 (.reg [o 17 (.bin .eql (t 14) (k 3)), mV 15 17])))
 (.jn 17 q13_J17_b))))
 (.seq (.reg [mV 49 4, o 50 (.bstr (t 49)), mV 2 50, o 3 (.mv (k 0))])
 (.fz [2, 3] .ret))))))
def YgT : VFn := ⟨true, 51, [.t 2, .t 3], Ym1⟩
def YgU (lo : Lo) : FnE := ⟨296, true, ⟨[0], [.ag [.i .i64, .i .i64, .s]], [], Zc4⟩, .tp [.s, .i .i64], [], (cs [.s, I]), (fun x => q13 lo x.1 x.2.1 x.2.2 : Int × Int × ByteArray -> Option (ByteArray × Int))⟩
theorem Yuw (lo : Lo) : ∀ x : Int × Int × ByteArray, evP (⟨pf, fs13 lo, [YgS lo, YcY lo], 0⟩ : Tabs) YgT ⟨[0], [.ag [.i .i64, .i .i64, .s]], [], Zc4⟩ (.tp [.s, .i .i64]) (cs [.s, I]) x = q13 lo x.1 x.2.1 x.2.2 := fun x => by kernel_rfl
theorem Yux {P : Program} {fm : FM} {lo : Lo} (hlo : LoOK lo) (hS : Yx2 P fm ⟨pf, fs13 lo, [], 0⟩) (hm : P.follows .mixedOrders = true) (htie : Ti P fm 296 YgT) : Yx2 P fm ⟨pf, YgU lo :: fs13 lo, [], 0⟩ :=
  Yah hS hm [YgS lo, YcY lo] (YgU lo) rfl YgT htie (by decide) rfl (Nat.le_of_ble_eq_true (by kernel_rfl)) (fun C hT => show LK C _ Ym1 from ⟨tv, ⟨⟨tv, ⟨⟨tv, tv⟩, tv⟩⟩, ⟨tv, ⟨⟨tv, ⟨⟨tv, ⟨tv, tv⟩⟩, (Yye (by kernel_rfl) (Yuv hlo C (Yaf hT)))⟩⟩, ⟨tv, tv⟩⟩⟩⟩⟩) (fun x y h => (Yuw lo x).trans h)
def fs14 (lo : Lo) : List FnE := YgU lo :: fs13 lo
def q14 (lo : Lo) (s : ByteArray) : Option ByteArray := some s
def Ym2 (lo : Lo) : FnE := vchkE2 164
theorem Yuy {P : Program} {fm : FM} {lo : Lo} (hlo : LoOK lo) (hS : Yx2 P fm ⟨pf, fs14 lo, [], 0⟩) (hm : P.follows .mixedOrders = true) (hG : ∀ f, fm f = 164 -> Yx8 P f = true /\ ∃ ρ : Go.Shelf.Ren, Go.Proofs.Lays.n240 P ρ /\ BldOK P fm ρ /\ ρ.f 240 = f) : Yx2 P fm ⟨pf, Ym2 lo :: fs14 lo, [], 0⟩ :=
  Ytf hS rfl hG
def fs15 (lo : Lo) : List FnE := Ym2 lo :: fs14 lo
end Go.Abs.G03
namespace Go.Abs.G03
open Go Go.Abs
set_option maxRecDepth 100000
set_option maxHeartbeats 1000000
def q15 (lo : Lo) (s1 : ByteArray) (h1 : ByteArray) : Option (Int × ByteArray) :=
  Option.bind (q14 lo h1) fun y41 => chk (y41.size = h1.size) (chk (y41.size + s1.size <= maxEl) (some ((s1.size : Int), (y41 ++ s1))))
def Ym3 : VCode :=
 (.seq (.reg [o 4 (.mv (k 0)), o 5 (.mv (.c (.v .nilIface)))])
 (.seq (.reg [mV 6 0, o 7 (.call 164 [(t 6)])])
 (.seq (.reg [mV 8 0, mV 9 0, o 10 (.nilc (t 9)), fD 11 1 10, lD 12 11, mV 13 1, o 14 (.apps (t 12) (t 13)), o 15 (.nilc (t 8)), fD 16 1 15, on (.store 1 (t 16) (t 14))])
 (.seq (.reg [mV 17 1, o 18 (.lenS (t 17)), mV 4 18, o 5 (.mv (.c (.v .nilIface)))])
 .ret))))
def YgV : VFn := ⟨true, 19, [.t 4, .t 5], Ym3⟩
def YgW (lo : Lo) : FnE := ⟨149, false, ⟨[0, 1], [.ptr 0 0 0, .s], [.st [.np 0, .ref 1], .sb], (cs [.s, .s])⟩, .tp [.i .i64, .u], [.st [.np 0, .ref 2], .dd, .sb], (cs [I, .s]), (fun x => q15 lo x.1 x.2 : ByteArray × ByteArray -> Option (Int × ByteArray))⟩
theorem Yuz (lo : Lo) : ∀ x : ByteArray × ByteArray, evI (⟨pf, fs15 lo, [], 2⟩ : Tabs) YgV ⟨[0, 1], [.ptr 0 0 0, .s], [.st [.np 0, .ref 1], .sb], (cs [.s, .s])⟩ (.tp [.i .i64, .u]) [.st [.np 0, .ref 2], .dd, .sb] (cs [I, .s]) x = q15 lo x.1 x.2 := fun x => by kernel_rfl
theorem YuA {P : Program} {fm : FM} {lo : Lo} (hlo : LoOK lo) (hS : Yx2 P fm ⟨pf, fs15 lo, [], 0⟩) (hm : P.follows .mixedOrders = true) (htie : Ti P fm 149 YgV) : Yx2 P fm ⟨pf, YgW lo :: fs15 lo, [], 0⟩ :=
  Ybf hS hm [] (YgW lo) rfl YgV htie (by decide) rfl (Nat.le_of_ble_eq_true (by kernel_rfl)) (fun C hT Fr H0 hf => show LsOK Fr H0 C (⟨pf, fs15 lo, [], 2⟩ : Tabs) Ym3 from ⟨tv, ⟨tv, ⟨tv, ⟨tv, tv⟩⟩⟩⟩) (fun x y h => (Yuz lo x).trans h)
def fs16 (lo : Lo) : List FnE := YgW lo :: fs15 lo
def q16 (lo : Lo) (s : ByteArray) : Option ByteArray := some s
def Ym4 (lo : Lo) : FnE := vstrE 151
theorem YuB {P : Program} {fm : FM} {lo : Lo} (hlo : LoOK lo) (hS : Yx2 P fm ⟨pf, fs16 lo, [], 0⟩) (hm : P.follows .mixedOrders = true) (hG : ∀ f, fm f = 151 -> Yx8 P f = true /\ ∃ ρ : Go.Shelf.Ren, Go.Proofs.Lays.n169 P ρ /\ BldOK P fm ρ /\ fm.bu = ρ.t 5 /\ ρ.f 169 = f) : Yx2 P fm ⟨pf, Ym4 lo :: fs16 lo, [], 0⟩ :=
  Ytn hS rfl hG
def fs17 (lo : Lo) : List FnE := Ym4 lo :: fs16 lo
def q17_L3_b : VCode :=
 (.seq (.reg [o 11 (.bin .lss (t 10) (t 9))])
 (.seq (.cond (t 11) .skip
 (.exit 0))
 (.seq (.blk 1 (.seq (.reg [o 12 (.iad 3 (t 8) (t 10)), o 13 (.load true 3 (t 12)), o 5 (.alloc [.i .i64 0, .i .i64 0, .s (⟨#[]⟩)]), on (.store 3 (t 5) (t 13))])
 (.seq (.reg [o 15 (.load true 3 (t 5)), o 16 (.call 296 [(t 15)]), mV 14 16, eX 17 14 0, eX 18 14 1, mV 6 17, mV 7 18])
 (.reg [mV 19 6, o 20 (.call 149 [(t 3), (t 19)])]))))
 (.reg [o 21 (.bin .add (t 10) (k 1)), mV 10 21]))))
def Ym5 : Sg := ⟨[3, 8, 9, 10], [.ptr 0 0 0, .l Zc4, .i .i64, .i .i64], [.st [.np 0, .ref 1], .sb], (cs [.l Zc4, I, I, .s])⟩
def Ym6 : List Out1 := [⟨.exit 0, ⟨[3], [.ptr 0 0 0], [.st [.np 0, .ref 1], .sb], (cs [.s])⟩⟩]
def Yee (lo : Lo) : Zt3 × Int × Int × ByteArray -> Option ((Zt3 × Int × Int × ByteArray) ⊕ ByteArray) := fun x => match x with
  | (v8, v9, v10, h1) => bif (decide (v10 < v9)) then (chk (0 <= v10 /\ v10 < (v8.length : Int)) (Option.bind (q13 lo ((v8.getD v10.toNat ((0 : Int), (0 : Int), (ByteArray.mk #[]))).1) ((v8.getD v10.toNat ((0 : Int), (0 : Int), (ByteArray.mk #[]))).2.1) ((v8.getD v10.toNat ((0 : Int), (0 : Int), (ByteArray.mk #[]))).2.2)) fun y40 => Option.bind (q15 lo y40.1 h1) fun y42 => some (.inl (v8, v9, (IntKind.wrap .i64 (v10 + (1 : Int))), y42.2)))) else (some (.inr h1))
theorem YuC (lo : Lo) : ∀ x : Zt3 × Int × Int × ByteArray, Yyf (⟨pf, fs17 lo, [], 0⟩ : Tabs) [] Ym5 Ym6 q17_L3_b x = Yee lo x := fun x => by kernel_rfl
def YgX (lo : Lo) : Zt3 × Int × Int × ByteArray -> Option ByteArray := lo.run (Yee lo)
def YgY (lo : Lo) : LpE := ⟨3, [], Ym5, Ym6, YgX lo⟩
theorem YuD {lo : Lo} (hlo : LoOK lo) (C : Ctx) (hT : TOK (⟨pf, fs17 lo, [], 0⟩ : Tabs) C) : Yx3 (fun _ => False) [] 0 C (.loop q17_L3_b.er) (YgY lo) :=
  Yak hT frNo (show LK C _ q17_L3_b from ⟨tv, ⟨⟨tv, tv⟩, ⟨⟨tv, ⟨tv, tv⟩⟩, tv⟩⟩⟩) (fun x y h => Yal (YuC lo) (hlo _ _ _ h))
def q17 (lo : Lo) (l0 : List (Int × Int × ByteArray)) : Option ByteArray :=
  Option.bind (YgX lo (l0, (l0.length : Int), (0 : Int), (ByteArray.mk #[]))) fun y43 => Option.bind (q16 lo y43) fun y44 => some y44
def Ym7 : VCode :=
 (.seq (.reg [o 2 (.mv (ks (⟨#[]⟩)))])
 (.seq (.reg [o 3 (.bld)])
 (.ow [(3, some 1, false)] (.seq (.seq (.reg [mV 8 0, lN 9 8, o 10 (.mv (k 0))])
 (.blk 0 (.loop 3 q17_L3_b)))
 (.seq (.reg [o 22 (.call 151 [(t 3)]), mV 2 22])
 (.fz [2] .ret))))))
def YgZ : VFn := ⟨true, 23, [.t 2], Ym7⟩
def Yg0 (lo : Lo) : FnE := ⟨261, true, ⟨[0], [.l Zc4], [], (cs [.l Zc4])⟩, .s, [], (cs [.s]), (fun x => q17 lo x : Zt3 -> Option ByteArray)⟩
theorem YuE (lo : Lo) : ∀ x : Zt3, evP (⟨pf, fs17 lo, [YgY lo], 0⟩ : Tabs) YgZ ⟨[0], [.l Zc4], [], (cs [.l Zc4])⟩ (.s) (cs [.s]) x = q17 lo x := fun x => by kernel_rfl
theorem YuF {P : Program} {fm : FM} {lo : Lo} (hlo : LoOK lo) (hS : Yx2 P fm ⟨pf, fs17 lo, [], 0⟩) (hm : P.follows .mixedOrders = true) (htie : Ti P fm 261 YgZ) : Yx2 P fm ⟨pf, Yg0 lo :: fs17 lo, [], 0⟩ :=
  Yah hS hm [YgY lo] (Yg0 lo) rfl YgZ htie (by decide) rfl (Nat.le_of_ble_eq_true (by kernel_rfl)) (fun C hT => show LK C _ Ym7 from ⟨tv, ⟨tv, ⟨⟨tv, (Yye (by kernel_rfl) (YuD hlo C (Yaf hT)))⟩, ⟨tv, tv⟩⟩⟩⟩) (fun x y h => (YuE lo x).trans h)
def fs18 (lo : Lo) : List FnE := Yg0 lo :: fs17 lo
def q18_L23_b : VCode :=
 (.seq (.reg [o 37 (.bin .lss (t 36) (t 35))])
 (.seq (.cond (t 37) .skip
 (.exit 0))
 (.seq (.blk 1 (.seq (.reg [mV 38 36, o 39 (.iad 1 (t 34) (t 36)), lD 40 39, mV 8 38, mV 9 40])
 (.seq (.reg [mV 41 1, mV 42 8, o 43 (.bin .shr (t 41) (t 42)), o 44 (.bin .and (t 43) (ki .u32 1)), o 45 (.bin .eql (t 44) (ki .u32 1))])
 (.cond (t 45) (.reg [fD 46 1 7, lD 47 46, mV 48 9, o 49 (.bsl (cs [.s]) 1 [(0, (t 48))]), o 50 (.app (cs [.s]) 0 (t 47) (t 49)), fD 51 1 7, on (.store 1 (t 51) (t 50))])
 .skip))))
 (.reg [o 52 (.bin .add (t 36) (k 1)), mV 36 52]))))
def Ym8 : Sg := ⟨[1, 2, 4, 7, 34, 35, 36], [.i .u32, .ptr 0 0 0, .ptr 1 0 0, .ptr 2 0 0, .l (cs [.s]), .i .i64, .i .i64], [.st [.s, .l (cs [.s]), .l Zc1], .st [.s, .l (cs [.s]), .l Zc1], .st [.s, .ref 3, .ref 4], .sq (cs [.s]), .sq Zc1], (cs [.i .u32, .l (cs [.s]), I, I, .s, .l (cs [.s]), .l Zc1, .s, .l (cs [.s]), .l Zc1, .s, .l (cs [.s]), .l Zc1])⟩
def Ym9 : List Out1 := [⟨.exit 0, ⟨[1, 2, 4, 7], [.i .u32, .ptr 0 0 0, .ptr 1 0 0, .ptr 2 0 0], [.st [.s, .l (cs [.s]), .l Zc1], .st [.s, .l (cs [.s]), .l Zc1], .st [.s, .ref 3, .ref 4], .sq (cs [.s]), .sq Zc1], (cs [.i .u32, .s, .l (cs [.s]), .l Zc1, .s, .l (cs [.s]), .l Zc1, .s, .l (cs [.s]), .l Zc1])⟩⟩]
def Yna (lo : Lo) : Zp30 -> Option (Zp30 ⊕ ((Int × ByteArray × Zt2 × Zt0 × ByteArray × Zt2 × Zt0 × ByteArray × Zt2 × Zt0))) := fun x => match x with
  | (s1, v34, v35, v36, t2_0, t2_1, t2_2, v4_0, v4_1, v4_2, out7, h3, h4) => bif (decide (v36 < v35)) then (chk (0 <= v36 /\ v36 < (v34.length : Int)) (chk (0 <= v36) (bif (decide ((bits .and .u32 (s1.fdiv (2 ^ (min v36.toNat (IntKind.bits .u32)))) (1 : Int)) = (1 : Int))) then (chk (h3.length + ([(v34.getD v36.toNat (ByteArray.mk #[]))]).length <= maxEl) (some (.inl (s1, v34, v35, (IntKind.wrap .i64 (v36 + (1 : Int))), t2_0, t2_1, t2_2, v4_0, v4_1, v4_2, out7, (h3 ++ ([(v34.getD v36.toNat (ByteArray.mk #[]))])), h4)))) else (some (.inl (s1, v34, v35, (IntKind.wrap .i64 (v36 + (1 : Int))), t2_0, t2_1, t2_2, v4_0, v4_1, v4_2, out7, h3, h4)))))) else (some (.inr (s1, t2_0, t2_1, t2_2, v4_0, v4_1, v4_2, out7, h3, h4)))
theorem YuG (lo : Lo) : ∀ x : Zp30, Yyf (⟨pf, fs18 lo, [], 0⟩ : Tabs) [(7, some 1, false), (7, some 2, false)] Ym8 Ym9 q18_L23_b x = Yna lo x := fun x => by kernel_rfl
def Ynb (lo : Lo) : Zp30 -> Option ((Int × ByteArray × Zt2 × Zt0 × ByteArray × Zt2 × Zt0 × ByteArray × Zt2 × Zt0)) := lo.run (Yna lo)
def YbN (lo : Lo) : LpE := ⟨23, [(7, some 1, false), (7, some 2, false)], Ym8, Ym9, Ynb lo⟩
theorem YuH {lo : Lo} (hlo : LoOK lo) (C : Ctx) (hT : TOK (⟨pf, fs18 lo, [], 0⟩ : Tabs) C) : Yx3 (fun _ => False) [] 0 C (.loop q18_L23_b.er) (YbN lo) :=
  Yak hT frNo (show LK C _ q18_L23_b from ⟨tv, ⟨⟨tv, tv⟩, ⟨⟨tv, ⟨tv, ⟨tv, tv⟩⟩⟩, tv⟩⟩⟩) (fun x y h => Yal (YuG lo) (hlo _ _ _ h))
def q18_L9_b : VCode :=
 (.seq (.reg [o 68 (.bin .lss (t 67) (t 66))])
 (.seq (.cond (t 68) .skip
 (.exit 4))
 (.seq (.blk 5 (.seq (.reg [mV 69 67, o 70 (.iad 3 (t 65) (t 67)), o 71 (.load true 3 (t 70)), o 15 (.alloc [.i .i64 0, .i .i64 0, .s (⟨#[]⟩)]), mV 14 69, on (.store 3 (t 15) (t 71))])
 (.seq (.reg [mV 72 1, mV 73 14, o 74 (.bin .shr (t 72) (t 73)), o 75 (.bin .and (t 74) (ki .u32 1)), o 76 (.bin .eql (t 75) (ki .u32 1))])
 (.cond (t 76) (.reg [fD 77 1 13, lD 78 77, o 79 (.load true 3 (t 15)), o 80 (.bsl Zc4 1 [(0, (t 79))]), o 81 (.app Zc4 0 (t 78) (t 80)), fD 82 1 13, on (.store 1 (t 82) (t 81))])
 .skip))))
 (.reg [o 83 (.bin .add (t 67) (k 1)), mV 67 83]))))
def Ync : Sg := ⟨[1, 4, 7, 10, 13, 55, 56, 57, 65, 66, 67], [.i .u32, .ptr 0 0 0, .ptr 1 0 0, .np 2, .ptr 3 0 0, .l Zc1, .i .i64, .i .i64, .l Zc4, .i .i64, .i .i64], [.st [.s, .l (cs [.s]), .l Zc1], .st [.s, .ref 4, .ref 5], .st [.i .i64, .l (cs [I, .s, .b]), .b], .st [.i .i64, .ref 6], .sq (cs [.s]), .sq Zc1, .sq Zc4], Zc20⟩
def Ynd : List Out1 := [⟨.exit 4, ⟨[1, 4, 7, 10, 13, 55, 56, 57], [.i .u32, .ptr 0 0 0, .ptr 1 0 0, .np 2, .ptr 3 0 0, .l Zc1, .i .i64, .i .i64], [.st [.s, .l (cs [.s]), .l Zc1], .st [.s, .ref 4, .ref 5], .st [.i .i64, .l (cs [I, .s, .b]), .b], .st [.i .i64, .ref 6], .sq (cs [.s]), .sq Zc1, .sq Zc4], (cs [.i .u32, .l Zc1, I, I, .s, .l (cs [.s]), .l Zc1, .s, I, .l (cs [I, .s, .b]), .b, I, .l (cs [.s]), .l Zc1, .l Zc4])⟩⟩]
def Yne (lo : Lo) : Zp25 -> Option (Zp25 ⊕ ((Int × Zt0 × Int × Int × ByteArray × Zt2 × Zt0 × ByteArray × Int × Zt9 × Bool × Int × Zt2 × Zt0 × Zt3))) := fun x => match x with
  | (s1, v55, v56, v57, v65, v66, v67, v4_0, v4_1, v4_2, out7, h2_0, h2_1, h2_2, p13, h4, h5, h6) => bif (decide (v67 < v66)) then (chk (0 <= v67 /\ v67 < (v65.length : Int)) (chk (0 <= v67) (bif (decide ((bits .and .u32 (s1.fdiv (2 ^ (min v67.toNat (IntKind.bits .u32)))) (1 : Int)) = (1 : Int))) then (chk (h6.length + ([(v65.getD v67.toNat ((0 : Int), (0 : Int), (ByteArray.mk #[])))]).length <= maxEl) (some (.inl (s1, v55, v56, v57, v65, v66, (IntKind.wrap .i64 (v67 + (1 : Int))), v4_0, v4_1, v4_2, out7, h2_0, h2_1, h2_2, p13, h4, h5, (h6 ++ ([(v65.getD v67.toNat ((0 : Int), (0 : Int), (ByteArray.mk #[])))])))))) else (some (.inl (s1, v55, v56, v57, v65, v66, (IntKind.wrap .i64 (v67 + (1 : Int))), v4_0, v4_1, v4_2, out7, h2_0, h2_1, h2_2, p13, h4, h5, h6)))))) else (some (.inr (s1, v55, v56, v57, v4_0, v4_1, v4_2, out7, h2_0, h2_1, h2_2, p13, h4, h5, h6)))
theorem YuI (lo : Lo) : ∀ x : Zp25, Yyf (⟨pf, fs18 lo, [YbN lo], 0⟩ : Tabs) [(13, some 1, false)] Ync Ynd q18_L9_b x = Yne lo x := fun x => by kernel_rfl
def Ynf (lo : Lo) : Zp25 -> Option ((Int × Zt0 × Int × Int × ByteArray × Zt2 × Zt0 × ByteArray × Int × Zt9 × Bool × Int × Zt2 × Zt0 × Zt3)) := lo.run (Yne lo)
def YcZ (lo : Lo) : LpE := ⟨9, [(13, some 1, false)], Ync, Ynd, Ynf lo⟩
theorem YuJ {lo : Lo} (hlo : LoOK lo) (C : Ctx) (hT : TOK (⟨pf, fs18 lo, [YbN lo], 0⟩ : Tabs) C) : Yx3 (fun _ => False) [] 0 C (.loop q18_L9_b.er) (YcZ lo) :=
  Yak hT frNo (show LK C _ q18_L9_b from ⟨tv, ⟨⟨tv, tv⟩, ⟨⟨tv, ⟨tv, ⟨tv, tv⟩⟩⟩, tv⟩⟩⟩) (fun x y h => Yal (YuI lo) (hlo _ _ _ h))
def q18_L3_b : VCode :=
 (.seq (.reg [o 58 (.bin .lss (t 57) (t 56))])
 (.seq (.cond (t 58) .skip
 (.exit 2))
 (.seq (.blk 3 (.seq (.reg [o 59 (.iad 2 (t 55) (t 57)), o 60 (.load true 2 (t 59)), o 12 (.alloc [.i .i64 0, .e Zc4]), on (.store 2 (t 12) (t 60))])
 (.seq (.reg [fD 61 0 12, lD 62 61, o 63 (.build [.i .i64 0, .e Zc4] [(0, 1, (t 62))]), o 13 (.alloc [.i .i64 0, .e Zc4]), on (.store 2 (t 13) (t 63))])
 (.seq (.seq (.reg [fD 64 1 12, lD 65 64, lN 66 65, o 67 (.mv (k 0))])
 (.blk 4 (.loop 9 q18_L9_b)))
 (.seq (.reg [fD 84 1 13, lD 85 84, o 86 (.call 261 [(t 85)]), mV 16 86])
 (.seq (.reg [mV 87 10, mV 88 16, o 89 (.mget none .b (cs []) false false (t 87) (t 88)), o 90 (.not (t 89))])
 (.cond (t 90) (.seq (.reg [mV 91 10, mV 92 16, on (.mput none .b (cs []) false (t 91) (t 92) (kb true))])
 (.fz [85] (.reg [fD 93 2 7, lD 94 93, o 95 (.load true 2 (t 13)), o 96 (.bsl Zc1 1 [(0, (t 95))]), o 97 (.app Zc1 0 (t 94) (t 96)), fD 98 2 7, on (.store 1 (t 98) (t 97))])))
 .skip)))))))
 (.reg [o 99 (.bin .add (t 57) (k 1)), mV 57 99]))))
def Yng : Sg := ⟨[1, 4, 7, 10, 55, 56, 57], [.i .u32, .ptr 0 0 0, .ptr 1 0 0, .np 2, .l Zc1, .i .i64, .i .i64], [.st [.s, .l (cs [.s]), .l Zc1], .st [.s, .ref 3, .ref 4], .st [.i .i64, .l (cs [I, .s, .b]), .b], .sq (cs [.s]), .sq Zc1], (cs [.i .u32, .l Zc1, I, I, .s, .l (cs [.s]), .l Zc1, .s, I, .l (cs [I, .s, .b]), .b, .l (cs [.s]), .l Zc1])⟩
def Ynh : List Out1 := [⟨.exit 2, ⟨[4, 7], [.ptr 0 0 0, .ptr 1 0 0], [.st [.s, .l (cs [.s]), .l Zc1], .st [.s, .ref 2, .ref 3], .sq (cs [.s]), .sq Zc1], Zc5⟩⟩]
def Yni (lo : Lo) : Zp31 -> Option (Zp31 ⊕ (Zp39)) := fun x => match x with
  | (s1, v55, v56, v57, v4_0, v4_1, v4_2, out7, h2_0, h2_1, h2_2, h3, h4) => bif (decide (v57 < v56)) then (chk (0 <= v57 /\ v57 < (v55.length : Int)) (Option.bind (Ynf lo (s1, v55, v56, v57, (v55.getD v57.toNat ((0 : Int), [])).2, (((v55.getD v57.toNat ((0 : Int), [])).2).length : Int), (0 : Int), v4_0, v4_1, v4_2, out7, h2_0, h2_1, h2_2, (v55.getD v57.toNat ((0 : Int), [])).1, h3, h4, [])) fun y48 => Option.bind (q17 lo y48.2.2.2.2.2.2.2.2.2.2.2.2.2.2) fun y49 => bif (!(mgt eqS y49 y48.2.2.2.2.2.2.2.2.2.1 false)) then (chk (y48.2.2.2.2.2.2.2.2.2.2.2.2.2.1.length + ([(y48.2.2.2.2.2.2.2.2.2.2.2.1, y48.2.2.2.2.2.2.2.2.2.2.2.2.2.2)]).length <= maxEl) (some (.inl (y48.1, y48.2.1, y48.2.2.1, (IntKind.wrap .i64 (y48.2.2.2.1 + (1 : Int))), y48.2.2.2.2.1, y48.2.2.2.2.2.1, y48.2.2.2.2.2.2.1, y48.2.2.2.2.2.2.2.1, (mck eqS y48.2.2.2.2.2.2.2.2.1 y49 y48.2.2.2.2.2.2.2.2.2.1), (mpt eqS y48.2.2.2.2.2.2.2.2.1 y49 true y48.2.2.2.2.2.2.2.2.2.1), y48.2.2.2.2.2.2.2.2.2.2.1, y48.2.2.2.2.2.2.2.2.2.2.2.2.1, (y48.2.2.2.2.2.2.2.2.2.2.2.2.2.1 ++ ([(y48.2.2.2.2.2.2.2.2.2.2.2.1, y48.2.2.2.2.2.2.2.2.2.2.2.2.2.2)])))))) else (some (.inl (y48.1, y48.2.1, y48.2.2.1, (IntKind.wrap .i64 (y48.2.2.2.1 + (1 : Int))), y48.2.2.2.2.1, y48.2.2.2.2.2.1, y48.2.2.2.2.2.2.1, y48.2.2.2.2.2.2.2.1, y48.2.2.2.2.2.2.2.2.1, y48.2.2.2.2.2.2.2.2.2.1, y48.2.2.2.2.2.2.2.2.2.2.1, y48.2.2.2.2.2.2.2.2.2.2.2.2.1, y48.2.2.2.2.2.2.2.2.2.2.2.2.2.1))))) else (some (.inr (v4_0, v4_1, v4_2, out7, h3, h4)))
theorem YuK (lo : Lo) : ∀ x : Zp31, Yyf (⟨pf, fs18 lo, [YcZ lo, YbN lo], 0⟩ : Tabs) [] Yng Ynh q18_L3_b x = Yni lo x := fun x => by kernel_rfl
def Ynj (lo : Lo) : Zp31 -> Option (Zp39) := lo.run (Yni lo)
def Yg1 (lo : Lo) : LpE := ⟨3, [], Yng, Ynh, Ynj lo⟩
theorem YuL {lo : Lo} (hlo : LoOK lo) (C : Ctx) (hT : TOK (⟨pf, fs18 lo, [YcZ lo, YbN lo], 0⟩ : Tabs) C) : Yx3 (fun _ => False) [] 0 C (.loop q18_L3_b.er) (Yg1 lo) :=
  Yak hT frNo (show LK C _ q18_L3_b from ⟨tv, ⟨⟨tv, tv⟩, ⟨⟨tv, ⟨tv, ⟨⟨tv, (Yye (by kernel_rfl) (YuJ hlo C (Yaf hT)))⟩, ⟨tv, ⟨tv, ⟨⟨tv, tv⟩, tv⟩⟩⟩⟩⟩⟩, tv⟩⟩⟩) (fun x y h => Yal (YuK lo) (hlo _ _ _ h))
def q18 (lo : Lo) (t0_0 : ByteArray) (t0_1 : List ByteArray) (t0_2 : List (Int × Zt3)) (s1 : Int) : Option (ByteArray × Zt2 × Zt0 × Int) :=
  Option.bind (q11 lo t0_0 t0_1 t0_2) fun y46 => bif (!decide (y46 = (0 : Int))) then (some ((ByteArray.mk #[]), ([] : List ByteArray), ([] : List (Int × Zt3)), y46)) else (chk (0 <= (t0_1.length : Int)) (bif (!decide ((s1.fdiv (2 ^ (min (t0_1.length : Int).toNat (IntKind.bits .u32)))) = (0 : Int))) then (some ((ByteArray.mk #[]), ([] : List ByteArray), ([] : List (Int × Zt3)), (6 : Int))) else (Option.bind (Ynb lo (s1, t0_1, (t0_1.length : Int), (0 : Int), t0_0, t0_1, t0_2, (ByteArray.mk #[]), ([] : List ByteArray), ([] : List (Int × Zt3)), t0_0, [], [])) fun y47 => Option.bind (Ynj lo (y47.1, y47.2.2.2.1, (y47.2.2.2.1.length : Int), (0 : Int), y47.2.2.2.2.1, y47.2.2.2.2.2.1, y47.2.2.2.2.2.2.1, y47.2.2.2.2.2.2.2.1, (0 : Int), ([] : List (Int × ByteArray × Bool)), false, y47.2.2.2.2.2.2.2.2.1, y47.2.2.2.2.2.2.2.2.2)) fun y50 => some (y50.2.2.2.1, y50.2.2.2.2.1, y50.2.2.2.2.2, (0 : Int)))))
def Ynk : VCode :=
 (.seq (.reg [o 2 (.box (t 0)), o 4 (.alloc [.s (⟨#[]⟩), .e (cs [.s]), .e Zc1]), o 5 (.mv (k 0))])
 (.seq (.seq (.reg [o 17 (.load true 3 (t 2)), o 18 (.call 230 [(t 17)]), mV 6 18])
 (.seq (.reg [mV 19 6, o 20 (.bin .neq (t 19) (k 0))])
 (.cond (t 20) (.seq (.reg [o 21 (.build [.s (⟨#[]⟩), .e (cs [.s]), .e Zc1] []), mV 22 6, on (.store 3 (t 4) (t 21)), mV 5 22])
 (.fz [4, 5] .ret))
 .skip)))
 (.seq (.seq (.reg [mV 23 1, fD 24 1 2, lD 25 24, lN 26 25, o 27 (.bin .shr (t 23) (t 26)), o 28 (.bin .neq (t 27) (ki .u32 0))])
 (.cond (t 28) (.seq (.reg [o 29 (.build [.s (⟨#[]⟩), .e (cs [.s]), .e Zc1] []), on (.store 3 (t 4) (t 29)), o 5 (.mv (k 6))])
 (.fz [4, 5] .ret))
 .skip))
 (.seq (.reg [fD 30 0 2, lD 31 30, o 32 (.build [.s (⟨#[]⟩), .e (cs [.s]), .e Zc1] [(0, 1, (t 31))]), o 7 (.alloc [.s (⟨#[]⟩), .e (cs [.s]), .e Zc1]), on (.store 3 (t 7) (t 32))])
 (.seq (.seq (.reg [fD 33 1 2, lD 34 33, lN 35 34, o 36 (.mv (k 0))])
 (.blk 0 (.loop 23 q18_L23_b)))
 (.seq (.reg [o 53 (.mkm none .b (cs []) false), mV 10 53])
 (.seq (.seq (.reg [fD 54 2 2, lD 55 54, lN 56 55, o 57 (.mv (k 0))])
 (.blk 2 (.loop 3 q18_L3_b)))
 (.seq (.reg [o 100 (.load true 3 (t 7)), on (.store 3 (t 4) (t 100)), o 5 (.mv (k 0))])
 (.fz [4, 5] .ret)))))))))
def Yg2 : VFn := ⟨true, 101, [.c 4 true 3, .t 5], Ynk⟩
def Yg3 (lo : Lo) : FnE := ⟨233, true, ⟨[0, 1], [.ag [.s, .l (cs [.s]), .l Zc1], .i .u32], [], (cs [.s, .l (cs [.s]), .l Zc1, .i .u32])⟩, .tp [.ag [.s, .l (cs [.s]), .l Zc1], .i .i64], [], Zc15, (fun x => q18 lo x.1 x.2.1 x.2.2.1 x.2.2.2 : ByteArray × Zt2 × Zt0 × Int -> Option (ByteArray × Zt2 × Zt0 × Int))⟩
theorem YuM (lo : Lo) : ∀ x : ByteArray × Zt2 × Zt0 × Int, evP (⟨pf, fs18 lo, [Yg1 lo, YcZ lo, YbN lo], 0⟩ : Tabs) Yg2 ⟨[0, 1], [.ag [.s, .l (cs [.s]), .l Zc1], .i .u32], [], (cs [.s, .l (cs [.s]), .l Zc1, .i .u32])⟩ (.tp [.ag [.s, .l (cs [.s]), .l Zc1], .i .i64]) Zc15 x = q18 lo x.1 x.2.1 x.2.2.1 x.2.2.2 := fun x => by kernel_rfl
theorem YuN {P : Program} {fm : FM} {lo : Lo} (hlo : LoOK lo) (hS : Yx2 P fm ⟨pf, fs18 lo, [], 0⟩) (hm : P.follows .mixedOrders = true) (htie : Ti P fm 233 Yg2) : Yx2 P fm ⟨pf, Yg3 lo :: fs18 lo, [], 0⟩ :=
  Yah hS hm [Yg1 lo, YcZ lo, YbN lo] (Yg3 lo) rfl Yg2 htie (by decide) rfl (Nat.le_of_ble_eq_true (by kernel_rfl)) (fun C hT => show LK C _ Ynk from ⟨tv, ⟨⟨tv, ⟨tv, ⟨⟨tv, tv⟩, tv⟩⟩⟩, ⟨⟨tv, ⟨⟨tv, tv⟩, tv⟩⟩, ⟨tv, ⟨⟨tv, (Yye (by kernel_rfl) (YuH hlo C (Yaf hT)))⟩, ⟨tv, ⟨⟨tv, (Yye (by kernel_rfl) (YuL hlo C (Yaf hT)))⟩, ⟨tv, tv⟩⟩⟩⟩⟩⟩⟩⟩) (fun x y h => (YuM lo x).trans h)
def fs19 (lo : Lo) : List FnE := Yg3 lo :: fs18 lo
def q19 (lo : Lo) (l : List ByteArray) : Option Zt2 := bif Nat.ble l.length maxEl && Nat.ble 1 1 then some l else none
def Ynl (lo : Lo) : FnE := vcloneE 269 (cs [.s])
theorem YuO {P : Program} {fm : FM} {lo : Lo} (hlo : LoOK lo) (hS : Yx2 P fm ⟨pf, fs19 lo, [], 0⟩) (hm : P.follows .mixedOrders = true) (htie : ∀ f, fm f = 269 -> fnTr P fm pf f = some (8, [.t 2], YyK 1 [(.string (⟨#[]⟩))])) : Yx2 P fm ⟨pf, Ynl lo :: fs19 lo, [], 0⟩ :=
  Ytb hS hm (cs [.s]) rfl [(.string (⟨#[]⟩))] 8 (by decide) htie
def fs20 (lo : Lo) : List FnE := Ynl lo :: fs19 lo
def q20_L3_b : VCode :=
 (.seq (.reg [o 21 (.bin .lss (t 20) (t 19))])
 (.seq (.cond (t 21) .skip
 (.exit 0))
 (.seq (.blk 1 (.seq (.reg [mV 22 20, o 23 (.iad 1 (t 18) (t 20)), lD 24 23, mV 11 22, mV 12 24])
 (.seq (.seq (.reg [mV 25 12, mV 26 0, lN 27 26, o 28 (.bin .lss (t 25) (t 27)), mV 29 28, og 30 29 true (.mv (t 0)), og 31 29 true (.mv (t 12)), og 32 29 true (.iad 3 (t 30) (t 31)), og 33 29 true (.load true 3 (t 32)), og 34 29 true (.mv (t 1)), og 35 29 true (.mv (t 11)), og 36 29 true (.iad 3 (t 34) (t 35)), og 37 29 true (.load true 3 (t 36)), og 38 29 true (.eqa true [1, 1, 2] (t 33) (t 37)), o 39 (.pick (t 29) (t 38) (kb false))])
 (.cond (t 39) (.seq (.reg [o 8 (.mv (ke Zc4)), o 9 (.mv (kb false))])
 (.fz [8, 9] .ret))
 .skip))
 (.reg [mV 40 10, mV 41 12, mV 42 1, mV 43 11, o 44 (.iad 3 (t 42) (t 43)), o 45 (.load true 3 (t 44)), o 46 (.iad 3 (t 40) (t 41)), on (.store 3 (t 46) (t 45))]))))
 (.reg [o 47 (.bin .add (t 20) (k 1)), mV 20 47]))))
def Ynm : Sg := ⟨[0, 1, 10, 18, 19, 20], [.l Zc4, .l Zc4, .ref 0, .l (cs [I]), .i .i64, .i .i64], [.sq Zc4], (cs [.l Zc4, .l Zc4, .l (cs [I]), I, I, .l Zc4])⟩
def Ynn : List Out1 := [⟨.ret, ⟨[8, 9], [.l Zc4, .b], [], (cs [.l Zc4, .b])⟩⟩, ⟨.exit 0, ⟨[10], [.ref 0], [.sq Zc4], (cs [.l Zc4])⟩⟩]
def Yef (lo : Lo) : Zp40 -> Option (Zp40 ⊕ ((Zt3 × Bool) ⊕ (Zt3))) := fun x => match x with
  | (a0, b1, v18, v19, v20, out10) => bif (decide (v20 < v19)) then (chk (0 <= v20 /\ v20 < (v18.length : Int)) (bif (decide ((v18.getD v20.toNat (0 : Int)) < (a0.length : Int))) then (chk (0 <= (v18.getD v20.toNat (0 : Int)) /\ (v18.getD v20.toNat (0 : Int)) < (a0.length : Int)) (chk (0 <= v20 /\ v20 < (b1.length : Int)) (bif (!((decide ((a0.getD ((v18.getD v20.toNat (0 : Int)).toNat) ((0 : Int), (0 : Int), (ByteArray.mk #[]))).1 = (b1.getD v20.toNat ((0 : Int), (0 : Int), (ByteArray.mk #[]))).1)) && ((decide ((a0.getD ((v18.getD v20.toNat (0 : Int)).toNat) ((0 : Int), (0 : Int), (ByteArray.mk #[]))).2.1 = (b1.getD v20.toNat ((0 : Int), (0 : Int), (ByteArray.mk #[]))).2.1)) && ((decide ((a0.getD ((v18.getD v20.toNat (0 : Int)).toNat) ((0 : Int), (0 : Int), (ByteArray.mk #[]))).2.2 = (b1.getD v20.toNat ((0 : Int), (0 : Int), (ByteArray.mk #[]))).2.2)) && true)))) then (some (.inr (.inl (([] : List (Int × Int × ByteArray)), false)))) else (chk (0 <= v20 /\ v20 < (b1.length : Int)) (chk (0 <= (v18.getD v20.toNat (0 : Int)) /\ (v18.getD v20.toNat (0 : Int)) < (out10.length : Int)) (some (.inl (a0, b1, v18, v19, (IntKind.wrap .i64 (v20 + (1 : Int))), (out10.set ((v18.getD v20.toNat (0 : Int)).toNat) (b1.getD v20.toNat ((0 : Int), (0 : Int), (ByteArray.mk #[])))))))))))) else (chk (0 <= v20 /\ v20 < (b1.length : Int)) (chk (0 <= (v18.getD v20.toNat (0 : Int)) /\ (v18.getD v20.toNat (0 : Int)) < (out10.length : Int)) (some (.inl (a0, b1, v18, v19, (IntKind.wrap .i64 (v20 + (1 : Int))), (out10.set ((v18.getD v20.toNat (0 : Int)).toNat) (b1.getD v20.toNat ((0 : Int), (0 : Int), (ByteArray.mk #[]))))))))))) else (some (.inr (.inr out10)))
theorem YuP (lo : Lo) : ∀ x : Zp40, Yyf (⟨pf, fs20 lo, [], 0⟩ : Tabs) [] Ynm Ynn q20_L3_b x = Yef lo x := fun x => by kernel_rfl
def Yeg (lo : Lo) : Zp40 -> Option ((Zt3 × Bool) ⊕ (Zt3)) := lo.run (Yef lo)
def Yg4 (lo : Lo) : LpE := ⟨3, [], Ynm, Ynn, Yeg lo⟩
theorem YuQ {lo : Lo} (hlo : LoOK lo) (C : Ctx) (hT : TOK (⟨pf, fs20 lo, [], 0⟩ : Tabs) C) : Yx3 (fun _ => False) [] 0 C (.loop q20_L3_b.er) (Yg4 lo) :=
  Yak hT frNo (show LK C _ q20_L3_b from ⟨tv, ⟨⟨tv, tv⟩, ⟨⟨tv, ⟨⟨tv, ⟨⟨tv, tv⟩, tv⟩⟩, tv⟩⟩, tv⟩⟩⟩) (fun x y h => Yal (YuP lo) (hlo _ _ _ h))
def q20 (lo : Lo) (a0 : List (Int × Int × ByteArray)) (b1 : List (Int × Int × ByteArray)) (place2 : List Int) (n3 : Int) : Option (Zt3 × Bool) :=
  chk (0 <= n3 /\ n3 <= n3 /\ n3 <= (maxEl : Nat)) (Option.bind (Yeg lo (a0, b1, place2, (place2.length : Int), (0 : Int), (a0.take (min a0.length (List.replicate n3.toNat ((0 : Int), (0 : Int), (ByteArray.mk #[]))).length) ++ (List.replicate n3.toNat ((0 : Int), (0 : Int), (ByteArray.mk #[]))).drop (min a0.length (List.replicate n3.toNat ((0 : Int), (0 : Int), (ByteArray.mk #[]))).length)))) fun y58 => alt2 y58 (fun y59 => some (y59.1, y59.2)) (fun y60 => some (y60, true)))
def Yno : VCode :=
 (.seq (.reg [o 8 (.mv (ke Zc4)), o 9 (.mv (kb false))])
 (.seq (.reg [mV 13 3, o 14 (.mksl Zc4 0 (t 13) (t 13)), mV 10 14])
 (.seq (.reg [mV 15 10, mV 16 0, o 17 (.cpy Zc4 (t 15) (t 16))])
 (.seq (.seq (.reg [mV 18 2, lN 19 18, o 20 (.mv (k 0))])
 (.blk 0 (.loop 3 q20_L3_b)))
 (.seq (.reg [mV 48 10, mV 8 48, o 9 (.mv (kb true))])
 (.fz [8, 9] .ret))))))
def Yg5 : VFn := ⟨true, 49, [.t 8, .t 9], Yno⟩
def Yg6 (lo : Lo) : FnE := ⟨270, true, ⟨[0, 1, 2, 3], [.l Zc4, .l Zc4, .l (cs [I]), .i .i64], [], (cs [.l Zc4, .l Zc4, .l (cs [I]), I])⟩, .tp [.l Zc4, .b], [], (cs [.l Zc4, .b]), (fun x => q20 lo x.1 x.2.1 x.2.2.1 x.2.2.2 : Zt3 × Zt3 × (List Int) × Int -> Option (Zt3 × Bool))⟩
theorem YuR (lo : Lo) : ∀ x : Zt3 × Zt3 × (List Int) × Int, evP (⟨pf, fs20 lo, [Yg4 lo], 0⟩ : Tabs) Yg5 ⟨[0, 1, 2, 3], [.l Zc4, .l Zc4, .l (cs [I]), .i .i64], [], (cs [.l Zc4, .l Zc4, .l (cs [I]), I])⟩ (.tp [.l Zc4, .b]) (cs [.l Zc4, .b]) x = q20 lo x.1 x.2.1 x.2.2.1 x.2.2.2 := fun x => by kernel_rfl
theorem YuS {P : Program} {fm : FM} {lo : Lo} (hlo : LoOK lo) (hS : Yx2 P fm ⟨pf, fs20 lo, [], 0⟩) (hm : P.follows .mixedOrders = true) (htie : Ti P fm 270 Yg5) : Yx2 P fm ⟨pf, Yg6 lo :: fs20 lo, [], 0⟩ :=
  Yah hS hm [Yg4 lo] (Yg6 lo) rfl Yg5 htie (by decide) rfl (Nat.le_of_ble_eq_true (by kernel_rfl)) (fun C hT => show LK C _ Yno from ⟨tv, ⟨tv, ⟨tv, ⟨⟨tv, (Yye (by kernel_rfl) (YuQ hlo C (Yaf hT)))⟩, ⟨tv, tv⟩⟩⟩⟩⟩) (fun x y h => (YuR lo x).trans h)
def fs21 (lo : Lo) : List FnE := Yg6 lo :: fs20 lo
def q21_J9_b : VCode :=
 (.seq (.seq (.reg [mV 13 0, o 14 (.bin .geq (t 13) (ki .u64 256))])
 (.cond (t 14) (.seq (.reg [mV 15 0, o 16 (.bin .shr (t 15) (ki .u64 8)), mV 0 16])
 (.reg [mV 17 2, o 18 (.bin .add (t 17) (k 8)), mV 2 18]))
 .skip))
 (.seq (.reg [mV 19 2, mV 20 0, o 21 (.conv .u8 (t 20)), o 22 (.idx (ks (⟨#[0, 1, 2, 2, 3, 3, 3, 3, 4, 4, 4, 4, 4, 4, 4, 4, 5, 5, 5, 5, 5, 5, 5, 5, 5, 5, 5, 5, 5, 5, 5, 5, 6, 6, 6, 6, 6, 6, 6, 6, 6, 6, 6, 6, 6, 6, 6, 6, 6, 6, 6, 6, 6, 6, 6, 6, 6, 6, 6, 6, 6, 6, 6, 6, 7, 7, 7, 7, 7, 7, 7, 7, 7, 7, 7, 7, 7, 7, 7, 7, 7, 7, 7, 7, 7, 7, 7, 7, 7, 7, 7, 7, 7, 7, 7, 7, 7, 7, 7, 7, 7, 7, 7, 7, 7, 7, 7, 7, 7, 7, 7, 7, 7, 7, 7, 7, 7, 7, 7, 7, 7, 7, 7, 7, 7, 7, 7, 7, 8, 8, 8, 8, 8, 8, 8, 8, 8, 8, 8, 8, 8, 8, 8, 8, 8, 8, 8, 8, 8, 8, 8, 8, 8, 8, 8, 8, 8, 8, 8, 8, 8, 8, 8, 8, 8, 8, 8, 8, 8, 8, 8, 8, 8, 8, 8, 8, 8, 8, 8, 8, 8, 8, 8, 8, 8, 8, 8, 8, 8, 8, 8, 8, 8, 8, 8, 8, 8, 8, 8, 8, 8, 8, 8, 8, 8, 8, 8, 8, 8, 8, 8, 8, 8, 8, 8, 8, 8, 8, 8, 8, 8, 8, 8, 8, 8, 8, 8, 8, 8, 8, 8, 8, 8, 8, 8, 8, 8, 8, 8, 8, 8, 8, 8, 8, 8, 8, 8, 8, 8, 8, 8, 8, 8, 8, 8, 8]⟩)) (t 21)), o 23 (.conv .i64 (t 22)), o 24 (.bin .add (t 19) (t 23)), mV 2 24])
 (.fz [2] .ret)))
def Ynp : Sg := ⟨[0, 2], [.i .u64, .i .i64], [], (cs [.i .u64, I])⟩
def Ynq : List Out1 := [⟨.ret, ⟨[2], [.i .i64], [], (cs [I])⟩⟩]
def Ycb (lo : Lo) : Int × Int -> Option Int := fun x => match x with
  | (x0, n2) => bif (decide ((256 : Int) <= x0)) then (chk (0 <= (8 : Int)) (chk (0 <= (IntKind.wrap .u8 (x0.fdiv (2 ^ (min (8 : Int).toNat (IntKind.bits .u64))))) /\ (IntKind.wrap .u8 (x0.fdiv (2 ^ (min (8 : Int).toNat (IntKind.bits .u64))))) < ((ByteArray.mk #[0, 1, 2, 2, 3, 3, 3, 3, 4, 4, 4, 4, 4, 4, 4, 4, 5, 5, 5, 5, 5, 5, 5, 5, 5, 5, 5, 5, 5, 5, 5, 5, 6, 6, 6, 6, 6, 6, 6, 6, 6, 6, 6, 6, 6, 6, 6, 6, 6, 6, 6, 6, 6, 6, 6, 6, 6, 6, 6, 6, 6, 6, 6, 6, 7, 7, 7, 7, 7, 7, 7, 7, 7, 7, 7, 7, 7, 7, 7, 7, 7, 7, 7, 7, 7, 7, 7, 7, 7, 7, 7, 7, 7, 7, 7, 7, 7, 7, 7, 7, 7, 7, 7, 7, 7, 7, 7, 7, 7, 7, 7, 7, 7, 7, 7, 7, 7, 7, 7, 7, 7, 7, 7, 7, 7, 7, 7, 7, 8, 8, 8, 8, 8, 8, 8, 8, 8, 8, 8, 8, 8, 8, 8, 8, 8, 8, 8, 8, 8, 8, 8, 8, 8, 8, 8, 8, 8, 8, 8, 8, 8, 8, 8, 8, 8, 8, 8, 8, 8, 8, 8, 8, 8, 8, 8, 8, 8, 8, 8, 8, 8, 8, 8, 8, 8, 8, 8, 8, 8, 8, 8, 8, 8, 8, 8, 8, 8, 8, 8, 8, 8, 8, 8, 8, 8, 8, 8, 8, 8, 8, 8, 8, 8, 8, 8, 8, 8, 8, 8, 8, 8, 8, 8, 8, 8, 8, 8, 8, 8, 8, 8, 8, 8, 8, 8, 8, 8, 8, 8, 8, 8, 8, 8, 8, 8, 8, 8, 8, 8, 8, 8, 8, 8, 8, 8, 8]).size : Int)) (some (IntKind.wrap .i64 ((IntKind.wrap .i64 (n2 + (8 : Int))) + (IntKind.wrap .i64 (Yx5 (ByteArray.mk #[0, 1, 2, 2, 3, 3, 3, 3, 4, 4, 4, 4, 4, 4, 4, 4, 5, 5, 5, 5, 5, 5, 5, 5, 5, 5, 5, 5, 5, 5, 5, 5, 6, 6, 6, 6, 6, 6, 6, 6, 6, 6, 6, 6, 6, 6, 6, 6, 6, 6, 6, 6, 6, 6, 6, 6, 6, 6, 6, 6, 6, 6, 6, 6, 7, 7, 7, 7, 7, 7, 7, 7, 7, 7, 7, 7, 7, 7, 7, 7, 7, 7, 7, 7, 7, 7, 7, 7, 7, 7, 7, 7, 7, 7, 7, 7, 7, 7, 7, 7, 7, 7, 7, 7, 7, 7, 7, 7, 7, 7, 7, 7, 7, 7, 7, 7, 7, 7, 7, 7, 7, 7, 7, 7, 7, 7, 7, 7, 8, 8, 8, 8, 8, 8, 8, 8, 8, 8, 8, 8, 8, 8, 8, 8, 8, 8, 8, 8, 8, 8, 8, 8, 8, 8, 8, 8, 8, 8, 8, 8, 8, 8, 8, 8, 8, 8, 8, 8, 8, 8, 8, 8, 8, 8, 8, 8, 8, 8, 8, 8, 8, 8, 8, 8, 8, 8, 8, 8, 8, 8, 8, 8, 8, 8, 8, 8, 8, 8, 8, 8, 8, 8, 8, 8, 8, 8, 8, 8, 8, 8, 8, 8, 8, 8, 8, 8, 8, 8, 8, 8, 8, 8, 8, 8, 8, 8, 8, 8, 8, 8, 8, 8, 8, 8, 8, 8, 8, 8, 8, 8, 8, 8, 8, 8, 8, 8, 8, 8, 8, 8, 8, 8, 8, 8, 8, 8]) (IntKind.wrap .u8 (x0.fdiv (2 ^ (min (8 : Int).toNat (IntKind.bits .u64)))))))))))) else (chk (0 <= (IntKind.wrap .u8 x0) /\ (IntKind.wrap .u8 x0) < ((ByteArray.mk #[0, 1, 2, 2, 3, 3, 3, 3, 4, 4, 4, 4, 4, 4, 4, 4, 5, 5, 5, 5, 5, 5, 5, 5, 5, 5, 5, 5, 5, 5, 5, 5, 6, 6, 6, 6, 6, 6, 6, 6, 6, 6, 6, 6, 6, 6, 6, 6, 6, 6, 6, 6, 6, 6, 6, 6, 6, 6, 6, 6, 6, 6, 6, 6, 7, 7, 7, 7, 7, 7, 7, 7, 7, 7, 7, 7, 7, 7, 7, 7, 7, 7, 7, 7, 7, 7, 7, 7, 7, 7, 7, 7, 7, 7, 7, 7, 7, 7, 7, 7, 7, 7, 7, 7, 7, 7, 7, 7, 7, 7, 7, 7, 7, 7, 7, 7, 7, 7, 7, 7, 7, 7, 7, 7, 7, 7, 7, 7, 8, 8, 8, 8, 8, 8, 8, 8, 8, 8, 8, 8, 8, 8, 8, 8, 8, 8, 8, 8, 8, 8, 8, 8, 8, 8, 8, 8, 8, 8, 8, 8, 8, 8, 8, 8, 8, 8, 8, 8, 8, 8, 8, 8, 8, 8, 8, 8, 8, 8, 8, 8, 8, 8, 8, 8, 8, 8, 8, 8, 8, 8, 8, 8, 8, 8, 8, 8, 8, 8, 8, 8, 8, 8, 8, 8, 8, 8, 8, 8, 8, 8, 8, 8, 8, 8, 8, 8, 8, 8, 8, 8, 8, 8, 8, 8, 8, 8, 8, 8, 8, 8, 8, 8, 8, 8, 8, 8, 8, 8, 8, 8, 8, 8, 8, 8, 8, 8, 8, 8, 8, 8, 8, 8, 8, 8, 8, 8]).size : Int)) (some (IntKind.wrap .i64 (n2 + (IntKind.wrap .i64 (Yx5 (ByteArray.mk #[0, 1, 2, 2, 3, 3, 3, 3, 4, 4, 4, 4, 4, 4, 4, 4, 5, 5, 5, 5, 5, 5, 5, 5, 5, 5, 5, 5, 5, 5, 5, 5, 6, 6, 6, 6, 6, 6, 6, 6, 6, 6, 6, 6, 6, 6, 6, 6, 6, 6, 6, 6, 6, 6, 6, 6, 6, 6, 6, 6, 6, 6, 6, 6, 7, 7, 7, 7, 7, 7, 7, 7, 7, 7, 7, 7, 7, 7, 7, 7, 7, 7, 7, 7, 7, 7, 7, 7, 7, 7, 7, 7, 7, 7, 7, 7, 7, 7, 7, 7, 7, 7, 7, 7, 7, 7, 7, 7, 7, 7, 7, 7, 7, 7, 7, 7, 7, 7, 7, 7, 7, 7, 7, 7, 7, 7, 7, 7, 8, 8, 8, 8, 8, 8, 8, 8, 8, 8, 8, 8, 8, 8, 8, 8, 8, 8, 8, 8, 8, 8, 8, 8, 8, 8, 8, 8, 8, 8, 8, 8, 8, 8, 8, 8, 8, 8, 8, 8, 8, 8, 8, 8, 8, 8, 8, 8, 8, 8, 8, 8, 8, 8, 8, 8, 8, 8, 8, 8, 8, 8, 8, 8, 8, 8, 8, 8, 8, 8, 8, 8, 8, 8, 8, 8, 8, 8, 8, 8, 8, 8, 8, 8, 8, 8, 8, 8, 8, 8, 8, 8, 8, 8, 8, 8, 8, 8, 8, 8, 8, 8, 8, 8, 8, 8, 8, 8, 8, 8, 8, 8, 8, 8, 8, 8, 8, 8, 8, 8, 8, 8, 8, 8, 8, 8, 8, 8]) (IntKind.wrap .u8 x0)))))))
theorem YuT (lo : Lo) : ∀ x : Int × Int, stepJ (⟨pf, fs21 lo, [], 0⟩ : Tabs) Ynp Ynq q21_J9_b x = Ycb lo x := fun x => by kernel_rfl
def Yg7 (lo : Lo) : LpE := ⟨9, [], Ynp, Ynq, Ycb lo⟩
theorem YuU {lo : Lo} (hlo : LoOK lo) (C : Ctx) (hT : TOK (⟨pf, fs21 lo, [], 0⟩ : Tabs) C) : Yx3 (fun _ => False) [] 0 C q21_J9_b.er (Yg7 lo) :=
  YcS hT frNo (show LK C _ q21_J9_b from ⟨⟨tv, ⟨⟨tv, tv⟩, tv⟩⟩, ⟨tv, tv⟩⟩) (fun x y h => (YuT lo x).trans h)
def q21 (lo : Lo) (x0 : Int) : Option Int :=
  bif (decide ((4294967296 : Int) <= x0)) then (chk (0 <= (32 : Int)) (bif (decide ((65536 : Int) <= (x0.fdiv (2 ^ (min (32 : Int).toNat (IntKind.bits .u64)))))) then (chk (0 <= (16 : Int)) (Option.bind (Ycb lo (((x0.fdiv (2 ^ (min (32 : Int).toNat (IntKind.bits .u64)))).fdiv (2 ^ (min (16 : Int).toNat (IntKind.bits .u64)))), (IntKind.wrap .i64 ((32 : Int) + (16 : Int))))) fun y93 => some y93)) else (Option.bind (Ycb lo ((x0.fdiv (2 ^ (min (32 : Int).toNat (IntKind.bits .u64)))), (32 : Int))) fun y94 => some y94))) else (bif (decide ((65536 : Int) <= x0)) then (chk (0 <= (16 : Int)) (Option.bind (Ycb lo ((x0.fdiv (2 ^ (min (16 : Int).toNat (IntKind.bits .u64)))), (IntKind.wrap .i64 ((0 : Int) + (16 : Int))))) fun y95 => some y95)) else (Option.bind (Ycb lo (x0, (0 : Int))) fun y96 => some y96))
def Ynr : VCode :=
 (.seq (.reg [o 2 (.mv (k 0))])
 (.seq (.seq (.reg [mV 3 0, o 4 (.bin .geq (t 3) (ki .u64 4294967296))])
 (.cond (t 4) (.seq (.reg [mV 5 0, o 6 (.bin .shr (t 5) (ki .u64 32)), mV 0 6])
 (.reg [o 2 (.mv (k 32))]))
 .skip))
 (.seq (.seq (.reg [mV 7 0, o 8 (.bin .geq (t 7) (ki .u64 65536))])
 (.cond (t 8) (.seq (.reg [mV 9 0, o 10 (.bin .shr (t 9) (ki .u64 16)), mV 0 10])
 (.reg [mV 11 2, o 12 (.bin .add (t 11) (k 16)), mV 2 12]))
 .skip))
 (.jn 9 q21_J9_b))))
def Yg8 : VFn := ⟨true, 25, [.t 2], Ynr⟩
def Yg9 (lo : Lo) : FnE := ⟨187, true, ⟨[0], [.i .u64], [], (cs [.i .u64])⟩, .i .i64, [], (cs [I]), (fun x => q21 lo x : Int -> Option Int)⟩
theorem YuV (lo : Lo) : ∀ x : Int, evP (⟨pf, fs21 lo, [Yg7 lo], 0⟩ : Tabs) Yg8 ⟨[0], [.i .u64], [], (cs [.i .u64])⟩ (.i .i64) (cs [I]) x = q21 lo x := fun x => by kernel_rfl
theorem YuW {P : Program} {fm : FM} {lo : Lo} (hlo : LoOK lo) (hS : Yx2 P fm ⟨pf, fs21 lo, [], 0⟩) (hm : P.follows .mixedOrders = true) (htie : Ti P fm 187 Yg8) : Yx2 P fm ⟨pf, Yg9 lo :: fs21 lo, [], 0⟩ :=
  Yah hS hm [Yg7 lo] (Yg9 lo) rfl Yg8 htie (by decide) rfl (Nat.le_of_ble_eq_true (by kernel_rfl)) (fun C hT => show LK C _ Ynr from ⟨tv, ⟨⟨tv, ⟨⟨tv, tv⟩, tv⟩⟩, ⟨⟨tv, ⟨⟨tv, tv⟩, tv⟩⟩, (Yye (by kernel_rfl) (YuU hlo C (Yaf hT)))⟩⟩⟩) (fun x y h => (YuV lo x).trans h)
def fs22 (lo : Lo) : List FnE := Yg9 lo :: fs21 lo
def q22 (lo : Lo) (x0 : Int) : Option Int :=
  Option.bind (q21 lo x0) fun y97 => some y97
def Yns : VCode :=
 (.seq (.reg [o 2 (.mv (k 0))])
 (.seq (.cond (kb false) (.seq (.reg [mV 3 0, o 4 (.conv .u32 (t 3)), o 5 (.call 186 [(t 4)]), mV 2 5])
 (.fz [2] .ret))
 .skip)
 (.seq (.reg [mV 6 0, o 7 (.call 187 [(t 6)]), mV 2 7])
 (.fz [2] .ret))))
def Yha : VFn := ⟨true, 8, [.t 2], Yns⟩
def Yhb (lo : Lo) : FnE := ⟨163, true, ⟨[0], [.i .u64], [], (cs [.i .u64])⟩, .i .i64, [], (cs [I]), (fun x => q22 lo x : Int -> Option Int)⟩
theorem YuX (lo : Lo) : ∀ x : Int, evP (⟨pf, fs22 lo, [], 0⟩ : Tabs) Yha ⟨[0], [.i .u64], [], (cs [.i .u64])⟩ (.i .i64) (cs [I]) x = q22 lo x := fun x => by kernel_rfl
theorem YuY {P : Program} {fm : FM} {lo : Lo} (hlo : LoOK lo) (hS : Yx2 P fm ⟨pf, fs22 lo, [], 0⟩) (hm : P.follows .mixedOrders = true) (htie : Ti P fm 163 Yha) : Yx2 P fm ⟨pf, Yhb lo :: fs22 lo, [], 0⟩ :=
  Yah hS hm [] (Yhb lo) rfl Yha htie (by decide) rfl (Nat.le_of_ble_eq_true (by kernel_rfl)) (fun C hT => show LK C _ Yns from ⟨tv, ⟨⟨⟨tv, tv⟩, tv⟩, ⟨tv, tv⟩⟩⟩) (fun x y h => (YuX lo x).trans h)
def fs23 (lo : Lo) : List FnE := Yhb lo :: fs22 lo
def q23 (lo : Lo) (x0 : ByteArray) : Option Bool :=
  some (!decide (x0 = x0))
def Ynt : VCode :=
 (.seq (.reg [o 2 (.mv (kb false))])
 (.seq (.reg [mV 3 0, mV 4 0, o 5 (.bin .neq (t 3) (t 4)), mV 2 5])
 (.fz [2] .ret)))
def Yhc : VFn := ⟨true, 6, [.t 2], Ynt⟩
def Yhd (lo : Lo) : FnE := ⟨325, true, ⟨[0], [.s], [], (cs [.s])⟩, .b, [], (cs [.b]), (fun x => q23 lo x : ByteArray -> Option Bool)⟩
theorem YuZ (lo : Lo) : ∀ x : ByteArray, evP (⟨pf, fs23 lo, [], 0⟩ : Tabs) Yhc ⟨[0], [.s], [], (cs [.s])⟩ (.b) (cs [.b]) x = q23 lo x := fun x => by kernel_rfl
theorem Yu0 {P : Program} {fm : FM} {lo : Lo} (hlo : LoOK lo) (hS : Yx2 P fm ⟨pf, fs23 lo, [], 0⟩) (hm : P.follows .mixedOrders = true) (htie : Ti P fm 325 Yhc) : Yx2 P fm ⟨pf, Yhd lo :: fs23 lo, [], 0⟩ :=
  Yah hS hm [] (Yhd lo) rfl Yhc htie (by decide) rfl (Nat.le_of_ble_eq_true (by kernel_rfl)) (fun C hT => show LK C _ Ynt from ⟨tv, ⟨tv, tv⟩⟩) (fun x y h => (YuZ lo x).trans h)
def fs24 (lo : Lo) : List FnE := Yhd lo :: fs23 lo
def q24 (lo : Lo) (x0 : ByteArray) (y1 : ByteArray) : Option Bool :=
  Option.bind (q23 lo x0) fun y99 => bif y99 then (Option.bind (q23 lo y1) fun y100 => bif (!y100) then (some true) else (some (Op.bytesLess x0.toList y1.toList))) else (some (Op.bytesLess x0.toList y1.toList))
def Ynu : VCode :=
 (.seq (.reg [o 4 (.mv (kb false))])
 (.seq (.reg [mV 5 0, o 6 (.call 325 [(t 5)]), mV 7 6, og 8 7 true (.mv (t 1)), og 9 7 true (.call 325 [(t 8)]), og 10 7 true (.not (t 9)), o 11 (.pick (t 7) (t 10) (kb false)), mV 12 11, og 13 12 false (.mv (t 0)), og 14 12 false (.mv (t 1)), og 15 12 false (.bin .lss (t 13) (t 14)), o 16 (.pick (t 12) (kb true) (t 15)), mV 4 16])
 (.fz [4] .ret)))
def Yhe : VFn := ⟨true, 17, [.t 4], Ynu⟩
def Yhf (lo : Lo) : FnE := ⟨317, true, ⟨[0, 1], [.s, .s], [], (cs [.s, .s])⟩, .b, [], (cs [.b]), (fun x => q24 lo x.1 x.2 : ByteArray × ByteArray -> Option Bool)⟩
theorem Yu1 (lo : Lo) : ∀ x : ByteArray × ByteArray, evP (⟨pf, fs24 lo, [], 0⟩ : Tabs) Yhe ⟨[0, 1], [.s, .s], [], (cs [.s, .s])⟩ (.b) (cs [.b]) x = q24 lo x.1 x.2 := fun x => by kernel_rfl
theorem Yu2 {P : Program} {fm : FM} {lo : Lo} (hlo : LoOK lo) (hS : Yx2 P fm ⟨pf, fs24 lo, [], 0⟩) (hm : P.follows .mixedOrders = true) (htie : Ti P fm 317 Yhe) : Yx2 P fm ⟨pf, Yhf lo :: fs24 lo, [], 0⟩ :=
  Yah hS hm [] (Yhf lo) rfl Yhe htie (by decide) rfl (Nat.le_of_ble_eq_true (by kernel_rfl)) (fun C hT => show LK C _ Ynu from ⟨tv, ⟨tv, tv⟩⟩) (fun x y h => (Yu1 lo x).trans h)
def fs25 (lo : Lo) : List FnE := Yhf lo :: fs24 lo
end Go.Abs.G03
namespace Go.Abs.G03
open Go Go.Abs
set_option maxRecDepth 100000
set_option maxHeartbeats 1000000
def q25_L3_b : VCode :=
 (.seq (.seq (.reg [mV 16 7, mV 17 1, o 18 (.bin .gtr (t 16) (t 17)), mV 19 18, og 20 19 true (.mv (t 0)), og 21 19 true (.mv (t 7)), og 22 19 true (.iad 1 (t 20) (t 21)), og 23 19 true (.load false 1 (t 22)), og 24 19 true (.mv (t 0)), og 25 19 true (.mv (t 7)), og 26 19 true (.bin .sub (t 25) (k 1)), og 27 19 true (.iad 1 (t 24) (t 26)), og 28 19 true (.load false 1 (t 27)), og 29 19 true (.call 317 [(t 23), (t 28)]), o 30 (.pick (t 19) (t 29) (kb false))])
 (.cond (t 30) .skip
 (.exit 2)))
 (.seq (.blk 3 (.reg [mV 33 0, mV 34 7, mV 35 0, mV 36 7, o 37 (.bin .sub (t 36) (k 1)), mV 38 0, mV 39 7, o 40 (.bin .sub (t 39) (k 1)), o 41 (.iad 1 (t 38) (t 40)), lD 42 41, mV 43 0, mV 44 7, o 45 (.iad 1 (t 43) (t 44)), lD 46 45, o 47 (.iad 1 (t 33) (t 34)), on (.store 1 (t 47) (t 42)), o 48 (.iad 1 (t 35) (t 37)), on (.store 1 (t 48) (t 46))]))
 (.reg [mV 31 7, o 32 (.bin .sub (t 31) (k 1)), mV 7 32])))
def Ynv : Sg := ⟨[0, 1, 2, 6, 7], [.ref 0, .i .i64, .i .i64, .i .i64, .i .i64], [.sq (cs [.s])], (cs [I, I, I, I, .l (cs [.s])])⟩
def Ynw : List Out1 := [⟨.exit 2, ⟨[0, 1, 2, 6], [.ref 0, .i .i64, .i .i64, .i .i64], [.sq (cs [.s])], Zc16⟩⟩]
def Ynx (lo : Lo) : Int × Int × Int × Int × Zt2 -> Option ((Int × Int × Int × Int × Zt2) ⊕ ((Int × Int × Int × Zt2))) := fun x => match x with
  | (a1, b2, i6, j7, data0) => bif (decide (a1 < j7)) then (chk (0 <= j7 /\ j7 < (data0.length : Int)) (chk (0 <= (IntKind.wrap .i64 (j7 - (1 : Int))) /\ (IntKind.wrap .i64 (j7 - (1 : Int))) < (data0.length : Int)) (Option.bind (q24 lo (data0.getD j7.toNat (ByteArray.mk #[])) (data0.getD ((IntKind.wrap .i64 (j7 - (1 : Int))).toNat) (ByteArray.mk #[]))) fun y101 => bif y101 then (chk (0 <= (IntKind.wrap .i64 (j7 - (1 : Int))) /\ (IntKind.wrap .i64 (j7 - (1 : Int))) < (data0.length : Int)) (chk (0 <= j7 /\ j7 < (data0.length : Int)) (chk (0 <= j7 /\ j7 < (data0.length : Int)) (chk (0 <= (IntKind.wrap .i64 (j7 - (1 : Int))) /\ (IntKind.wrap .i64 (j7 - (1 : Int))) < ((data0.set j7.toNat (data0.getD ((IntKind.wrap .i64 (j7 - (1 : Int))).toNat) (ByteArray.mk #[]))).length : Int)) (some (.inl (a1, b2, i6, (IntKind.wrap .i64 (j7 - (1 : Int))), ((data0.set j7.toNat (data0.getD ((IntKind.wrap .i64 (j7 - (1 : Int))).toNat) (ByteArray.mk #[]))).set ((IntKind.wrap .i64 (j7 - (1 : Int))).toNat) (data0.getD j7.toNat (ByteArray.mk #[])))))))))) else (some (.inr (a1, b2, i6, data0)))))) else (some (.inr (a1, b2, i6, data0)))
theorem Yu3 (lo : Lo) : ∀ x : Int × Int × Int × Int × Zt2, Yyf (⟨pf, fs25 lo, [], 1⟩ : Tabs) [] Ynv Ynw q25_L3_b x = Ynx lo x := fun x => by kernel_rfl
def Yny (lo : Lo) : Int × Int × Int × Int × Zt2 -> Option ((Int × Int × Int × Zt2)) := lo.run (Ynx lo)
def YbO (lo : Lo) : LpE := ⟨3, [], Ynv, Ynw, Yny lo⟩
theorem Yu4 {lo : Lo} (hlo : LoOK lo) (C : Ctx) (hT : TOK (⟨pf, fs25 lo, [], 1⟩ : Tabs) C) {Fr : Nat -> Prop} {H0 : Heap} (hf : FrOK Fr H0) : Yx3 Fr H0 1 C (.loop q25_L3_b.er) (YbO lo) :=
  Yak hT hf (show LsOK Fr H0 C (⟨pf, fs25 lo, [], 1⟩ : Tabs) q25_L3_b from ⟨⟨tv, ⟨tv, tv⟩⟩, ⟨tv, tv⟩⟩) (fun x y h => Yal (Yu3 lo) (hlo _ _ _ h))
def q25_L1_b : VCode :=
 (.seq (.seq (.reg [mV 10 6, mV 11 2, o 12 (.bin .lss (t 10) (t 11))])
 (.cond (t 12) .skip
 (.exit 0)))
 (.seq (.blk 1 (.seq (.reg [mV 15 6, mV 7 15])
 (.blk 2 (.loop 3 q25_L3_b))))
 (.reg [mV 13 6, o 14 (.bin .add (t 13) (k 1)), mV 6 14])))
def Ynz : Sg := ⟨[0, 1, 2, 6], [.ref 0, .i .i64, .i .i64, .i .i64], [.sq (cs [.s])], Zc16⟩
def YnA : List Out1 := [⟨.exit 0, ⟨[], [], [.sq (cs [.s])], Zc10⟩⟩]
def YnB (lo : Lo) : Int × Int × Int × Zt2 -> Option ((Int × Int × Int × Zt2) ⊕ ((Zt2))) := fun x => match x with
  | (a1, b2, i6, data0) => bif (decide (i6 < b2)) then (Option.bind (Yny lo (a1, b2, i6, i6, data0)) fun y102 => some (.inl (y102.1, y102.2.1, (IntKind.wrap .i64 (y102.2.2.1 + (1 : Int))), y102.2.2.2))) else (some (.inr data0))
theorem Yu5 (lo : Lo) : ∀ x : Int × Int × Int × Zt2, Yyf (⟨pf, fs25 lo, [YbO lo], 1⟩ : Tabs) [] Ynz YnA q25_L1_b x = YnB lo x := fun x => by kernel_rfl
def YnC (lo : Lo) : Int × Int × Int × Zt2 -> Option ((Zt2)) := lo.run (YnB lo)
def Yeh (lo : Lo) : LpE := ⟨1, [], Ynz, YnA, YnC lo⟩
theorem Yu6 {lo : Lo} (hlo : LoOK lo) (C : Ctx) (hT : TOK (⟨pf, fs25 lo, [YbO lo], 1⟩ : Tabs) C) {Fr : Nat -> Prop} {H0 : Heap} (hf : FrOK Fr H0) : Yx3 Fr H0 1 C (.loop q25_L1_b.er) (Yeh lo) :=
  Yak hT hf (show LsOK Fr H0 C (⟨pf, fs25 lo, [YbO lo], 1⟩ : Tabs) q25_L1_b from ⟨⟨tv, ⟨tv, tv⟩⟩, ⟨⟨tv, (Yye (by kernel_rfl) (Yu4 hlo C (Yaf hT) hf))⟩, tv⟩⟩) (fun x y h => Yal (Yu5 lo) (hlo _ _ _ h))
def q25 (lo : Lo) (a1 : Int) (b2 : Int) (data0 : List ByteArray) : Option (Zt2) :=
  Option.bind (YnC lo (a1, b2, (IntKind.wrap .i64 (a1 + (1 : Int))), data0)) fun y103 => some y103
def YnD : VCode :=
 (.seq (.reg [mV 8 1, o 9 (.bin .add (t 8) (k 1)), mV 6 9])
 (.blk 0 (.loop 1 q25_L1_b)))
def Yhg : VFn := ⟨true, 49, [], YnD⟩
def Yhh (lo : Lo) : FnE := ⟨311, false, ⟨[0, 1, 2], [.ref 0, .i .i64, .i .i64], [.sq (cs [.s])], Zc21⟩, .tp [], [.sq (cs [.s])], Zc10, (fun x => q25 lo x.1 x.2.1 x.2.2 : Int × Int × Zt2 -> Option (Zt2))⟩
theorem Yu7 (lo : Lo) : ∀ x : Int × Int × Zt2, evI (⟨pf, fs25 lo, [Yeh lo, YbO lo], 1⟩ : Tabs) Yhg ⟨[0, 1, 2], [.ref 0, .i .i64, .i .i64], [.sq (cs [.s])], Zc21⟩ (.tp []) [.sq (cs [.s])] Zc10 x = q25 lo x.1 x.2.1 x.2.2 := fun x => by kernel_rfl
theorem Yu8 {P : Program} {fm : FM} {lo : Lo} (hlo : LoOK lo) (hS : Yx2 P fm ⟨pf, fs25 lo, [], 0⟩) (hm : P.follows .mixedOrders = true) (htie : Ti P fm 311 Yhg) : Yx2 P fm ⟨pf, Yhh lo :: fs25 lo, [], 0⟩ :=
  Ybf hS hm [Yeh lo, YbO lo] (Yhh lo) rfl Yhg htie (by decide) rfl (Nat.le_of_ble_eq_true (by kernel_rfl)) (fun C hT Fr H0 hf => show LsOK Fr H0 C (⟨pf, fs25 lo, [Yeh lo, YbO lo], 1⟩ : Tabs) YnD from ⟨tv, (Yye (by kernel_rfl) (Yu6 hlo C (Yaf hT) hf))⟩) (fun x y h => (Yu7 lo x).trans h)
def fs26 (lo : Lo) : List FnE := Yhh lo :: fs25 lo
def q26 (lo : Lo) (x0 : Int) (x1 : Int) (x2 : List ByteArray) : Option (Zt2) := none
def Yhi (lo : Lo) : FnE := ⟨312, false, ⟨[0, 1, 2], [.ref 0, .i .i64, .i .i64], [.sq (cs [.s])], Zc21⟩, .tp [], [.sq (cs [.s])], Zc10, (fun x => q26 lo x.1 x.2.1 x.2.2 : Int × Int × Zt2 -> Option (Zt2))⟩
theorem Yu9 {P : Program} {fm : FM} {lo : Lo} (hlo : LoOK lo) (hS : Yx2 P fm ⟨pf, fs26 lo, [], 0⟩) (hm : P.follows .mixedOrders = true) (hN : True) : Yx2 P fm ⟨pf, Yhi lo :: fs26 lo, [], 0⟩ :=
  YbM hS (Yhi lo) (fun _ => rfl)
def fs27 (lo : Lo) : List FnE := Yhi lo :: fs26 lo
def q27 (lo : Lo) (x0 : Int) (x1 : Int) (x2 : List ByteArray) : Option (Zt2) := none
def Yhj (lo : Lo) : FnE := ⟨313, false, ⟨[0, 1, 2], [.ref 0, .i .i64, .i .i64], [.sq (cs [.s])], Zc21⟩, .tp [], [.sq (cs [.s])], Zc10, (fun x => q27 lo x.1 x.2.1 x.2.2 : Int × Int × Zt2 -> Option (Zt2))⟩
theorem Yva {P : Program} {fm : FM} {lo : Lo} (hlo : LoOK lo) (hS : Yx2 P fm ⟨pf, fs27 lo, [], 0⟩) (hm : P.follows .mixedOrders = true) (hN : True) : Yx2 P fm ⟨pf, Yhj lo :: fs27 lo, [], 0⟩ :=
  YbM hS (Yhj lo) (fun _ => rfl)
def fs28 (lo : Lo) : List FnE := Yhj lo :: fs27 lo
def q28 (lo : Lo) (x0 : List ByteArray) (x1 : Int) (x2 : Int) : Option (Int × Int) := none
def Yhk (lo : Lo) : FnE := ⟨314, true, ⟨[0, 1, 2], [.l (cs [.s]), .i .i64, .i .i64], [], (cs [.l (cs [.s]), I, I])⟩, .tp [.i .i64, .i .i64], [], (cs [I, I]), (fun x => q28 lo x.1 x.2.1 x.2.2 : Zt2 × Int × Int -> Option (Int × Int))⟩
theorem Yvb {P : Program} {fm : FM} {lo : Lo} (hlo : LoOK lo) (hS : Yx2 P fm ⟨pf, fs28 lo, [], 0⟩) (hm : P.follows .mixedOrders = true) (hN : True) : Yx2 P fm ⟨pf, Yhk lo :: fs28 lo, [], 0⟩ :=
  YbM hS (Yhk lo) (fun _ => rfl)
def fs29 (lo : Lo) : List FnE := Yhk lo :: fs28 lo
def q29 (lo : Lo) (x0 : Int) (x1 : Int) (x2 : List ByteArray) : Option (Zt2) := none
def Yhl (lo : Lo) : FnE := ⟨315, false, ⟨[0, 1, 2], [.ref 0, .i .i64, .i .i64], [.sq (cs [.s])], Zc21⟩, .tp [], [.sq (cs [.s])], Zc10, (fun x => q29 lo x.1 x.2.1 x.2.2 : Int × Int × Zt2 -> Option (Zt2))⟩
theorem Yvc {P : Program} {fm : FM} {lo : Lo} (hlo : LoOK lo) (hS : Yx2 P fm ⟨pf, fs29 lo, [], 0⟩) (hm : P.follows .mixedOrders = true) (hN : True) : Yx2 P fm ⟨pf, Yhl lo :: fs29 lo, [], 0⟩ :=
  YbM hS (Yhl lo) (fun _ => rfl)
def fs30 (lo : Lo) : List FnE := Yhl lo :: fs29 lo
def q30 (lo : Lo) (x0 : Int) (x1 : Int) (x2 : List ByteArray) : Option (Bool × Zt2) := none
def Yhm (lo : Lo) : FnE := ⟨316, false, ⟨[0, 1, 2], [.ref 0, .i .i64, .i .i64], [.sq (cs [.s])], Zc21⟩, .b, [.sq (cs [.s])], (cs [.b, .l (cs [.s])]), (fun x => q30 lo x.1 x.2.1 x.2.2 : Int × Int × Zt2 -> Option (Bool × Zt2))⟩
theorem Yvd {P : Program} {fm : FM} {lo : Lo} (hlo : LoOK lo) (hS : Yx2 P fm ⟨pf, fs30 lo, [], 0⟩) (hm : P.follows .mixedOrders = true) (hN : True) : Yx2 P fm ⟨pf, Yhm lo :: fs30 lo, [], 0⟩ :=
  YbM hS (Yhm lo) (fun _ => rfl)
def fs31 (lo : Lo) : List FnE := Yhm lo :: fs30 lo
def q31 (lo : Lo) (x0 : Int) (x1 : Int) (x2 : Int) (x3 : List ByteArray) : Option (Int × Zt2) := none
def Yhn (lo : Lo) : FnE := ⟨318, false, ⟨[0, 1, 2, 3], [.ref 0, .i .i64, .i .i64, .i .i64], [.sq (cs [.s])], Zc16⟩, .i .i64, [.sq (cs [.s])], (cs [I, .l (cs [.s])]), (fun x => q31 lo x.1 x.2.1 x.2.2.1 x.2.2.2 : Int × Int × Int × Zt2 -> Option (Int × Zt2))⟩
theorem Yve {P : Program} {fm : FM} {lo : Lo} (hlo : LoOK lo) (hS : Yx2 P fm ⟨pf, fs31 lo, [], 0⟩) (hm : P.follows .mixedOrders = true) (hN : True) : Yx2 P fm ⟨pf, Yhn lo :: fs31 lo, [], 0⟩ :=
  YbM hS (Yhn lo) (fun _ => rfl)
def fs32 (lo : Lo) : List FnE := Yhn lo :: fs31 lo
def q32 (lo : Lo) (x0 : Int) (x1 : Int) (x2 : Int) (x3 : List ByteArray) : Option (Int × Bool × Zt2) := none
def Yho (lo : Lo) : FnE := ⟨319, false, ⟨[0, 1, 2, 3], [.ref 0, .i .i64, .i .i64, .i .i64], [.sq (cs [.s])], Zc16⟩, .tp [.i .i64, .b], [.sq (cs [.s])], (cs [I, .b, .l (cs [.s])]), (fun x => q32 lo x.1 x.2.1 x.2.2.1 x.2.2.2 : Int × Int × Int × Zt2 -> Option (Int × Bool × Zt2))⟩
theorem Yvf {P : Program} {fm : FM} {lo : Lo} (hlo : LoOK lo) (hS : Yx2 P fm ⟨pf, fs32 lo, [], 0⟩) (hm : P.follows .mixedOrders = true) (hN : True) : Yx2 P fm ⟨pf, Yho lo :: fs32 lo, [], 0⟩ :=
  YbM hS (Yho lo) (fun _ => rfl)
def fs33 (lo : Lo) : List FnE := Yho lo :: fs32 lo
def YaD (F : Int × Int × Int × Zt2 -> Option (Zt2)) : FnE := ⟨301, false, ⟨[0, 1, 2, 3], [.ref 0, .i .i64, .i .i64, .i .i64], [.sq (cs [.s])], Zc16⟩, .tp [], [.sq (cs [.s])], Zc10, F⟩
def q33_J20_b : VCode :=
 (.seq (.seq (.reg [mV 73 1, o 74 (.bin .gtr (t 73) (k 0)), mV 75 74, og 76 75 true (.mv (t 0)), og 77 75 true (.mv (t 1)), og 78 75 true (.bin .sub (t 77) (k 1)), og 79 75 true (.iad 1 (t 76) (t 78)), og 80 75 true (.load false 1 (t 79)), og 81 75 true (.mv (t 0)), og 82 75 true (.mv (t 11)), og 83 75 true (.iad 1 (t 81) (t 82)), og 84 75 true (.load false 1 (t 83)), og 85 75 true (.call 317 [(t 80), (t 84)]), og 86 75 true (.not (t 85)), o 87 (.pick (t 75) (t 86) (kb false))])
 (.cond (t 87) (.seq (.reg [mV 88 0, mV 89 1, mV 90 2, mV 91 11, o 92 (.call 318 [(t 88), (t 89), (t 90), (t 91)]), mV 13 92])
 (.seq (.reg [mV 93 13, mV 1 93])
 (.exit 1)))
 .skip))
 (.seq (.reg [mV 95 0, mV 96 1, mV 97 2, mV 98 11, o 99 (.call 319 [(t 95), (t 96), (t 97), (t 98)]), mV 94 99, eX 100 94 0, eX 101 94 1, mV 14 100, mV 15 101])
 (.seq (.reg [mV 102 15, mV 9 102])
 (.seq (.reg [mV 103 14, mV 104 1, o 105 (.bin .sub (t 103) (t 104)), mV 106 2, mV 107 14, o 108 (.bin .sub (t 106) (t 107)), mV 16 105, mV 17 108])
 (.seq (.reg [mV 109 10, o 110 (.bin .quo (t 109) (k 8)), mV 18 110])
 (.seq (.reg [mV 111 16, mV 112 17, o 113 (.bin .lss (t 111) (t 112))])
 (.cond (t 113) (.seq (.reg [mV 114 16, mV 115 18, o 116 (.bin .geq (t 114) (t 115)), mV 8 116])
 (.seq (.reg [mV 117 0, mV 118 1, mV 119 14, mV 120 3, o 121 (.call 301 [(t 117), (t 118), (t 119), (t 120)])])
 (.reg [mV 122 14, o 123 (.bin .add (t 122) (k 1)), mV 1 123])))
 (.seq (.reg [mV 124 17, mV 125 18, o 126 (.bin .geq (t 124) (t 125)), mV 8 126])
 (.seq (.reg [mV 127 0, mV 128 14, o 129 (.bin .add (t 128) (k 1)), mV 130 2, mV 131 3, o 132 (.call 301 [(t 127), (t 129), (t 130), (t 131)])])
 (.reg [mV 133 14, mV 2 133]))))))))))
def YnE : Sg := ⟨[0, 1, 2, 3, 8, 9, 10, 11], [.ref 0, .i .i64, .i .i64, .i .i64, .b, .b, .i .i64, .i .i64], [.sq (cs [.s])], (cs [I, I, I, .b, .b, I, I, .l (cs [.s])])⟩
def YnF : List Out1 := [⟨.exit 1, ⟨[0, 1, 2, 3, 8, 9], [.ref 0, .i .i64, .i .i64, .i .i64, .b, .b], [.sq (cs [.s])], Zc12⟩⟩, ⟨.nor, ⟨[0, 1, 2, 3, 8, 9], [.ref 0, .i .i64, .i .i64, .i .i64, .b, .b], [.sq (cs [.s])], Zc12⟩⟩]
def Ycc (lo : Lo) (rec : Int × Int × Int × Zt2 -> Option (Zt2)) : Int × Int × Int × Bool × Bool × Int × Int × Zt2 -> Option (Zp42 ⊕ Zp42) := fun x => match x with
  | (a1, b2, limit3, wasBalanced8, wasPartitioned9, length10, pivot11, data0) => bif (decide ((0 : Int) < a1)) then (chk (0 <= (IntKind.wrap .i64 (a1 - (1 : Int))) /\ (IntKind.wrap .i64 (a1 - (1 : Int))) < (data0.length : Int)) (chk (0 <= pivot11 /\ pivot11 < (data0.length : Int)) (Option.bind (q24 lo (data0.getD ((IntKind.wrap .i64 (a1 - (1 : Int))).toNat) (ByteArray.mk #[])) (data0.getD pivot11.toNat (ByteArray.mk #[]))) fun y110 => bif (!y110) then (Option.bind (q31 lo a1 b2 pivot11 data0) fun y111 => chk (y111.2.length = data0.length) (some (.inl (y111.1, b2, limit3, wasBalanced8, wasPartitioned9, y111.2)))) else (Option.bind (q32 lo a1 b2 pivot11 data0) fun y112 => chk (y112.2.2.length = data0.length) (chk ((8 : Int) ≠ 0) (bif (decide ((IntKind.wrap .i64 (y112.1 - a1)) < (IntKind.wrap .i64 (b2 - y112.1)))) then (Option.bind (rec (a1, y112.1, limit3, y112.2.2)) fun y113 => chk (y113.length = y112.2.2.length) (some (.inr ((IntKind.wrap .i64 (y112.1 + (1 : Int))), b2, limit3, (decide ((IntKind.wrap .i64 (length10.tdiv (8 : Int))) <= (IntKind.wrap .i64 (y112.1 - a1)))), y112.2.1, y113)))) else (Option.bind (rec ((IntKind.wrap .i64 (y112.1 + (1 : Int))), b2, limit3, y112.2.2)) fun y114 => chk (y114.length = y112.2.2.length) (some (.inr (a1, y112.1, limit3, (decide ((IntKind.wrap .i64 (length10.tdiv (8 : Int))) <= (IntKind.wrap .i64 (b2 - y112.1)))), y112.2.1, y114)))))))))) else (Option.bind (q32 lo a1 b2 pivot11 data0) fun y115 => chk (y115.2.2.length = data0.length) (chk ((8 : Int) ≠ 0) (bif (decide ((IntKind.wrap .i64 (y115.1 - a1)) < (IntKind.wrap .i64 (b2 - y115.1)))) then (Option.bind (rec (a1, y115.1, limit3, y115.2.2)) fun y116 => chk (y116.length = y115.2.2.length) (some (.inr ((IntKind.wrap .i64 (y115.1 + (1 : Int))), b2, limit3, (decide ((IntKind.wrap .i64 (length10.tdiv (8 : Int))) <= (IntKind.wrap .i64 (y115.1 - a1)))), y115.2.1, y116)))) else (Option.bind (rec ((IntKind.wrap .i64 (y115.1 + (1 : Int))), b2, limit3, y115.2.2)) fun y117 => chk (y117.length = y115.2.2.length) (some (.inr (a1, y115.1, limit3, (decide ((IntKind.wrap .i64 (length10.tdiv (8 : Int))) <= (IntKind.wrap .i64 (b2 - y115.1)))), y115.2.1, y117)))))))
theorem Yvg (lo : Lo) (rec : Int × Int × Int × Zt2 -> Option (Zt2)) : ∀ x : Int × Int × Int × Bool × Bool × Int × Int × Zt2, stepJ (⟨pf, YaD rec :: fs33 lo, [], 1⟩ : Tabs) YnE YnF q33_J20_b x = Ycc lo rec x := fun x => by kernel_rfl
def YaG (lo : Lo) (rec : Int × Int × Int × Zt2 -> Option (Zt2)) : LpE := ⟨20, [], YnE, YnF, Ycc lo rec⟩
theorem Yvh {lo : Lo} (hlo : LoOK lo) (rec : Int × Int × Int × Zt2 -> Option (Zt2)) (C : Ctx) (hT : TOK (⟨pf, YaD rec :: fs33 lo, [], 1⟩ : Tabs) C) {Fr : Nat -> Prop} {H0 : Heap} (hf : FrOK Fr H0) : Yx3 Fr H0 1 C q33_J20_b.er (YaG lo rec) :=
  YcS hT hf (show LsOK Fr H0 C (⟨pf, YaD rec :: fs33 lo, [], 1⟩ : Tabs) q33_J20_b from ⟨⟨tv, ⟨⟨tv, ⟨tv, tv⟩⟩, tv⟩⟩, ⟨tv, ⟨tv, ⟨tv, ⟨tv, ⟨tv, ⟨⟨tv, ⟨tv, tv⟩⟩, ⟨tv, ⟨tv, tv⟩⟩⟩⟩⟩⟩⟩⟩⟩) (fun x y h => (Yvg lo rec x).trans h)
def q33_J25_b : VCode :=
 (.seq (.seq (.reg [mV 61 8, mV 62 61, og 63 62 true (.mv (t 9)), o 64 (.pick (t 62) (t 63) (kb false)), mV 65 64, og 66 65 true (.mv (t 12)), og 67 65 true (.bin .eql (t 66) (k 1)), o 68 (.pick (t 65) (t 67) (kb false))])
 (.cond (t 68) (.seq (.reg [mV 69 0, mV 70 1, mV 71 2, o 72 (.call 316 [(t 69), (t 70), (t 71)])])
 (.cond (t 72) .ret
 .skip))
 .skip))
 (.jn 20 q33_J20_b))
def YnG : Sg := ⟨[0, 1, 2, 3, 8, 9, 10, 11, 12], [.ref 0, .i .i64, .i .i64, .i .i64, .b, .b, .i .i64, .i .i64, .i .i64], [.sq (cs [.s])], (cs [I, I, I, .b, .b, I, I, I, .l (cs [.s])])⟩
def YnH : List Out1 := [⟨.ret, ⟨[], [], [.sq (cs [.s])], Zc10⟩⟩, ⟨.exit 1, ⟨[0, 1, 2, 3, 8, 9], [.ref 0, .i .i64, .i .i64, .i .i64, .b, .b], [.sq (cs [.s])], Zc12⟩⟩, ⟨.nor, ⟨[0, 1, 2, 3, 8, 9], [.ref 0, .i .i64, .i .i64, .i .i64, .b, .b], [.sq (cs [.s])], Zc12⟩⟩]
def Yei (lo : Lo) (rec : Int × Int × Int × Zt2 -> Option (Zt2)) : Int × Int × Int × Bool × Bool × Int × Int × Int × Zt2 -> Option ((Zt2) ⊕ Zp42 ⊕ Zp42) := fun x => match x with
  | (a1, b2, limit3, wasBalanced8, wasPartitioned9, length10, pivot11, hint12, data0) => bif wasBalanced8 then (bif wasPartitioned9 then (bif (decide (hint12 = (1 : Int))) then (Option.bind (q30 lo a1 b2 data0) fun y109 => chk (y109.2.length = data0.length) (bif y109.1 then (some (.inl y109.2)) else (Option.bind (Ycc lo rec (a1, b2, limit3, wasBalanced8, wasPartitioned9, length10, pivot11, y109.2)) fun y118 => alt2 y118 (fun y119 => some (.inr (.inl (y119.1, y119.2.1, y119.2.2.1, y119.2.2.2.1, y119.2.2.2.2.1, y119.2.2.2.2.2)))) (fun y120 => some (.inr (.inr (y120.1, y120.2.1, y120.2.2.1, y120.2.2.2.1, y120.2.2.2.2.1, y120.2.2.2.2.2))))))) else (Option.bind (Ycc lo rec (a1, b2, limit3, wasBalanced8, wasPartitioned9, length10, pivot11, data0)) fun y121 => alt2 y121 (fun y122 => some (.inr (.inl (y122.1, y122.2.1, y122.2.2.1, y122.2.2.2.1, y122.2.2.2.2.1, y122.2.2.2.2.2)))) (fun y123 => some (.inr (.inr (y123.1, y123.2.1, y123.2.2.1, y123.2.2.2.1, y123.2.2.2.2.1, y123.2.2.2.2.2)))))) else (Option.bind (Ycc lo rec (a1, b2, limit3, wasBalanced8, wasPartitioned9, length10, pivot11, data0)) fun y124 => alt2 y124 (fun y125 => some (.inr (.inl (y125.1, y125.2.1, y125.2.2.1, y125.2.2.2.1, y125.2.2.2.2.1, y125.2.2.2.2.2)))) (fun y126 => some (.inr (.inr (y126.1, y126.2.1, y126.2.2.1, y126.2.2.2.1, y126.2.2.2.2.1, y126.2.2.2.2.2)))))) else (Option.bind (Ycc lo rec (a1, b2, limit3, wasBalanced8, wasPartitioned9, length10, pivot11, data0)) fun y127 => alt2 y127 (fun y128 => some (.inr (.inl (y128.1, y128.2.1, y128.2.2.1, y128.2.2.2.1, y128.2.2.2.2.1, y128.2.2.2.2.2)))) (fun y129 => some (.inr (.inr (y129.1, y129.2.1, y129.2.2.1, y129.2.2.2.1, y129.2.2.2.2.1, y129.2.2.2.2.2)))))
theorem Yvi (lo : Lo) (rec : Int × Int × Int × Zt2 -> Option (Zt2)) : ∀ x : Int × Int × Int × Bool × Bool × Int × Int × Int × Zt2, stepJ (⟨pf, YaD rec :: fs33 lo, [YaG lo rec], 1⟩ : Tabs) YnG YnH q33_J25_b x = Yei lo rec x := fun x => by kernel_rfl
def YaU (lo : Lo) (rec : Int × Int × Int × Zt2 -> Option (Zt2)) : LpE := ⟨25, [], YnG, YnH, Yei lo rec⟩
theorem Yvj {lo : Lo} (hlo : LoOK lo) (rec : Int × Int × Int × Zt2 -> Option (Zt2)) (C : Ctx) (hT : TOK (⟨pf, YaD rec :: fs33 lo, [YaG lo rec], 1⟩ : Tabs) C) {Fr : Nat -> Prop} {H0 : Heap} (hf : FrOK Fr H0) : Yx3 Fr H0 1 C q33_J25_b.er (YaU lo rec) :=
  YcS hT hf (show LsOK Fr H0 C (⟨pf, YaD rec :: fs33 lo, [YaG lo rec], 1⟩ : Tabs) q33_J25_b from ⟨⟨tv, ⟨⟨tv, ⟨tv, tv⟩⟩, tv⟩⟩, (Yye (by kernel_rfl) (Yvh hlo rec C (Yaf hT) hf))⟩) (fun x y h => (Yvi lo rec x).trans h)
def q33_J30_b : VCode :=
 (.seq (.reg [mV 43 0, mV 44 1, mV 45 2, o 46 (.call 314 [(t 43), (t 44), (t 45)]), mV 42 46, eX 47 42 0, eX 48 42 1, mV 11 47, mV 12 48])
 (.seq (.seq (.reg [mV 49 12, o 50 (.bin .eql (t 49) (k 2))])
 (.cond (t 50) (.seq (.reg [mV 51 0, mV 52 1, mV 53 2, o 54 (.call 315 [(t 51), (t 52), (t 53)])])
 (.seq (.reg [mV 55 2, o 56 (.bin .sub (t 55) (k 1)), mV 57 11, mV 58 1, o 59 (.bin .sub (t 57) (t 58)), o 60 (.bin .sub (t 56) (t 59)), mV 11 60])
 (.reg [o 12 (.mv (k 1))])))
 .skip))
 (.jn 25 q33_J25_b)))
def YnI : Sg := ⟨[0, 1, 2, 3, 8, 9, 10], [.ref 0, .i .i64, .i .i64, .i .i64, .b, .b, .i .i64], [.sq (cs [.s])], (cs [I, I, I, .b, .b, I, .l (cs [.s])])⟩
def YnJ : List Out1 := [⟨.ret, ⟨[], [], [.sq (cs [.s])], Zc10⟩⟩, ⟨.exit 1, ⟨[0, 1, 2, 3, 8, 9], [.ref 0, .i .i64, .i .i64, .i .i64, .b, .b], [.sq (cs [.s])], Zc12⟩⟩, ⟨.nor, ⟨[0, 1, 2, 3, 8, 9], [.ref 0, .i .i64, .i .i64, .i .i64, .b, .b], [.sq (cs [.s])], Zc12⟩⟩]
def Yej (lo : Lo) (rec : Int × Int × Int × Zt2 -> Option (Zt2)) : Int × Int × Int × Bool × Bool × Int × Zt2 -> Option ((Zt2) ⊕ Zp42 ⊕ Zp42) := fun x => match x with
  | (a1, b2, limit3, wasBalanced8, wasPartitioned9, length10, data0) => Option.bind (q28 lo data0 a1 b2) fun y107 => bif (decide (y107.2 = (2 : Int))) then (Option.bind (q29 lo a1 b2 data0) fun y108 => chk (y108.length = data0.length) (Option.bind (Yei lo rec (a1, b2, limit3, wasBalanced8, wasPartitioned9, length10, (IntKind.wrap .i64 ((IntKind.wrap .i64 (b2 - (1 : Int))) - (IntKind.wrap .i64 (y107.1 - a1)))), (1 : Int), y108)) fun y130 => alt2 y130 (fun y131 => some (.inl y131)) (fun y132 => alt2 y132 (fun y133 => some (.inr (.inl (y133.1, y133.2.1, y133.2.2.1, y133.2.2.2.1, y133.2.2.2.2.1, y133.2.2.2.2.2)))) (fun y134 => some (.inr (.inr (y134.1, y134.2.1, y134.2.2.1, y134.2.2.2.1, y134.2.2.2.2.1, y134.2.2.2.2.2))))))) else (Option.bind (Yei lo rec (a1, b2, limit3, wasBalanced8, wasPartitioned9, length10, y107.1, y107.2, data0)) fun y135 => alt2 y135 (fun y136 => some (.inl y136)) (fun y137 => alt2 y137 (fun y138 => some (.inr (.inl (y138.1, y138.2.1, y138.2.2.1, y138.2.2.2.1, y138.2.2.2.2.1, y138.2.2.2.2.2)))) (fun y139 => some (.inr (.inr (y139.1, y139.2.1, y139.2.2.1, y139.2.2.2.1, y139.2.2.2.2.1, y139.2.2.2.2.2))))))
theorem Yvk (lo : Lo) (rec : Int × Int × Int × Zt2 -> Option (Zt2)) : ∀ x : Int × Int × Int × Bool × Bool × Int × Zt2, stepJ (⟨pf, YaD rec :: fs33 lo, [YaU lo rec, YaG lo rec], 1⟩ : Tabs) YnI YnJ q33_J30_b x = Yej lo rec x := fun x => by kernel_rfl
def Ybv (lo : Lo) (rec : Int × Int × Int × Zt2 -> Option (Zt2)) : LpE := ⟨30, [], YnI, YnJ, Yej lo rec⟩
theorem Yvl {lo : Lo} (hlo : LoOK lo) (rec : Int × Int × Int × Zt2 -> Option (Zt2)) (C : Ctx) (hT : TOK (⟨pf, YaD rec :: fs33 lo, [YaU lo rec, YaG lo rec], 1⟩ : Tabs) C) {Fr : Nat -> Prop} {H0 : Heap} (hf : FrOK Fr H0) : Yx3 Fr H0 1 C q33_J30_b.er (Ybv lo rec) :=
  YcS hT hf (show LsOK Fr H0 C (⟨pf, YaD rec :: fs33 lo, [YaU lo rec, YaG lo rec], 1⟩ : Tabs) q33_J30_b from ⟨tv, ⟨⟨tv, ⟨⟨tv, ⟨tv, tv⟩⟩, tv⟩⟩, (Yye (by kernel_rfl) (Yvj hlo rec C (Yaf hT) hf))⟩⟩) (fun x y h => (Yvk lo rec x).trans h)
def q33_L1_b : VCode :=
 (.blk 1 (.seq (.reg [mV 19 2, mV 20 1, o 21 (.bin .sub (t 19) (t 20)), mV 10 21])
 (.seq (.seq (.reg [mV 22 10, o 23 (.bin .leq (t 22) (k 12))])
 (.cond (t 23) (.seq (.reg [mV 24 0, mV 25 1, mV 26 2, o 27 (.call 311 [(t 24), (t 25), (t 26)])])
 .ret)
 .skip))
 (.seq (.seq (.reg [mV 28 3, o 29 (.bin .eql (t 28) (k 0))])
 (.cond (t 29) (.seq (.reg [mV 30 0, mV 31 1, mV 32 2, o 33 (.call 312 [(t 30), (t 31), (t 32)])])
 .ret)
 .skip))
 (.seq (.seq (.reg [mV 34 8, o 35 (.not (t 34))])
 (.cond (t 35) (.seq (.reg [mV 36 0, mV 37 1, mV 38 2, o 39 (.call 313 [(t 36), (t 37), (t 38)])])
 (.reg [mV 40 3, o 41 (.bin .sub (t 40) (k 1)), mV 3 41]))
 .skip))
 (.jn 30 q33_J30_b))))))
def YnK : Sg := ⟨[0, 1, 2, 3, 8, 9], [.ref 0, .i .i64, .i .i64, .i .i64, .b, .b], [.sq (cs [.s])], Zc12⟩
def YnL : List Out1 := [⟨.ret, ⟨[], [], [.sq (cs [.s])], Zc10⟩⟩]
def YnM (lo : Lo) (rec : Int × Int × Int × Zt2 -> Option (Zt2)) : Zp42 -> Option (Zp42 ⊕ ((Zt2))) := fun x => match x with
  | (a1, b2, limit3, wasBalanced8, wasPartitioned9, data0) => bif (decide ((IntKind.wrap .i64 (b2 - a1)) <= (12 : Int))) then (Option.bind (q25 lo a1 b2 data0) fun y104 => chk (y104.length = data0.length) (some (.inr y104))) else (bif (decide (limit3 = (0 : Int))) then (Option.bind (q26 lo a1 b2 data0) fun y105 => chk (y105.length = data0.length) (some (.inr y105))) else (bif (!wasBalanced8) then (Option.bind (q27 lo a1 b2 data0) fun y106 => chk (y106.length = data0.length) (Option.bind (Yej lo rec (a1, b2, (IntKind.wrap .i64 (limit3 - (1 : Int))), wasBalanced8, wasPartitioned9, (IntKind.wrap .i64 (b2 - a1)), y106)) fun y140 => alt2 y140 (fun y141 => some (.inr y141)) (fun y142 => alt2 y142 (fun y143 => some (.inl (y143.1, y143.2.1, y143.2.2.1, y143.2.2.2.1, y143.2.2.2.2.1, y143.2.2.2.2.2))) (fun y144 => some (.inl (y144.1, y144.2.1, y144.2.2.1, y144.2.2.2.1, y144.2.2.2.2.1, y144.2.2.2.2.2)))))) else (Option.bind (Yej lo rec (a1, b2, limit3, wasBalanced8, wasPartitioned9, (IntKind.wrap .i64 (b2 - a1)), data0)) fun y145 => alt2 y145 (fun y146 => some (.inr y146)) (fun y147 => alt2 y147 (fun y148 => some (.inl (y148.1, y148.2.1, y148.2.2.1, y148.2.2.2.1, y148.2.2.2.2.1, y148.2.2.2.2.2))) (fun y149 => some (.inl (y149.1, y149.2.1, y149.2.2.1, y149.2.2.2.1, y149.2.2.2.2.1, y149.2.2.2.2.2)))))))
theorem Yvm (lo : Lo) (rec : Int × Int × Int × Zt2 -> Option (Zt2)) : ∀ x : Zp42, Yyf (⟨pf, YaD rec :: fs33 lo, [Ybv lo rec, YaU lo rec, YaG lo rec], 1⟩ : Tabs) [] YnK YnL q33_L1_b x = YnM lo rec x := fun x => by kernel_rfl
def YnN (lo : Lo) (rec : Int × Int × Int × Zt2 -> Option (Zt2)) : Zp42 -> Option ((Zt2)) := lo.run (YnM lo rec)
def Yc0 (lo : Lo) (rec : Int × Int × Int × Zt2 -> Option (Zt2)) : LpE := ⟨1, [], YnK, YnL, YnN lo rec⟩
theorem Yvn {lo : Lo} (hlo : LoOK lo) (rec : Int × Int × Int × Zt2 -> Option (Zt2)) (C : Ctx) (hT : TOK (⟨pf, YaD rec :: fs33 lo, [Ybv lo rec, YaU lo rec, YaG lo rec], 1⟩ : Tabs) C) {Fr : Nat -> Prop} {H0 : Heap} (hf : FrOK Fr H0) : Yx3 Fr H0 1 C (.loop q33_L1_b.er) (Yc0 lo rec) :=
  Yak hT hf (show LsOK Fr H0 C (⟨pf, YaD rec :: fs33 lo, [Ybv lo rec, YaU lo rec, YaG lo rec], 1⟩ : Tabs) q33_L1_b from ⟨tv, ⟨⟨tv, ⟨⟨tv, tv⟩, tv⟩⟩, ⟨⟨tv, ⟨⟨tv, tv⟩, tv⟩⟩, ⟨⟨tv, ⟨⟨tv, tv⟩, tv⟩⟩, (Yye (by kernel_rfl) (Yvl hlo rec C (Yaf hT) hf))⟩⟩⟩⟩) (fun x y h => Yal (Yvm lo rec) (hlo _ _ _ h))
def YnO (lo : Lo) (rec : Int × Int × Int × Zt2 -> Option (Zt2)) (a1 : Int) (b2 : Int) (limit3 : Int) (data0 : List ByteArray) : Option (Zt2) :=
  Option.bind (YnN lo rec (a1, b2, limit3, true, true, data0)) fun y150 => some y150
def Ycd (lo : Lo) : Nat -> Int × Int × Int × Zt2 -> Option (Zt2)
  | 0, _ => none
  | n + 1, x => YnO lo (Ycd lo n) x.1 x.2.1 x.2.2.1 x.2.2.2
def q33 (lo : Lo) (a1 : Int) (b2 : Int) (limit3 : Int) (data0 : List ByteArray) : Option (Zt2) := lo.run (fixS (Ycd lo)) (0, (a1, b2, limit3, data0))
def YnP : VCode :=
 (.seq (.reg [o 8 (.mv (kb true))])
 (.seq (.reg [o 9 (.mv (kb true))])
 (.blk 0 (.loop 1 q33_L1_b))))
def Yhp : VFn := ⟨true, 134, [], YnP⟩
def Yhq (lo : Lo) : FnE := ⟨301, false, ⟨[0, 1, 2, 3], [.ref 0, .i .i64, .i .i64, .i .i64], [.sq (cs [.s])], Zc16⟩, .tp [], [.sq (cs [.s])], Zc10, (fun x => q33 lo x.1 x.2.1 x.2.2.1 x.2.2.2 : Int × Int × Int × Zt2 -> Option (Zt2))⟩
theorem Yvo (lo : Lo) (rec : Int × Int × Int × Zt2 -> Option (Zt2)) : ∀ x : Int × Int × Int × Zt2, evI (⟨pf, YaD rec :: fs33 lo, [Yc0 lo rec, Ybv lo rec, YaU lo rec, YaG lo rec], 1⟩ : Tabs) Yhp ⟨[0, 1, 2, 3], [.ref 0, .i .i64, .i .i64, .i .i64], [.sq (cs [.s])], Zc16⟩ (.tp []) [.sq (cs [.s])] Zc10 x = YnO lo rec x.1 x.2.1 x.2.2.1 x.2.2.2 := fun x => by kernel_rfl
theorem Yvp {P : Program} {fm : FM} {lo : Lo} (hlo : LoOK lo) (hS : Yx2 P fm ⟨pf, fs33 lo, [], 0⟩) (hm : P.follows .mixedOrders = true) (htie : Ti P fm 301 Yhp) : Yx2 P fm ⟨pf, Yhq lo :: fs33 lo, [], 0⟩ :=
  Ys4 hS hm (Yhq lo) rfl (Ycd lo) (fun n => (fun (rec : Int × Int × Int × Zt2 -> Option (Zt2)) => ([Yc0 lo rec, Ybv lo rec, YaU lo rec, YaG lo rec] : List LpE)) (Ycd lo n)) Yhp htie (by decide) rfl (Nat.le_of_ble_eq_true (by kernel_rfl)) (fun _ => rfl) (fun x y h => Ys6 (hlo _ _ _ h))
    (fun n C hT Fr H0 hf => (fun (rec : Int × Int × Int × Zt2 -> Option (Zt2)) (hT : TOK (⟨pf, YaD rec :: fs33 lo, [Yc0 lo rec, Ybv lo rec, YaU lo rec, YaG lo rec], 1⟩ : Tabs) C) => show LsOK Fr H0 C (⟨pf, YaD rec :: fs33 lo, [Yc0 lo rec, Ybv lo rec, YaU lo rec, YaG lo rec], 1⟩ : Tabs) YnP from ⟨tv, ⟨tv, (Yye (by kernel_rfl) (Yvn hlo rec C (Yaf hT) hf))⟩⟩) (Ycd lo n) hT) (fun n x y h => (Yvo lo (Ycd lo n) x).trans h)
def fs34 (lo : Lo) : List FnE := Yhq lo :: fs33 lo
def q34 (lo : Lo) (x0 : List ByteArray) : Option (Zt2) :=
  Option.bind (q22 lo (IntKind.wrap .u64 (x0.length : Int))) fun y98 => Option.bind (q33 lo (0 : Int) (x0.length : Int) y98 x0) fun y151 => chk (y151.length = x0.length) (some y151)
def YnQ : VCode :=
 (.seq (.reg [mV 3 0, lN 4 3, mV 2 4])
 (.reg [mV 5 0, mV 6 2, mV 7 2, o 8 (.conv .u64 (t 7)), o 9 (.call 163 [(t 8)]), o 10 (.call 301 [(t 5), (k 0), (t 6), (t 9)])]))
def Yhr : VFn := ⟨true, 11, [], YnQ⟩
def Yhs (lo : Lo) : FnE := ⟨271, false, ⟨[0], [.ref 0], [.sq (cs [.s])], Zc10⟩, .tp [], [.sq (cs [.s])], Zc10, (fun x => q34 lo x : Zt2 -> Option (Zt2))⟩
theorem Yvq (lo : Lo) : ∀ x : Zt2, evI (⟨pf, fs34 lo, [], 1⟩ : Tabs) Yhr ⟨[0], [.ref 0], [.sq (cs [.s])], Zc10⟩ (.tp []) [.sq (cs [.s])] Zc10 x = q34 lo x := fun x => by kernel_rfl
theorem Yvr {P : Program} {fm : FM} {lo : Lo} (hlo : LoOK lo) (hS : Yx2 P fm ⟨pf, fs34 lo, [], 0⟩) (hm : P.follows .mixedOrders = true) (htie : Ti P fm 271 Yhr) : Yx2 P fm ⟨pf, Yhs lo :: fs34 lo, [], 0⟩ :=
  Ybf hS hm [] (Yhs lo) rfl Yhr htie (by decide) rfl (Nat.le_of_ble_eq_true (by kernel_rfl)) (fun C hT Fr H0 hf => show LsOK Fr H0 C (⟨pf, fs34 lo, [], 1⟩ : Tabs) YnQ from ⟨tv, tv⟩) (fun x y h => (Yvq lo x).trans h)
def fs35 (lo : Lo) : List FnE := Yhs lo :: fs34 lo
def q35 (lo : Lo) (l : List ByteArray) : Option Zt2 := YzL (q34 lo) l
def YnR (lo : Lo) : FnE := vsortE 271 (.cons (.s) .nil) (q35 lo)
theorem Yvs {P : Program} {fm : FM} {lo : Lo} (hlo : LoOK lo) (hS : Yx2 P fm ⟨pf, fs35 lo, [], 0⟩) (hm : P.follows .mixedOrders = true) (hG : ∀ f, fm f = 271 -> Yx8 P f = true /\ ∃ ρ : Go.Shelf.Ren, Go.Proofs.Lays.n190 P ρ /\ ρ.f 190 = f) : Yx2 P fm ⟨pf, YnR lo :: fs35 lo, [], 0⟩ :=
  YtF hS rfl (F0 := q34 lo) (YBp ..) hG
def fs36 (lo : Lo) : List FnE := YnR lo :: fs35 lo
end Go.Abs.G03
namespace Go.Abs.G03
open Go Go.Abs
set_option maxRecDepth 100000
set_option maxHeartbeats 1000000
def q36_L42_b : VCode :=
 (.seq (.reg [o 46 (.bin .lss (t 45) (t 44))])
 (.seq (.cond (t 46) .skip
 (.exit 0))
 (.seq (.blk 1 (.seq (.reg [o 47 (.iad 1 (t 43) (t 45)), lD 48 47, mV 11 48])
 (.seq (.reg [fD 49 1 8, lD 50 49, mV 51 11, o 52 (.call 173 [(t 50), (t 51)]), mV 12 52])
 (.seq (.seq (.reg [mV 53 12, o 54 (.bin .lss (t 53) (k 0))])
 (.cond (t 54) (.seq (.reg [fD 55 1 8, lD 56 55, lN 57 56, mV 12 57])
 (.reg [fD 58 1 8, lD 59 58, mV 60 11, o 61 (.bsl (cs [.s]) 1 [(0, (t 60))]), o 62 (.app (cs [.s]) 0 (t 59) (t 61)), fD 63 1 8, on (.store 1 (t 63) (t 62))]))
 .skip))
 (.reg [mV 64 9, mV 65 12, o 66 (.bsl (cs [I]) 1 [(0, (t 65))]), o 67 (.app (cs [I]) 0 (t 64) (t 66)), mV 9 67])))))
 (.reg [o 68 (.bin .add (t 45) (k 1)), mV 45 68]))))
def YnS : Sg := ⟨[2, 3, 4, 8, 9, 43, 44, 45], [.ptr 0 0 0, .ptr 1 0 0, .ptr 2 0 0, .ptr 3 0 0, .ref 4, .l (cs [.s]), .i .i64, .i .i64], [.st [.s, .l (cs [.s]), .l Zc1], .st [.s, .l (cs [.s]), .l Zc1], .st [.s, .l (cs [.s]), .l Zc1], .st [.s, .ref 5, .ref 6], .sq (cs [I]), .sq (cs [.s]), .sq Zc1], Zc19⟩
def YnT : List Out1 := [⟨.exit 0, ⟨[2, 3, 4, 8, 9], [.ptr 0 0 0, .ptr 1 0 0, .ptr 2 0 0, .ptr 3 0 0, .ref 4], [.st [.s, .l (cs [.s]), .l Zc1], .st [.s, .l (cs [.s]), .l Zc1], .st [.s, .l (cs [.s]), .l Zc1], .st [.s, .ref 5, .ref 6], .sq (cs [I]), .sq (cs [.s]), .sq Zc1], (cs [.s, .l (cs [.s]), .l Zc1, .s, .l (cs [.s]), .l Zc1, .s, .l (cs [.s]), .l Zc1, .s, .l (cs [I]), .l (cs [.s]), .l Zc1])⟩⟩]
def Yek (lo : Lo) : Zp23 -> Option (Zp23 ⊕ ((ByteArray × Zt2 × Zt0 × ByteArray × Zt2 × Zt0 × ByteArray × Zt2 × Zt0 × ByteArray × (List Int) × Zt2 × Zt0))) := fun x => match x with
  | (v43, v44, v45, a2_0, a2_1, a2_2, b3_0, b3_1, b3_2, v4_0, v4_1, v4_2, out8, place9, h5, h6) => bif (decide (v45 < v44)) then (chk (0 <= v45 /\ v45 < (v43.length : Int)) (Option.bind (q4 lo h5 (v43.getD v45.toNat (ByteArray.mk #[]))) fun y80 => bif (decide (y80 < (0 : Int))) then (chk (h5.length + ([(v43.getD v45.toNat (ByteArray.mk #[]))]).length <= maxEl) (chk (place9.length + ([(h5.length : Int)]).length <= maxEl) (some (.inl (v43, v44, (IntKind.wrap .i64 (v45 + (1 : Int))), a2_0, a2_1, a2_2, b3_0, b3_1, b3_2, v4_0, v4_1, v4_2, out8, (place9 ++ ([(h5.length : Int)])), (h5 ++ ([(v43.getD v45.toNat (ByteArray.mk #[]))])), h6))))) else (chk (place9.length + [y80].length <= maxEl) (some (.inl (v43, v44, (IntKind.wrap .i64 (v45 + (1 : Int))), a2_0, a2_1, a2_2, b3_0, b3_1, b3_2, v4_0, v4_1, v4_2, out8, (place9 ++ [y80]), h5, h6)))))) else (some (.inr (a2_0, a2_1, a2_2, b3_0, b3_1, b3_2, v4_0, v4_1, v4_2, out8, place9, h5, h6)))
theorem Yvt (lo : Lo) : ∀ x : Zp23, Yyf (⟨pf, fs36 lo, [], 0⟩ : Tabs) [(8, some 2, false), (9, none, false)] YnS YnT q36_L42_b x = Yek lo x := fun x => by kernel_rfl
def Yel (lo : Lo) : Zp23 -> Option ((ByteArray × Zt2 × Zt0 × ByteArray × Zt2 × Zt0 × ByteArray × Zt2 × Zt0 × ByteArray × (List Int) × Zt2 × Zt0)) := lo.run (Yek lo)
def YaE (lo : Lo) : LpE := ⟨42, [(8, some 2, false), (9, none, false)], YnS, YnT, Yel lo⟩
theorem Yvu {lo : Lo} (hlo : LoOK lo) (C : Ctx) (hT : TOK (⟨pf, fs36 lo, [], 0⟩ : Tabs) C) : Yx3 (fun _ => False) [] 0 C (.loop q36_L42_b.er) (YaE lo) :=
  Yak hT frNo (show LK C _ q36_L42_b from ⟨tv, ⟨⟨tv, tv⟩, ⟨⟨tv, ⟨tv, ⟨⟨tv, ⟨⟨tv, tv⟩, tv⟩⟩, tv⟩⟩⟩, tv⟩⟩⟩) (fun x y h => Yal (Yvt lo) (hlo _ _ _ h))
def q36_L21_b : VCode :=
 (.seq (.reg [o 86 (.bin .lss (t 85) (t 84))])
 (.seq (.cond (t 86) .skip
 (.exit 4))
 (.seq (.blk 5 (.seq (.reg [o 87 (.iad 2 (t 83) (t 85)), o 88 (.load true 2 (t 87)), o 17 (.alloc [.i .i64 0, .e Zc4]), on (.store 2 (t 17) (t 88))])
 (.seq (.fz [9] (.reg [fD 90 1 15, lD 91 90, fD 92 1 17, lD 93 92, mV 94 9, fD 95 1 8, lD 96 95, lN 97 96, o 98 (.call 270 [(t 91), (t 93), (t 94), (t 97)]), mV 89 98, eX 99 89 0, eX 100 89 1, mV 18 99, mV 19 100]))
 (.seq (.seq (.reg [mV 101 19, o 102 (.not (t 101))])
 (.cond (t 102) (.exit 5)
 .skip))
 (.seq (.reg [mV 103 13, mV 104 18, o 105 (.call 261 [(t 104)]), mV 106 18, on (.mput none (.l Zc4) (cs []) false (t 103) (t 105) (t 106))])
 (.seq (.reg [mV 107 13, o 108 (.mlen (t 107)), o 109 (.bin .gtr (t 108) (k 1000))])
 (.cond (t 109) (.seq (.reg [o 110 (.build [.s (⟨#[]⟩), .e (cs [.s]), .e Zc1] []), on (.store 3 (t 4) (t 110)), o 5 (.mv (k 3))])
 (.fz [4, 5] .ret))
 .skip)))))))
 (.reg [o 111 (.bin .add (t 85) (k 1)), mV 85 111]))))
def YnU : Sg := ⟨[3, 4, 8, 9, 13, 15, 76, 77, 78, 83, 84, 85], [.ptr 0 0 0, .ptr 1 0 0, .ptr 2 0 0, .l (cs [I]), .np 3, .ptr 4 0 0, .l Zc1, .i .i64, .i .i64, .l Zc1, .i .i64, .i .i64], [.st [.s, .l (cs [.s]), .l Zc1], .st [.s, .l (cs [.s]), .l Zc1], .st [.s, .ref 5, .ref 6], .st [.i .i64, .l Zc14, .b], .st [.i .i64, .l Zc4], .sq (cs [.s]), .sq Zc1], Zc18⟩
def YnV : List Out1 := [⟨.ret, ⟨[4, 5], [.ptr 0 0 0, .i .i64], [.st [.s, .l (cs [.s]), .l Zc1]], (cs [I, .s, .l (cs [.s]), .l Zc1])⟩⟩, ⟨.exit 4, ⟨[3, 4, 8, 9, 13, 76, 77, 78], [.ptr 0 0 0, .ptr 1 0 0, .ptr 2 0 0, .l (cs [I]), .np 3, .l Zc1, .i .i64, .i .i64], [.st [.s, .l (cs [.s]), .l Zc1], .st [.s, .l (cs [.s]), .l Zc1], .st [.s, .ref 4, .ref 5], .st [.i .i64, .l Zc14, .b], .sq (cs [.s]), .sq Zc1], Zc8⟩⟩]
def Yem (lo : Lo) : Zp22 -> Option (Zp22 ⊕ ((Int × ByteArray × Zt2 × Zt0) ⊕ Zp24)) := fun x => match x with
  | (place9, v76, v77, v78, v83, v84, v85, b3_0, b3_1, b3_2, v4_0, v4_1, v4_2, out8, h3_0, h3_1, h3_2, r15_0, r15_1, h5, h6) => bif (decide (v85 < v84)) then (chk (0 <= v85 /\ v85 < (v83.length : Int)) (Option.bind (q20 lo r15_1 ((v83.getD v85.toNat ((0 : Int), [])).2) place9 (h5.length : Int)) fun y82 => bif (!y82.2) then (some (.inl (place9, v76, v77, v78, v83, v84, (IntKind.wrap .i64 (v85 + (1 : Int))), b3_0, b3_1, b3_2, v4_0, v4_1, v4_2, out8, h3_0, h3_1, h3_2, r15_0, r15_1, h5, h6))) else (Option.bind (q17 lo y82.1) fun y83 => bif (decide ((1000 : Int) < ((mpt eqS h3_0 y83 y82.1 h3_1).length : Int))) then (some (.inr (.inl ((3 : Int), (ByteArray.mk #[]), ([] : List ByteArray), ([] : List (Int × Zt3)))))) else (some (.inl (place9, v76, v77, v78, v83, v84, (IntKind.wrap .i64 (v85 + (1 : Int))), b3_0, b3_1, b3_2, v4_0, v4_1, v4_2, out8, (mck eqS h3_0 y83 h3_1), (mpt eqS h3_0 y83 y82.1 h3_1), h3_2, r15_0, r15_1, h5, h6)))))) else (some (.inr (.inr (place9, v76, v77, v78, b3_0, b3_1, b3_2, v4_0, v4_1, v4_2, out8, h3_0, h3_1, h3_2, h5, h6))))
theorem Yvv (lo : Lo) : ∀ x : Zp22, Yyf (⟨pf, fs36 lo, [YaE lo], 0⟩ : Tabs) [] YnU YnV q36_L21_b x = Yem lo x := fun x => by kernel_rfl
def Yen (lo : Lo) : Zp22 -> Option ((Int × ByteArray × Zt2 × Zt0) ⊕ Zp24) := lo.run (Yem lo)
def YaJ (lo : Lo) : LpE := ⟨21, [], YnU, YnV, Yen lo⟩
theorem Yvw {lo : Lo} (hlo : LoOK lo) (C : Ctx) (hT : TOK (⟨pf, fs36 lo, [YaE lo], 0⟩ : Tabs) C) : Yx3 (fun _ => False) [] 0 C (.loop q36_L21_b.er) (YaJ lo) :=
  Yak hT frNo (show LK C _ q36_L21_b from ⟨tv, ⟨⟨tv, tv⟩, ⟨⟨tv, ⟨tv, ⟨⟨tv, ⟨tv, tv⟩⟩, ⟨tv, ⟨tv, ⟨⟨tv, tv⟩, tv⟩⟩⟩⟩⟩⟩, tv⟩⟩⟩) (fun x y h => Yal (Yvv lo) (hlo _ _ _ h))
def q36_L19_b : VCode :=
 (.seq (.reg [o 79 (.bin .lss (t 78) (t 77))])
 (.seq (.cond (t 79) .skip
 (.exit 2))
 (.seq (.blk 3 (.seq (.reg [o 80 (.iad 2 (t 76) (t 78)), o 81 (.load true 2 (t 80)), o 15 (.alloc [.i .i64 0, .e Zc4]), on (.store 2 (t 15) (t 81))])
 (.seq (.reg [fD 82 2 3, lD 83 82, lN 84 83, o 85 (.mv (k 0))])
 (.blk 4 (.fz [9] (.loop 21 q36_L21_b))))))
 (.reg [o 112 (.bin .add (t 78) (k 1)), mV 78 112]))))
def YnW : Sg := ⟨[3, 4, 8, 9, 13, 76, 77, 78], [.ptr 0 0 0, .ptr 1 0 0, .ptr 2 0 0, .l (cs [I]), .np 3, .l Zc1, .i .i64, .i .i64], [.st [.s, .l (cs [.s]), .l Zc1], .st [.s, .l (cs [.s]), .l Zc1], .st [.s, .ref 4, .ref 5], .st [.i .i64, .l Zc14, .b], .sq (cs [.s]), .sq Zc1], Zc8⟩
def YnX : List Out1 := [⟨.ret, ⟨[4, 5], [.ptr 0 0 0, .i .i64], [.st [.s, .l (cs [.s]), .l Zc1]], (cs [I, .s, .l (cs [.s]), .l Zc1])⟩⟩, ⟨.exit 2, ⟨[4, 8, 13], [.ptr 0 0 0, .ptr 1 0 0, .np 2], [.st [.s, .l (cs [.s]), .l Zc1], .st [.s, .ref 3, .ref 4], .st [.i .i64, .l Zc14, .b], .sq (cs [.s]), .sq Zc1], (cs [.s, .l (cs [.s]), .l Zc1, .s, I, .l Zc14, .b, .l (cs [.s]), .l Zc1])⟩⟩]
def Yeo (lo : Lo) : Zp24 -> Option (Zp24 ⊕ ((Int × ByteArray × Zt2 × Zt0) ⊕ (ByteArray × Zt2 × Zt0 × ByteArray × Int × Zt6 × Bool × Zt2 × Zt0))) := fun x => match x with
  | (place9, v76, v77, v78, b3_0, b3_1, b3_2, v4_0, v4_1, v4_2, out8, h3_0, h3_1, h3_2, h4, h5) => bif (decide (v78 < v77)) then (chk (0 <= v78 /\ v78 < (v76.length : Int)) (Option.bind (Yen lo (place9, v76, v77, v78, b3_2, (b3_2.length : Int), (0 : Int), b3_0, b3_1, b3_2, v4_0, v4_1, v4_2, out8, h3_0, h3_1, h3_2, (v76.getD v78.toNat ((0 : Int), [])).1, (v76.getD v78.toNat ((0 : Int), [])).2, h4, h5)) fun y84 => alt2 y84 (fun y85 => some (.inr (.inl (y85.1, y85.2.1, y85.2.2.1, y85.2.2.2)))) (fun y86 => some (.inl (y86.1, y86.2.1, y86.2.2.1, (IntKind.wrap .i64 (y86.2.2.2.1 + (1 : Int))), y86.2.2.2.2.1, y86.2.2.2.2.2.1, y86.2.2.2.2.2.2.1, y86.2.2.2.2.2.2.2.1, y86.2.2.2.2.2.2.2.2.1, y86.2.2.2.2.2.2.2.2.2.1, y86.2.2.2.2.2.2.2.2.2.2.1, y86.2.2.2.2.2.2.2.2.2.2.2.1, y86.2.2.2.2.2.2.2.2.2.2.2.2.1, y86.2.2.2.2.2.2.2.2.2.2.2.2.2.1, y86.2.2.2.2.2.2.2.2.2.2.2.2.2.2.1, y86.2.2.2.2.2.2.2.2.2.2.2.2.2.2.2))))) else (some (.inr (.inr (v4_0, v4_1, v4_2, out8, h3_0, h3_1, h3_2, h4, h5))))
theorem Yvx (lo : Lo) : ∀ x : Zp24, Yyf (⟨pf, fs36 lo, [YaJ lo, YaE lo], 0⟩ : Tabs) [] YnW YnX q36_L19_b x = Yeo lo x := fun x => by kernel_rfl
def Yep (lo : Lo) : Zp24 -> Option ((Int × ByteArray × Zt2 × Zt0) ⊕ (ByteArray × Zt2 × Zt0 × ByteArray × Int × Zt6 × Bool × Zt2 × Zt0)) := lo.run (Yeo lo)
def YaV (lo : Lo) : LpE := ⟨19, [], YnW, YnX, Yep lo⟩
theorem Yvy {lo : Lo} (hlo : LoOK lo) (C : Ctx) (hT : TOK (⟨pf, fs36 lo, [YaJ lo, YaE lo], 0⟩ : Tabs) C) : Yx3 (fun _ => False) [] 0 C (.loop q36_L19_b.er) (YaV lo) :=
  Yak hT frNo (show LK C _ q36_L19_b from ⟨tv, ⟨⟨tv, tv⟩, ⟨⟨tv, ⟨tv, (Yye (by kernel_rfl) (Yvw hlo C (Yaf hT)))⟩⟩, tv⟩⟩⟩) (fun x y h => Yal (Yvx lo) (hlo _ _ _ h))
def q36_L3_b : VCode :=
 (.seq (.reg [o 128 (.bin .lss (t 127) (t 126))])
 (.seq (.cond (t 128) .skip
 (.exit 8))
 (.seq (.blk 9 (.seq (.reg [mV 129 127, o 130 (.iad 1 (t 125) (t 127)), lD 131 130, mV 22 129, mV 23 131])
 (.reg [fD 132 2 8, lD 133 132, mV 134 22, o 135 (.bin .add (t 134) (k 1)), mV 136 13, mV 137 23, o 138 (.mget none (.l Zc4) (cs []) false false (t 136) (t 137)), o 139 (.build [.i .i64 0, .e Zc4] [(0, 1, (t 135)), (1, 1, (t 138))]), o 140 (.bsl Zc1 1 [(0, (t 139))]), o 141 (.app Zc1 0 (t 133) (t 140)), fD 142 2 8, on (.store 1 (t 142) (t 141))])))
 (.reg [o 143 (.bin .add (t 127) (k 1)), mV 127 143]))))
def YnY : Sg := ⟨[4, 8, 13, 125, 126, 127], [.ptr 0 0 0, .ptr 1 0 0, .np 2, .ref 3, .i .i64, .i .i64], [.st [.s, .l (cs [.s]), .l Zc1], .st [.s, .ref 4, .ref 5], .st [.i .i64, .l Zc14, .b], .sq (cs [.s]), .sq (cs [.s]), .sq Zc1], (cs [I, I, .s, .l (cs [.s]), .l Zc1, .s, I, .l Zc14, .b, .l (cs [.s]), .l (cs [.s]), .l Zc1])⟩
def YnZ : List Out1 := [⟨.exit 8, ⟨[4, 8], [.ptr 0 0 0, .ptr 1 0 0], [.st [.s, .l (cs [.s]), .l Zc1], .st [.s, .ref 2, .ref 3], .sq (cs [.s]), .sq Zc1], Zc5⟩⟩]
def Yeq (lo : Lo) : Zp32 -> Option (Zp32 ⊕ (Zp39)) := fun x => match x with
  | (v126, v127, v4_0, v4_1, v4_2, out8, h2_0, h2_1, h2_2, v125, h4, h5) => bif (decide (v127 < v126)) then (chk (0 <= v127 /\ v127 < (v125.length : Int)) (chk (h5.length + ([((IntKind.wrap .i64 (v127 + (1 : Int))), (mgt eqS (v125.getD v127.toNat (ByteArray.mk #[])) h2_1 []))]).length <= maxEl) (some (.inl (v126, (IntKind.wrap .i64 (v127 + (1 : Int))), v4_0, v4_1, v4_2, out8, h2_0, h2_1, h2_2, v125, h4, (h5 ++ ([((IntKind.wrap .i64 (v127 + (1 : Int))), (mgt eqS (v125.getD v127.toNat (ByteArray.mk #[])) h2_1 []))]))))))) else (some (.inr (v4_0, v4_1, v4_2, out8, h4, h5)))
theorem Yvz (lo : Lo) : ∀ x : Zp32, Yyf (⟨pf, fs36 lo, [YaV lo, YaJ lo, YaE lo], 0⟩ : Tabs) [] YnY YnZ q36_L3_b x = Yeq lo x := fun x => by kernel_rfl
def Yht (lo : Lo) : Zp32 -> Option (Zp39) := lo.run (Yeq lo)
def Ybg (lo : Lo) : LpE := ⟨3, [], YnY, YnZ, Yht lo⟩
theorem YvA {lo : Lo} (hlo : LoOK lo) (C : Ctx) (hT : TOK (⟨pf, fs36 lo, [YaV lo, YaJ lo, YaE lo], 0⟩ : Tabs) C) : Yx3 (fun _ => False) [] 0 C (.loop q36_L3_b.er) (Ybg lo) :=
  Yak hT frNo (show LK C _ q36_L3_b from ⟨tv, ⟨⟨tv, tv⟩, ⟨⟨tv, tv⟩, tv⟩⟩⟩) (fun x y h => Yal (Yvz lo) (hlo _ _ _ h))
def Yer : VCode :=
 (.reg [mV 113 13, o 114 (.mrng (t 113))])
def Yc1 : VCode :=
 (.blk 7 (.seq (.reg [o 117 (.ment none (.l Zc4) (cs []) false (t 114)), eX 118 117 0, mV 21 118])
 (.reg [mV 119 20, mV 120 21, o 121 (.bsl (cs [.s]) 1 [(0, (t 120))]), o 122 (.app (cs [.s]) 0 (t 119) (t 121)), mV 20 122])))
def Yes : VCode :=
 (.seq (.reg [mV 123 20, o 124 (.call 271 [(t 123)])])
 (.seq (.seq (.reg [mV 125 20, lN 126 125, o 127 (.mv (k 0))])
 (.blk 8 (.loop 3 q36_L3_b)))
 (.seq (.reg [o 144 (.load true 3 (t 8)), on (.store 3 (t 4) (t 144)), o 5 (.mv (k 0))])
 (.fz [4, 5] .ret))))
def q36_J17_b : VCode := .seq (.seq Yer (.blk 6 (.loop 11 (.seq (.reg [o 115 (.mnxt (t 114)), eX 116 115 0]) (Yzw 116 6 Yc1))))) Yes
def Yhu : Sg := ⟨[4, 8, 13, 20], [.ptr 0 0 0, .ptr 1 0 0, .np 2, .ref 3], [.st [.s, .l (cs [.s]), .l Zc1], .st [.s, .ref 4, .ref 5], .st [.i .i64, .l Zc14, .b], .sq (cs [.s]), .sq (cs [.s]), .sq Zc1], (cs [.s, .l (cs [.s]), .l Zc1, .s, I, .l Zc14, .b, .l (cs [.s]), .l (cs [.s]), .l Zc1])⟩
def Yc2 : Sg := ⟨[4, 8, 13, 20, 114], [.ptr 0 0 0, .ptr 1 0 0, .np 2, .ref 3, .np 4], [.st [.s, .l (cs [.s]), .l Zc1], .st [.s, .ref 5, .ref 6], .st [.i .i64, .l Zc14, .b], .sq (cs [.s]), .st [.np 2, .i .i64, .i .i64, .l (cs [I]), .b], .sq (cs [.s]), .sq Zc1], (cs [.s, .l (cs [.s]), .l Zc1, .s, I, .l Zc14, .b, .l (cs [.s]), I, I, .l (cs [I]), .b, .l (cs [.s]), .l Zc1])⟩
def Yhv : List Out1 := [⟨.ret, ⟨[4, 5], [.ptr 0 0 0, .i .i64], [.st [.s, .l (cs [.s]), .l Zc1]], (cs [I, .s, .l (cs [.s]), .l Zc1])⟩⟩]
def Yn0 (lo : Lo) : Zp34 -> Option (ByteArray × Zt2 × Zt0 × ByteArray × Int × Zt6 × Bool × Zt2 × Int × Int × (List Int) × Bool × Zt2 × Zt0) := fun x => match x with
  | (v4_0, v4_1, v4_2, out8, rows13_0, rows13_1, rows13_2, keys20, h4, h5) => some (v4_0, v4_1, v4_2, out8, rows13_0, rows13_1, rows13_2, keys20, rows13_0, rows13_0, ([] : List Int), false, h4, h5)
def Yet : Zp28 -> ItP := fun x => match x with
  | (v4_0, v4_1, v4_2, out8, rows13_0, rows13_1, rows13_2, keys20, v114_0, v114_1, v114_2, v114_3, h5, h6) => (rows13_1.map (fun e => e.1), v114_2, rows13_0, v114_0, v114_1)
def Yc3 (lo : Lo) : Zp28 -> Int -> Option (ByteArray × Zt2 × Zt0 × ByteArray × Int × Zt6 × Bool × Zt2 × Int × Int × (List Int) × Bool × Zt2 × Zt0) := fun x b => match x with
  | (v4_0, v4_1, v4_2, out8, rows13_0, rows13_1, rows13_2, keys20, v114_0, v114_1, v114_2, v114_3, h5, h6) => chk (v114_1 = rows13_0) (Option.bind (addI v114_2 b).getLast? fun y91 => Option.bind (mbf y91 rows13_1) fun y92 => chk (keys20.length + [y92.1].length <= maxEl) (some (v4_0, v4_1, v4_2, out8, rows13_0, rows13_1, rows13_2, (keys20 ++ [y92.1]), v114_0, v114_1, (addI v114_2 b), v114_3, h5, h6)))
def Yce (lo : Lo) : Zp28 -> Option ((Int × ByteArray × Zt2 × Zt0)) := fun x => match x with
  | (v4_0, v4_1, v4_2, out8, rows13_0, rows13_1, rows13_2, keys20, v114_0, v114_1, v114_2, v114_3, h5, h6) => Option.bind (q35 lo keys20) fun y152 => chk (y152.length = keys20.length) (Option.bind (Yht lo ((y152.length : Int), (0 : Int), v4_0, v4_1, v4_2, out8, rows13_0, rows13_1, rows13_2, y152, h5, h6)) fun y153 => some ((0 : Int), y153.2.2.2.1, y153.2.2.2.2.1, y153.2.2.2.2.2))
noncomputable def Yeu (lo : Lo) : Zp34 -> Option ((Int × ByteArray × Zt2 × Zt0)) := fun x => Option.bind (Yn0 lo x) (rngF Yet (Yc3 lo) (Yce lo))
theorem YvB (lo : Lo) : ∀ x : Zp34, preR (⟨pf, fs36 lo, [Ybg lo, YaV lo, YaJ lo, YaE lo], 0⟩ : Tabs) Yer [(20, none, false)] Yhu Yc2 x = Yn0 lo x := fun x => by kernel_rfl
theorem YvC : ∀ x : Zp28, itR Yc2 114 x = some (Yet x) := fun x => by kernel_rfl
theorem YvD (lo : Lo) : ∀ (x : (ByteArray × Zt2 × Zt0 × ByteArray × Int × Zt6 × Bool × Zt2 × Int × Int × (List Int) × Bool × Zt2 × Zt0)) (b : Int), YAJ (⟨pf, fs36 lo, [Ybg lo, YaV lo, YaJ lo, YaE lo], 0⟩ : Tabs) [(20, none, false)] Yc2 114 115 116 6 Yc1 x b = Yc3 lo x b := fun x b => by kernel_rfl
theorem YvE (lo : Lo) : ∀ x : Zp28, endR (⟨pf, fs36 lo, [Ybg lo, YaV lo, YaJ lo, YaE lo], 0⟩ : Tabs) Yc2 115 116 6 Yc1 Yes Yhv x = Yce lo x := fun x => by kernel_rfl
noncomputable def Yhw (lo : Lo) : LpE := ⟨17, [(20, none, false)], Yhu, Yhv, Yeu lo⟩
theorem YvF {lo : Lo} (hlo : LoOK lo) (C : Ctx) (hT : TOK (⟨pf, fs36 lo, [Ybg lo, YaV lo, YaJ lo, YaE lo], 0⟩ : Tabs) C) : Yx3 (fun _ => False) [] 0 C q36_J17_b.er (Yhw lo) :=
  YtO (T := (⟨pf, fs36 lo, [Ybg lo, YaV lo, YaJ lo, YaE lo], 0⟩ : Tabs)) hT frNo (id := 17) (own0 := [(20, none, false)]) (own := [(20, none, false)]) (g0 := Yhu) (g := Yc2) (outs := Yhv) (pre := Yer) (bb := Yc1) (rest := Yes) (show LK C _ Yer from tv) (show LK C (⟨pf, fs36 lo, [Ybg lo, YaV lo, YaJ lo, YaE lo], 0⟩ : Tabs) (Yzw 116 6 Yc1) from ⟨⟨tv, tv⟩, ⟨tv, tv⟩⟩) (show LK C _ Yes from ⟨tv, ⟨⟨tv, (Yye (by kernel_rfl) (YvA hlo C (Yaf hT)))⟩, ⟨tv, tv⟩⟩⟩) YvC (YvD lo) (YvE lo) (YvB lo) (fun x y h => YtP h)
noncomputable def q36 (lo : Lo) (a0_0 : ByteArray) (a0_1 : List ByteArray) (a0_2 : List (Int × Zt3)) (b1_0 : ByteArray) (b1_1 : List ByteArray) (b1_2 : List (Int × Zt3)) : Option (ByteArray × Zt2 × Zt0 × Int) :=
  Option.bind (q11 lo a0_0 a0_1 a0_2) fun y77 => bif (!decide (y77 = (0 : Int))) then (some ((ByteArray.mk #[]), ([] : List ByteArray), ([] : List (Int × Zt3)), y77)) else (Option.bind (q11 lo b1_0 b1_1 b1_2) fun y78 => bif (!decide (y78 = (0 : Int))) then (some ((ByteArray.mk #[]), ([] : List ByteArray), ([] : List (Int × Zt3)), y78)) else (Option.bind (q19 lo a0_1) fun y79 => Option.bind (Yel lo (b1_1, (b1_1.length : Int), (0 : Int), a0_0, a0_1, a0_2, b1_0, b1_1, b1_2, (ByteArray.mk #[]), ([] : List ByteArray), ([] : List (Int × Zt3)), a0_0, [], y79, [])) fun y81 => bif (decide ((16 : Int) < (y81.2.2.2.2.2.2.2.2.2.2.2.1.length : Int))) then (some ((ByteArray.mk #[]), ([] : List ByteArray), ([] : List (Int × Zt3)), (3 : Int))) else (Option.bind (Yep lo (y81.2.2.2.2.2.2.2.2.2.2.1, y81.2.2.1, (y81.2.2.1.length : Int), (0 : Int), y81.2.2.2.1, y81.2.2.2.2.1, y81.2.2.2.2.2.1, y81.2.2.2.2.2.2.1, y81.2.2.2.2.2.2.2.1, y81.2.2.2.2.2.2.2.2.1, y81.2.2.2.2.2.2.2.2.2.1, (0 : Int), ([] : List (Int × ByteArray × Zt3)), false, y81.2.2.2.2.2.2.2.2.2.2.2.1, y81.2.2.2.2.2.2.2.2.2.2.2.2)) fun y87 => alt2 y87 (fun y88 => some (y88.2.1, y88.2.2.1, y88.2.2.2, y88.1)) (fun y89 => Option.bind (Yeu lo (y89.1, y89.2.1, y89.2.2.1, y89.2.2.2.1, y89.2.2.2.2.1, y89.2.2.2.2.2.1, y89.2.2.2.2.2.2.1, [], y89.2.2.2.2.2.2.2.1, y89.2.2.2.2.2.2.2.2)) fun y154 => some (y154.2.1, y154.2.2.1, y154.2.2.2, y154.1)))))
def Yn1 : VCode :=
 (.seq (.reg [o 2 (.box (t 0)), o 3 (.box (t 1)), o 4 (.alloc [.s (⟨#[]⟩), .e (cs [.s]), .e Zc1]), o 5 (.mv (k 0))])
 (.seq (.seq (.reg [o 24 (.load true 3 (t 2)), o 25 (.call 230 [(t 24)]), mV 6 25])
 (.seq (.reg [mV 26 6, o 27 (.bin .neq (t 26) (k 0))])
 (.cond (t 27) (.seq (.reg [o 28 (.build [.s (⟨#[]⟩), .e (cs [.s]), .e Zc1] []), mV 29 6, on (.store 3 (t 4) (t 28)), mV 5 29])
 (.fz [4, 5] .ret))
 .skip)))
 (.seq (.seq (.reg [o 30 (.load true 3 (t 3)), o 31 (.call 230 [(t 30)]), mV 7 31])
 (.seq (.reg [mV 32 7, o 33 (.bin .neq (t 32) (k 0))])
 (.cond (t 33) (.seq (.reg [o 34 (.build [.s (⟨#[]⟩), .e (cs [.s]), .e Zc1] []), mV 35 7, on (.store 3 (t 4) (t 34)), mV 5 35])
 (.fz [4, 5] .ret))
 .skip)))
 (.seq (.reg [fD 36 0 2, ⟨some 37, .load false 1 (t 36), none, true, false⟩, fD 38 1 2, ⟨some 39, .load false 1 (t 38), none, true, false⟩, o 40 (.callN 269 [(t 39)]), o 41 (.build [.s (⟨#[]⟩), .e (cs [.s]), .e Zc1] [(0, 1, (t 37)), (1, 1, (t 40))]), o 8 (.alloc [.s (⟨#[]⟩), .e (cs [.s]), .e Zc1]), on (.store 3 (t 8) (t 41))])
 (.seq (.reg [o 9 (.mv (ke (cs [I])))])
 (.seq (.seq (.reg [fD 42 1 3, lD 43 42, lN 44 43, o 45 (.mv (k 0))])
 (.blk 0 (.loop 42 q36_L42_b)))
 (.seq (.seq (.reg [fD 69 1 8, lD 70 69, lN 71 70, o 72 (.bin .gtr (t 71) (k 16))])
 (.cond (t 72) (.seq (.reg [o 73 (.build [.s (⟨#[]⟩), .e (cs [.s]), .e Zc1] []), on (.store 3 (t 4) (t 73)), o 5 (.mv (k 3))])
 (.fz [4, 5] .ret))
 .skip))
 (.seq (.reg [o 74 (.mkm none (.l Zc4) (cs []) false), mV 13 74])
 (.seq (.seq (.reg [fD 75 2 2, lD 76 75, lN 77 76, o 78 (.mv (k 0))])
 (.blk 2 (.fz [9] (.loop 19 q36_L19_b))))
 (.seq (.reg [o 20 (.mv (ke (cs [.s])))])
 (.jn 17 q36_J17_b)))))))))))
def Yhx : VFn := ⟨true, 145, [.c 4 true 3, .t 5], Yn1⟩
noncomputable def Yhy (lo : Lo) : FnE := ⟨237, true, ⟨[0, 1], [.ag [.s, .l (cs [.s]), .l Zc1], .ag [.s, .l (cs [.s]), .l Zc1]], [], Zc5⟩, .tp [.ag [.s, .l (cs [.s]), .l Zc1], .i .i64], [], Zc15, (fun x => q36 lo x.1 x.2.1 x.2.2.1 x.2.2.2.1 x.2.2.2.2.1 x.2.2.2.2.2 : Zp39 -> Option (ByteArray × Zt2 × Zt0 × Int))⟩
theorem YvG (lo : Lo) : ∀ x : Zp39, evP (⟨pf, fs36 lo, [Yhw lo, Ybg lo, YaV lo, YaJ lo, YaE lo], 0⟩ : Tabs) Yhx ⟨[0, 1], [.ag [.s, .l (cs [.s]), .l Zc1], .ag [.s, .l (cs [.s]), .l Zc1]], [], Zc5⟩ (.tp [.ag [.s, .l (cs [.s]), .l Zc1], .i .i64]) Zc15 x = q36 lo x.1 x.2.1 x.2.2.1 x.2.2.2.1 x.2.2.2.2.1 x.2.2.2.2.2 := fun x => by kernel_rfl
theorem YvH {P : Program} {fm : FM} {lo : Lo} (hlo : LoOK lo) (hS : Yx2 P fm ⟨pf, fs36 lo, [], 0⟩) (hm : P.follows .mixedOrders = true) (htie : Ti P fm 237 Yhx) : Yx2 P fm ⟨pf, Yhy lo :: fs36 lo, [], 0⟩ :=
  Yah hS hm [Yhw lo, Ybg lo, YaV lo, YaJ lo, YaE lo] (Yhy lo) rfl Yhx htie (by decide) rfl (Nat.le_of_ble_eq_true (by kernel_rfl)) (fun C hT => show LK C _ Yn1 from ⟨tv, ⟨⟨tv, ⟨tv, ⟨⟨tv, tv⟩, tv⟩⟩⟩, ⟨⟨tv, ⟨tv, ⟨⟨tv, tv⟩, tv⟩⟩⟩, ⟨tv, ⟨tv, ⟨⟨tv, (Yye (by kernel_rfl) (Yvu hlo C (Yaf hT)))⟩, ⟨⟨tv, ⟨⟨tv, tv⟩, tv⟩⟩, ⟨tv, ⟨⟨tv, (Yye (by kernel_rfl) (Yvy hlo C (Yaf hT)))⟩, ⟨tv, (Yye (by kernel_rfl) (YvF hlo C (Yaf hT)))⟩⟩⟩⟩⟩⟩⟩⟩⟩⟩) (fun x y h => (YvG lo x).trans h)
noncomputable def fs37 (lo : Lo) : List FnE := Yhy lo :: fs36 lo
def q37_L3_b : VCode :=
 (.seq (.reg [o 14 (.bin .lss (t 13) (t 12))])
 (.seq (.cond (t 14) .skip
 (.exit 0))
 (.seq (.blk 1 (.seq (.reg [mV 15 13, mV 5 15])
 (.seq (.reg [mV 16 0, mV 17 5, o 18 (.iad 1 (t 16) (t 17)), lD 19 18, mV 20 1, mV 21 5, o 22 (.iad 1 (t 20) (t 21)), lD 23 22, o 24 (.bin .neq (t 19) (t 23))])
 (.cond (t 24) (.seq (.reg [o 4 (.mv (kb false))])
 (.fz [4] .ret))
 .skip))))
 (.reg [o 25 (.bin .add (t 13) (k 1)), mV 13 25]))))
def Yn2 : Sg := ⟨[0, 1, 12, 13], [.l (cs [.s]), .l (cs [.s]), .i .i64, .i .i64], [], (cs [.l (cs [.s]), .l (cs [.s]), I, I])⟩
def Yn3 : List Out1 := [⟨.ret, ⟨[4], [.b], [], (cs [.b])⟩⟩, ⟨.exit 0, ⟨[], [], [], (cs [])⟩⟩]
def Yev (lo : Lo) : Zt2 × Zt2 × Int × Int -> Option ((Zt2 × Zt2 × Int × Int) ⊕ (Bool ⊕ Unit)) := fun x => match x with
  | (s10, s21, v12, v13) => bif (decide (v13 < v12)) then (chk (0 <= v13 /\ v13 < (s10.length : Int)) (chk (0 <= v13 /\ v13 < (s21.length : Int)) (bif (!decide ((s10.getD v13.toNat (ByteArray.mk #[])) = (s21.getD v13.toNat (ByteArray.mk #[])))) then (some (.inr (.inl false))) else (some (.inl (s10, s21, v12, (IntKind.wrap .i64 (v13 + (1 : Int))))))))) else (some (.inr (.inr ())))
theorem YvI (lo : Lo) : ∀ x : Zt2 × Zt2 × Int × Int, Yyf (⟨pf, fs37 lo, [], 0⟩ : Tabs) [] Yn2 Yn3 q37_L3_b x = Yev lo x := fun x => by kernel_rfl
def Yhz (lo : Lo) : Zt2 × Zt2 × Int × Int -> Option (Bool ⊕ Unit) := lo.run (Yev lo)
def YhA (lo : Lo) : LpE := ⟨3, [], Yn2, Yn3, Yhz lo⟩
theorem YvJ {lo : Lo} (hlo : LoOK lo) (C : Ctx) (hT : TOK (⟨pf, fs37 lo, [], 0⟩ : Tabs) C) : Yx3 (fun _ => False) [] 0 C (.loop q37_L3_b.er) (YhA lo) :=
  Yak hT frNo (show LK C _ q37_L3_b from ⟨tv, ⟨⟨tv, tv⟩, ⟨⟨tv, ⟨tv, ⟨⟨tv, tv⟩, tv⟩⟩⟩, tv⟩⟩⟩) (fun x y h => Yal (YvI lo) (hlo _ _ _ h))
def q37 (lo : Lo) (s10 : List ByteArray) (s21 : List ByteArray) : Option Bool :=
  bif (!decide ((s10.length : Int) = (s21.length : Int))) then (some false) else (Option.bind (Yhz lo (s10, s21, (s10.length : Int), (0 : Int))) fun y158 => alt2 y158 (fun y159 => some y159) (fun y160 => some true))
def Yn4 : VCode :=
 (.seq (.reg [o 4 (.mv (kb false))])
 (.seq (.seq (.reg [mV 6 0, lN 7 6, mV 8 1, lN 9 8, o 10 (.bin .neq (t 7) (t 9))])
 (.cond (t 10) (.seq (.reg [o 4 (.mv (kb false))])
 (.fz [4] .ret))
 .skip))
 (.seq (.seq (.reg [mV 11 0, lN 12 11, o 13 (.mv (k 0))])
 (.blk 0 (.loop 3 q37_L3_b)))
 (.seq (.reg [o 4 (.mv (kb true))])
 (.fz [4] .ret)))))
def YhB : VFn := ⟨true, 26, [.t 4], Yn4⟩
def YhC (lo : Lo) : FnE := ⟨267, true, ⟨[0, 1], [.l (cs [.s]), .l (cs [.s])], [], (cs [.l (cs [.s]), .l (cs [.s])])⟩, .b, [], (cs [.b]), (fun x => q37 lo x.1 x.2 : Zt2 × Zt2 -> Option Bool)⟩
theorem YvK (lo : Lo) : ∀ x : Zt2 × Zt2, evP (⟨pf, fs37 lo, [YhA lo], 0⟩ : Tabs) YhB ⟨[0, 1], [.l (cs [.s]), .l (cs [.s])], [], (cs [.l (cs [.s]), .l (cs [.s])])⟩ (.b) (cs [.b]) x = q37 lo x.1 x.2 := fun x => by kernel_rfl
theorem YvL {P : Program} {fm : FM} {lo : Lo} (hlo : LoOK lo) (hS : Yx2 P fm ⟨pf, fs37 lo, [], 0⟩) (hm : P.follows .mixedOrders = true) (htie : Ti P fm 267 YhB) : Yx2 P fm ⟨pf, YhC lo :: fs37 lo, [], 0⟩ :=
  Yah hS hm [YhA lo] (YhC lo) rfl YhB htie (by decide) rfl (Nat.le_of_ble_eq_true (by kernel_rfl)) (fun C hT => show LK C _ Yn4 from ⟨tv, ⟨⟨tv, ⟨⟨tv, tv⟩, tv⟩⟩, ⟨⟨tv, (Yye (by kernel_rfl) (YvJ hlo C (Yaf hT)))⟩, ⟨tv, tv⟩⟩⟩⟩) (fun x y h => (YvK lo x).trans h)
noncomputable def fs38 (lo : Lo) : List FnE := YhC lo :: fs37 lo
def q38_L3_b : VCode :=
 (.seq (.reg [o 14 (.bin .lss (t 13) (t 12))])
 (.seq (.cond (t 14) .skip
 (.exit 0))
 (.seq (.blk 1 (.seq (.reg [mV 15 13, mV 5 15])
 (.seq (.reg [mV 16 0, mV 17 5, o 18 (.iad 3 (t 16) (t 17)), o 19 (.load true 3 (t 18)), mV 20 1, mV 21 5, o 22 (.iad 3 (t 20) (t 21)), o 23 (.load true 3 (t 22)), o 24 (.eqa true [1, 1, 2] (t 19) (t 23))])
 (.cond (t 24) (.seq (.reg [o 4 (.mv (kb false))])
 (.fz [4] .ret))
 .skip))))
 (.reg [o 25 (.bin .add (t 13) (k 1)), mV 13 25]))))
def Yn5 : Sg := ⟨[0, 1, 12, 13], [.l Zc4, .l Zc4, .i .i64, .i .i64], [], (cs [.l Zc4, .l Zc4, I, I])⟩
def Yn6 : List Out1 := [⟨.ret, ⟨[4], [.b], [], (cs [.b])⟩⟩, ⟨.exit 0, ⟨[], [], [], (cs [])⟩⟩]
def Yew (lo : Lo) : Zt3 × Zt3 × Int × Int -> Option ((Zt3 × Zt3 × Int × Int) ⊕ (Bool ⊕ Unit)) := fun x => match x with
  | (s10, s21, v12, v13) => bif (decide (v13 < v12)) then (chk (0 <= v13 /\ v13 < (s10.length : Int)) (chk (0 <= v13 /\ v13 < (s21.length : Int)) (bif (!((decide ((s10.getD v13.toNat ((0 : Int), (0 : Int), (ByteArray.mk #[]))).1 = (s21.getD v13.toNat ((0 : Int), (0 : Int), (ByteArray.mk #[]))).1)) && ((decide ((s10.getD v13.toNat ((0 : Int), (0 : Int), (ByteArray.mk #[]))).2.1 = (s21.getD v13.toNat ((0 : Int), (0 : Int), (ByteArray.mk #[]))).2.1)) && ((decide ((s10.getD v13.toNat ((0 : Int), (0 : Int), (ByteArray.mk #[]))).2.2 = (s21.getD v13.toNat ((0 : Int), (0 : Int), (ByteArray.mk #[]))).2.2)) && true)))) then (some (.inr (.inl false))) else (some (.inl (s10, s21, v12, (IntKind.wrap .i64 (v13 + (1 : Int))))))))) else (some (.inr (.inr ())))
theorem YvM (lo : Lo) : ∀ x : Zt3 × Zt3 × Int × Int, Yyf (⟨pf, fs38 lo, [], 0⟩ : Tabs) [] Yn5 Yn6 q38_L3_b x = Yew lo x := fun x => by kernel_rfl
def YhD (lo : Lo) : Zt3 × Zt3 × Int × Int -> Option (Bool ⊕ Unit) := lo.run (Yew lo)
def YhE (lo : Lo) : LpE := ⟨3, [], Yn5, Yn6, YhD lo⟩
theorem YvN {lo : Lo} (hlo : LoOK lo) (C : Ctx) (hT : TOK (⟨pf, fs38 lo, [], 0⟩ : Tabs) C) : Yx3 (fun _ => False) [] 0 C (.loop q38_L3_b.er) (YhE lo) :=
  Yak hT frNo (show LK C _ q38_L3_b from ⟨tv, ⟨⟨tv, tv⟩, ⟨⟨tv, ⟨tv, ⟨⟨tv, tv⟩, tv⟩⟩⟩, tv⟩⟩⟩) (fun x y h => Yal (YvM lo) (hlo _ _ _ h))
def q38 (lo : Lo) (s10 : List (Int × Int × ByteArray)) (s21 : List (Int × Int × ByteArray)) : Option Bool :=
  bif (!decide ((s10.length : Int) = (s21.length : Int))) then (some false) else (Option.bind (YhD lo (s10, s21, (s10.length : Int), (0 : Int))) fun y162 => alt2 y162 (fun y163 => some y163) (fun y164 => some true))
def Yn7 : VCode :=
 (.seq (.reg [o 4 (.mv (kb false))])
 (.seq (.seq (.reg [mV 6 0, lN 7 6, mV 8 1, lN 9 8, o 10 (.bin .neq (t 7) (t 9))])
 (.cond (t 10) (.seq (.reg [o 4 (.mv (kb false))])
 (.fz [4] .ret))
 .skip))
 (.seq (.seq (.reg [mV 11 0, lN 12 11, o 13 (.mv (k 0))])
 (.blk 0 (.loop 3 q38_L3_b)))
 (.seq (.reg [o 4 (.mv (kb true))])
 (.fz [4] .ret)))))
def YhF : VFn := ⟨true, 26, [.t 4], Yn7⟩
def YhG (lo : Lo) : FnE := ⟨300, true, ⟨[0, 1], [.l Zc4, .l Zc4], [], (cs [.l Zc4, .l Zc4])⟩, .b, [], (cs [.b]), (fun x => q38 lo x.1 x.2 : Zt3 × Zt3 -> Option Bool)⟩
theorem YvO (lo : Lo) : ∀ x : Zt3 × Zt3, evP (⟨pf, fs38 lo, [YhE lo], 0⟩ : Tabs) YhF ⟨[0, 1], [.l Zc4, .l Zc4], [], (cs [.l Zc4, .l Zc4])⟩ (.b) (cs [.b]) x = q38 lo x.1 x.2 := fun x => by kernel_rfl
theorem YvP {P : Program} {fm : FM} {lo : Lo} (hlo : LoOK lo) (hS : Yx2 P fm ⟨pf, fs38 lo, [], 0⟩) (hm : P.follows .mixedOrders = true) (htie : Ti P fm 300 YhF) : Yx2 P fm ⟨pf, YhG lo :: fs38 lo, [], 0⟩ :=
  Yah hS hm [YhE lo] (YhG lo) rfl YhF htie (by decide) rfl (Nat.le_of_ble_eq_true (by kernel_rfl)) (fun C hT => show LK C _ Yn7 from ⟨tv, ⟨⟨tv, ⟨⟨tv, tv⟩, tv⟩⟩, ⟨⟨tv, (Yye (by kernel_rfl) (YvN hlo C (Yaf hT)))⟩, ⟨tv, tv⟩⟩⟩⟩) (fun x y h => (YvO lo x).trans h)
noncomputable def fs39 (lo : Lo) : List FnE := YhG lo :: fs38 lo
def q39 (lo : Lo) (s0_0 : Int) (s0_1 : List (Int × Int × ByteArray)) (v1_0 : Int) (v1_1 : List (Int × Int × ByteArray)) : Option (Bool × Int × Zt3) :=
  Option.bind (q38 lo v1_1 s0_1) fun y165 => some (y165, v1_0, v1_1)
def Yn8 : VCode :=
 (.seq (.reg [o 2 (.box (t 0)), o 3 (.mv (kb false))])
 (.seq (.reg [fD 4 1 1, lD 5 4, fD 6 1 2, lD 7 6, o 8 (.call 300 [(t 5), (t 7)]), mV 3 8])
 .ret))
def YhH : VFn := ⟨true, 9, [.t 3], Yn8⟩
def YhI (lo : Lo) : FnE := ⟨299, false, ⟨[0, 1], [.ag [.i .i64, .l Zc4], .ptr 0 0 0], [.st [.i .i64, .l Zc4]], (cs [I, .l Zc4, I, .l Zc4])⟩, .b, [.st [.i .i64, .l Zc4]], (cs [.b, I, .l Zc4]), (fun x => q39 lo x.1 x.2.1 x.2.2.1 x.2.2.2 : Int × Zt3 × Int × Zt3 -> Option (Bool × Int × Zt3))⟩
theorem YvQ (lo : Lo) : ∀ x : Int × Zt3 × Int × Zt3, evI (⟨pf, fs39 lo, [], 1⟩ : Tabs) YhH ⟨[0, 1], [.ag [.i .i64, .l Zc4], .ptr 0 0 0], [.st [.i .i64, .l Zc4]], (cs [I, .l Zc4, I, .l Zc4])⟩ (.b) [.st [.i .i64, .l Zc4]] (cs [.b, I, .l Zc4]) x = q39 lo x.1 x.2.1 x.2.2.1 x.2.2.2 := fun x => by kernel_rfl
theorem YvR {P : Program} {fm : FM} {lo : Lo} (hlo : LoOK lo) (hS : Yx2 P fm ⟨pf, fs39 lo, [], 0⟩) (hm : P.follows .mixedOrders = true) (htie : Ti P fm 299 YhH) : Yx2 P fm ⟨pf, YhI lo :: fs39 lo, [], 0⟩ :=
  Ybf hS hm [] (YhI lo) rfl YhH htie (by decide) rfl (Nat.le_of_ble_eq_true (by kernel_rfl)) (fun C hT Fr H0 hf => show LsOK Fr H0 C (⟨pf, fs39 lo, [], 1⟩ : Tabs) Yn8 from ⟨tv, ⟨tv, tv⟩⟩) (fun x y h => (YvQ lo x).trans h)
noncomputable def fs40 (lo : Lo) : List FnE := YhI lo :: fs39 lo
end Go.Abs.G03
namespace Go.Abs.G03
open Go Go.Abs
set_option maxRecDepth 100000
set_option maxHeartbeats 1000000
def q40_L3_b : VCode :=
 (.seq (.reg [o 9 (.bin .lss (t 8) (t 7))])
 (.seq (.cond (t 9) .skip
 (.exit 0))
 (.seq (.blk 1 (.seq (.reg [mV 10 8, mV 5 10])
 (.seq (.reg [mV 11 1, mV 12 0, mV 13 5, o 14 (.iad 2 (t 12) (t 13)), o 15 (.load true 2 (t 14)), o 16 (.dyn (t 11) [(t 15)])])
 (.cond (t 16) (.seq (.reg [mV 17 5, mV 4 17])
 .ret)
 .skip))))
 (.reg [o 18 (.bin .add (t 8) (k 1)), mV 8 18]))))
def Yn9 : Sg := ⟨[0, 1, 7, 8], [.l Zc1, .clo 299 [.ptr 0 0 0], .i .i64, .i .i64], [.st [.i .i64, .l Zc4]], (cs [.l Zc1, I, I, I, .l Zc4])⟩
def Yoa : List Out1 := [⟨.ret, ⟨[4], [.i .i64], [.st [.i .i64, .l Zc4]], (cs [I, I, .l Zc4])⟩⟩, ⟨.exit 0, ⟨[], [], [.st [.i .i64, .l Zc4]], Zc1⟩⟩]
def Yex (lo : Lo) : Zt0 × Int × Int × Int × Zt3 -> Option ((Zt0 × Int × Int × Int × Zt3) ⊕ ((Int × Int × Zt3) ⊕ (Int × Zt3))) := fun x => match x with
  | (s0, v7, v8, h0_0, h0_1) => bif (decide (v8 < v7)) then (chk (0 <= v8 /\ v8 < (s0.length : Int)) (Option.bind (q39 lo ((s0.getD v8.toNat ((0 : Int), [])).1) ((s0.getD v8.toNat ((0 : Int), [])).2) h0_0 h0_1) fun y166 => bif y166.1 then (some (.inr (.inl (v8, y166.2.1, y166.2.2)))) else (some (.inl (s0, v7, (IntKind.wrap .i64 (v8 + (1 : Int))), y166.2.1, y166.2.2))))) else (some (.inr (.inr (h0_0, h0_1))))
theorem YvS (lo : Lo) : ∀ x : Zt0 × Int × Int × Int × Zt3, Yyf (⟨pf, fs40 lo, [], 1⟩ : Tabs) [] Yn9 Yoa q40_L3_b x = Yex lo x := fun x => by kernel_rfl
def YhJ (lo : Lo) : Zt0 × Int × Int × Int × Zt3 -> Option ((Int × Int × Zt3) ⊕ (Int × Zt3)) := lo.run (Yex lo)
def Yey (lo : Lo) : LpE := ⟨3, [], Yn9, Yoa, YhJ lo⟩
theorem YvT {lo : Lo} (hlo : LoOK lo) (C : Ctx) (hT : TOK (⟨pf, fs40 lo, [], 1⟩ : Tabs) C) {Fr : Nat -> Prop} {H0 : Heap} (hf : FrOK Fr H0) : Yx3 Fr H0 1 C (.loop q40_L3_b.er) (Yey lo) :=
  Yak hT hf (show LsOK Fr H0 C (⟨pf, fs40 lo, [], 1⟩ : Tabs) q40_L3_b from ⟨tv, ⟨⟨tv, tv⟩, ⟨⟨tv, ⟨tv, ⟨⟨tv, tv⟩, tv⟩⟩⟩, tv⟩⟩⟩) (fun x y h => Yal (YvS lo) (hlo _ _ _ h))
def q40 (lo : Lo) (s0 : List (Int × Zt3)) (h0_0 : Int) (h0_1 : List (Int × Int × ByteArray)) : Option (Int × Int × Zt3) :=
  Option.bind (YhJ lo (s0, (s0.length : Int), (0 : Int), h0_0, h0_1)) fun y167 => alt2 y167 (fun y168 => some (y168.1, y168.2.1, y168.2.2)) (fun y169 => some ((-1 : Int), y169.1, y169.2))
def Yob : VCode :=
 (.seq (.reg [o 4 (.mv (k 0))])
 (.seq (.seq (.reg [mV 6 0, lN 7 6, o 8 (.mv (k 0))])
 (.blk 0 (.loop 3 q40_L3_b)))
 (.seq (.reg [o 4 (.mv (k (-1)))])
 .ret)))
def YhK : VFn := ⟨true, 19, [.t 4], Yob⟩
def YhL (lo : Lo) : FnE := ⟨277, false, ⟨[0, 1], [.l Zc1, .clo 299 [.ptr 0 0 0]], [.st [.i .i64, .l Zc4]], (cs [.l Zc1, I, .l Zc4])⟩, .i .i64, [.st [.i .i64, .l Zc4]], (cs [I, I, .l Zc4]), (fun x => q40 lo x.1 x.2.1 x.2.2 : Zt0 × Int × Zt3 -> Option (Int × Int × Zt3))⟩
theorem YvU (lo : Lo) : ∀ x : Zt0 × Int × Zt3, evI (⟨pf, fs40 lo, [Yey lo], 1⟩ : Tabs) YhK ⟨[0, 1], [.l Zc1, .clo 299 [.ptr 0 0 0]], [.st [.i .i64, .l Zc4]], (cs [.l Zc1, I, .l Zc4])⟩ (.i .i64) [.st [.i .i64, .l Zc4]] (cs [I, I, .l Zc4]) x = q40 lo x.1 x.2.1 x.2.2 := fun x => by kernel_rfl
theorem YvV {P : Program} {fm : FM} {lo : Lo} (hlo : LoOK lo) (hS : Yx2 P fm ⟨pf, fs40 lo, [], 0⟩) (hm : P.follows .mixedOrders = true) (htie : Ti P fm 277 YhK) : Yx2 P fm ⟨pf, YhL lo :: fs40 lo, [], 0⟩ :=
  Ybf hS hm [Yey lo] (YhL lo) rfl YhK htie (by decide) rfl (Nat.le_of_ble_eq_true (by kernel_rfl)) (fun C hT Fr H0 hf => show LsOK Fr H0 C (⟨pf, fs40 lo, [Yey lo], 1⟩ : Tabs) Yob from ⟨tv, ⟨⟨tv, (Yye (by kernel_rfl) (YvT hlo C (Yaf hT) hf))⟩, ⟨tv, tv⟩⟩⟩) (fun x y h => (YvU lo x).trans h)
noncomputable def fs41 (lo : Lo) : List FnE := YhL lo :: fs40 lo
def q41 (lo : Lo) (s0 : List (Int × Zt3)) (h0_0 : Int) (h0_1 : List (Int × Int × ByteArray)) : Option (Bool × Int × Zt3) :=
  Option.bind (q40 lo s0 h0_0 h0_1) fun y170 => some ((decide ((0 : Int) <= y170.1)), y170.2.1, y170.2.2)
def Yoc : VCode :=
 (.seq (.reg [o 4 (.mv (kb false))])
 (.seq (.reg [mV 5 0, mV 6 1, o 7 (.call 277 [(t 5), (t 6)]), o 8 (.bin .geq (t 7) (k 0)), mV 4 8])
 .ret))
def YhM : VFn := ⟨true, 9, [.t 4], Yoc⟩
def YhN (lo : Lo) : FnE := ⟨298, false, ⟨[0, 1], [.l Zc1, .clo 299 [.ptr 0 0 0]], [.st [.i .i64, .l Zc4]], (cs [.l Zc1, I, .l Zc4])⟩, .b, [.st [.i .i64, .l Zc4]], (cs [.b, I, .l Zc4]), (fun x => q41 lo x.1 x.2.1 x.2.2 : Zt0 × Int × Zt3 -> Option (Bool × Int × Zt3))⟩
theorem YvW (lo : Lo) : ∀ x : Zt0 × Int × Zt3, evI (⟨pf, fs41 lo, [], 1⟩ : Tabs) YhM ⟨[0, 1], [.l Zc1, .clo 299 [.ptr 0 0 0]], [.st [.i .i64, .l Zc4]], (cs [.l Zc1, I, .l Zc4])⟩ (.b) [.st [.i .i64, .l Zc4]] (cs [.b, I, .l Zc4]) x = q41 lo x.1 x.2.1 x.2.2 := fun x => by kernel_rfl
theorem YvX {P : Program} {fm : FM} {lo : Lo} (hlo : LoOK lo) (hS : Yx2 P fm ⟨pf, fs41 lo, [], 0⟩) (hm : P.follows .mixedOrders = true) (htie : Ti P fm 298 YhM) : Yx2 P fm ⟨pf, YhN lo :: fs41 lo, [], 0⟩ :=
  Ybf hS hm [] (YhN lo) rfl YhM htie (by decide) rfl (Nat.le_of_ble_eq_true (by kernel_rfl)) (fun C hT Fr H0 hf => show LsOK Fr H0 C (⟨pf, fs41 lo, [], 1⟩ : Tabs) Yoc from ⟨tv, ⟨tv, tv⟩⟩) (fun x y h => (YvW lo x).trans h)
noncomputable def fs42 (lo : Lo) : List FnE := YhN lo :: fs41 lo
def q42_L3_b : VCode :=
 (.seq (.reg [o 10 (.bin .lss (t 9) (t 8))])
 (.seq (.cond (t 10) .skip
 (.exit 0))
 (.seq (.blk 1 (.seq (.reg [o 11 (.iad 2 (t 7) (t 9)), o 12 (.load true 2 (t 11)), o 6 (.alloc [.i .i64 0, .e Zc4]), on (.store 2 (t 6) (t 12))])
 (.seq (.reg [mV 13 0, o 14 (.mkf 299 [(t 6)]), o 15 (.call 298 [(t 13), (t 14)]), o 16 (.not (t 15))])
 (.cond (t 16) (.seq (.reg [o 4 (.mv (kb false))])
 (.fz [4] .ret))
 .skip))))
 (.reg [o 17 (.bin .add (t 9) (k 1)), mV 9 17]))))
def Yod : Sg := ⟨[0, 7, 8, 9], [.l Zc1, .l Zc1, .i .i64, .i .i64], [], (cs [.l Zc1, .l Zc1, I, I])⟩
def Yoe : List Out1 := [⟨.ret, ⟨[4], [.b], [], (cs [.b])⟩⟩, ⟨.exit 0, ⟨[], [], [], (cs [])⟩⟩]
def Yez (lo : Lo) : Zt0 × Zt0 × Int × Int -> Option ((Zt0 × Zt0 × Int × Int) ⊕ (Bool ⊕ Unit)) := fun x => match x with
  | (a0, v7, v8, v9) => bif (decide (v9 < v8)) then (chk (0 <= v9 /\ v9 < (v7.length : Int)) (Option.bind (q41 lo a0 ((v7.getD v9.toNat ((0 : Int), [])).1) ((v7.getD v9.toNat ((0 : Int), [])).2)) fun y171 => bif (!y171.1) then (some (.inr (.inl false))) else (some (.inl (a0, v7, v8, (IntKind.wrap .i64 (v9 + (1 : Int)))))))) else (some (.inr (.inr ())))
theorem YvY (lo : Lo) : ∀ x : Zt0 × Zt0 × Int × Int, Yyf (⟨pf, fs42 lo, [], 0⟩ : Tabs) [] Yod Yoe q42_L3_b x = Yez lo x := fun x => by kernel_rfl
def YhO (lo : Lo) : Zt0 × Zt0 × Int × Int -> Option (Bool ⊕ Unit) := lo.run (Yez lo)
def YhP (lo : Lo) : LpE := ⟨3, [], Yod, Yoe, YhO lo⟩
theorem YvZ {lo : Lo} (hlo : LoOK lo) (C : Ctx) (hT : TOK (⟨pf, fs42 lo, [], 0⟩ : Tabs) C) : Yx3 (fun _ => False) [] 0 C (.loop q42_L3_b.er) (YhP lo) :=
  Yak hT frNo (show LK C _ q42_L3_b from ⟨tv, ⟨⟨tv, tv⟩, ⟨⟨tv, ⟨tv, ⟨⟨tv, tv⟩, tv⟩⟩⟩, tv⟩⟩⟩) (fun x y h => Yal (YvY lo) (hlo _ _ _ h))
def q42 (lo : Lo) (a0 : List (Int × Zt3)) (b1 : List (Int × Zt3)) : Option Bool :=
  Option.bind (YhO lo (a0, b1, (b1.length : Int), (0 : Int))) fun y172 => alt2 y172 (fun y173 => some y173) (fun y174 => some true)
def Yof : VCode :=
 (.seq (.reg [o 4 (.mv (kb false))])
 (.seq (.seq (.reg [mV 7 1, lN 8 7, o 9 (.mv (k 0))])
 (.blk 0 (.loop 3 q42_L3_b)))
 (.seq (.reg [o 4 (.mv (kb true))])
 (.fz [4] .ret))))
def YhQ : VFn := ⟨true, 18, [.t 4], Yof⟩
def YhR (lo : Lo) : FnE := ⟨268, true, ⟨[0, 1], [.l Zc1, .l Zc1], [], (cs [.l Zc1, .l Zc1])⟩, .b, [], (cs [.b]), (fun x => q42 lo x.1 x.2 : Zt0 × Zt0 -> Option Bool)⟩
theorem Yv0 (lo : Lo) : ∀ x : Zt0 × Zt0, evP (⟨pf, fs42 lo, [YhP lo], 0⟩ : Tabs) YhQ ⟨[0, 1], [.l Zc1, .l Zc1], [], (cs [.l Zc1, .l Zc1])⟩ (.b) (cs [.b]) x = q42 lo x.1 x.2 := fun x => by kernel_rfl
theorem Yv1 {P : Program} {fm : FM} {lo : Lo} (hlo : LoOK lo) (hS : Yx2 P fm ⟨pf, fs42 lo, [], 0⟩) (hm : P.follows .mixedOrders = true) (htie : Ti P fm 268 YhQ) : Yx2 P fm ⟨pf, YhR lo :: fs42 lo, [], 0⟩ :=
  Yah hS hm [YhP lo] (YhR lo) rfl YhQ htie (by decide) rfl (Nat.le_of_ble_eq_true (by kernel_rfl)) (fun C hT => show LK C _ Yof from ⟨tv, ⟨⟨tv, (Yye (by kernel_rfl) (YvZ hlo C (Yaf hT)))⟩, ⟨tv, tv⟩⟩⟩) (fun x y h => (Yv0 lo x).trans h)
noncomputable def fs43 (lo : Lo) : List FnE := YhR lo :: fs42 lo
def q43 (lo : Lo) (a0_0 : ByteArray) (a0_1 : List ByteArray) (a0_2 : List (Int × Zt3)) (b1_0 : ByteArray) (b1_1 : List ByteArray) (b1_2 : List (Int × Zt3)) : Option Bool :=
  Option.bind (q37 lo a0_1 b1_1) fun y161 => bif y161 then (Option.bind (q42 lo a0_2 b1_2) fun y175 => bif y175 then (Option.bind (q42 lo b1_2 a0_2) fun y176 => some y176) else (some false)) else (some false)
def Yog : VCode :=
 (.seq (.reg [o 2 (.box (t 0)), o 3 (.box (t 1)), o 4 (.mv (kb false))])
 (.seq (.reg [fD 5 1 2, lD 6 5, fD 7 1 3, lD 8 7, o 9 (.call 267 [(t 6), (t 8)]), mV 10 9, og 11 10 true (.fad 2 (t 2)), og 12 10 true (.load false 1 (t 11)), og 13 10 true (.fad 2 (t 3)), og 14 10 true (.load false 1 (t 13)), og 15 10 true (.call 268 [(t 12), (t 14)]), o 16 (.pick (t 10) (t 15) (kb false)), mV 17 16, og 18 17 true (.fad 2 (t 3)), og 19 17 true (.load false 1 (t 18)), og 20 17 true (.fad 2 (t 2)), og 21 17 true (.load false 1 (t 20)), og 22 17 true (.call 268 [(t 19), (t 21)]), o 23 (.pick (t 17) (t 22) (kb false)), mV 4 23])
 (.fz [4] .ret)))
def YhS : VFn := ⟨true, 24, [.t 4], Yog⟩
def YhT (lo : Lo) : FnE := ⟨236, true, ⟨[0, 1], [.ag [.s, .l (cs [.s]), .l Zc1], .ag [.s, .l (cs [.s]), .l Zc1]], [], Zc5⟩, .b, [], (cs [.b]), (fun x => q43 lo x.1 x.2.1 x.2.2.1 x.2.2.2.1 x.2.2.2.2.1 x.2.2.2.2.2 : Zp39 -> Option Bool)⟩
theorem Yv2 (lo : Lo) : ∀ x : Zp39, evP (⟨pf, fs43 lo, [], 0⟩ : Tabs) YhS ⟨[0, 1], [.ag [.s, .l (cs [.s]), .l Zc1], .ag [.s, .l (cs [.s]), .l Zc1]], [], Zc5⟩ (.b) (cs [.b]) x = q43 lo x.1 x.2.1 x.2.2.1 x.2.2.2.1 x.2.2.2.2.1 x.2.2.2.2.2 := fun x => by kernel_rfl
theorem Yv3 {P : Program} {fm : FM} {lo : Lo} (hlo : LoOK lo) (hS : Yx2 P fm ⟨pf, fs43 lo, [], 0⟩) (hm : P.follows .mixedOrders = true) (htie : Ti P fm 236 YhS) : Yx2 P fm ⟨pf, YhT lo :: fs43 lo, [], 0⟩ :=
  Yah hS hm [] (YhT lo) rfl YhS htie (by decide) rfl (Nat.le_of_ble_eq_true (by kernel_rfl)) (fun C hT => show LK C _ Yog from ⟨tv, ⟨tv, tv⟩⟩) (fun x y h => (Yv2 lo x).trans h)
noncomputable def fs44 (lo : Lo) : List FnE := YhT lo :: fs43 lo
noncomputable def q44 (lo : Lo) : Option Bool :=
  Option.bind (q2 lo) fun y6 => Option.bind (q18 lo y6.1 y6.2.1 y6.2.2 (1 : Int)) fun y51 => Option.bind (q18 lo y6.1 y6.2.1 y6.2.2 (2 : Int)) fun y52 => Option.bind (q36 lo y6.1 y6.2.1 y6.2.2 y52.1 y52.2.1 y52.2.2.1) fun y155 => Option.bind (q36 lo y51.1 y51.2.1 y51.2.2.1 y52.1 y52.2.1 y52.2.2.1) fun y156 => bif (decide (y51.2.2.2 = (0 : Int))) then (bif (decide (y52.2.2.2 = (0 : Int))) then (bif (decide (y155.2.2.2 = (0 : Int))) then (bif (decide (y156.2.2.2 = (0 : Int))) then (Option.bind (q11 lo y6.1 y6.2.1 y6.2.2) fun y157 => bif (decide (y157 = (0 : Int))) then (bif (decide ((y51.2.2.1.length : Int) = (2 : Int))) then (chk (0 <= (1 : Int) /\ (1 : Int) < (y51.2.2.1.length : Int)) (bif (decide ((y51.2.2.1.getD 1 ((0 : Int), [])).1 = (4 : Int))) then (Option.bind (q43 lo y155.1 y155.2.1 y155.2.2.1 y6.1 y6.2.1 y6.2.2) fun y177 => bif y177 then (bif (decide ((y156.2.2.1.length : Int) = (4 : Int))) then (chk (0 <= (1 : Int) /\ (1 : Int) < (y156.2.2.1.length : Int)) (chk (0 <= (1 : Int) /\ (1 : Int) < (((y156.2.2.1.getD 1 ((0 : Int), [])).2).length : Int)) (bif (decide ((((y156.2.2.1.getD 1 ((0 : Int), [])).2).getD 1 ((0 : Int), (0 : Int), (ByteArray.mk #[]))).2.2 = (ByteArray.mk #[121]))) then (chk (0 <= (3 : Int) /\ (3 : Int) < (y156.2.2.1.length : Int)) (some (decide ((y156.2.2.1.getD 3 ((0 : Int), [])).1 = (4 : Int))))) else (some false)))) else (some false)) else (some false)) else (some false))) else (some false)) else (some false)) else (some false)) else (some false)) else (some false)) else (some false)
def Yoh : VCode :=
 (.seq (.reg [o 0 (.mv (kb false))])
 (.seq (.reg [o 11 (.call 254 []), o 1 (.alloc [.s (⟨#[]⟩), .e (cs [.s]), .e Zc1]), on (.store 3 (t 1) (t 11))])
 (.seq (.reg [o 13 (.load true 3 (t 1)), o 14 (.call 233 [(t 13), (ki .u32 1)]), mV 12 14, eX 15 12 0, eX 16 12 1, o 2 (.alloc [.s (⟨#[]⟩), .e (cs [.s]), .e Zc1]), on (.store 3 (t 2) (t 15)), mV 3 16])
 (.seq (.reg [o 18 (.load true 3 (t 1)), o 19 (.call 233 [(t 18), (ki .u32 2)]), mV 17 19, eX 20 17 0, eX 21 17 1, o 4 (.alloc [.s (⟨#[]⟩), .e (cs [.s]), .e Zc1]), on (.store 3 (t 4) (t 20)), mV 5 21])
 (.seq (.reg [o 23 (.load true 3 (t 1)), o 24 (.load true 3 (t 4)), o 25 (.call 237 [(t 23), (t 24)]), mV 22 25, eX 26 22 0, eX 27 22 1, o 6 (.alloc [.s (⟨#[]⟩), .e (cs [.s]), .e Zc1]), on (.store 3 (t 6) (t 26)), mV 7 27])
 (.seq (.reg [o 29 (.load true 3 (t 2)), o 30 (.load true 3 (t 4)), o 31 (.call 237 [(t 29), (t 30)]), mV 28 31, eX 32 28 0, eX 33 28 1, o 8 (.alloc [.s (⟨#[]⟩), .e (cs [.s]), .e Zc1]), on (.store 3 (t 8) (t 32)), mV 9 33])
 (.seq (.reg [mV 34 3, o 35 (.bin .eql (t 34) (k 0)), mV 36 35, og 37 36 true (.mv (t 5)), og 38 36 true (.bin .eql (t 37) (k 0)), o 39 (.pick (t 36) (t 38) (kb false)), mV 40 39, og 41 40 true (.mv (t 7)), og 42 40 true (.bin .eql (t 41) (k 0)), o 43 (.pick (t 40) (t 42) (kb false)), mV 44 43, og 45 44 true (.mv (t 9)), og 46 44 true (.bin .eql (t 45) (k 0)), o 47 (.pick (t 44) (t 46) (kb false)), mV 10 47])
 (.seq (.reg [mV 48 10, mV 49 48, og 50 49 true (.load true 3 (t 1)), og 51 49 true (.call 230 [(t 50)]), og 52 49 true (.bin .eql (t 51) (k 0)), o 53 (.pick (t 49) (t 52) (kb false)), mV 54 53, og 55 54 true (.fad 2 (t 2)), og 56 54 true (.load false 1 (t 55)), og 57 54 true (.len (t 56)), og 58 54 true (.bin .eql (t 57) (k 2)), o 59 (.pick (t 54) (t 58) (kb false)), mV 60 59, og 61 60 true (.fad 2 (t 2)), og 62 60 true (.load false 1 (t 61)), og 63 60 true (.iad 2 (t 62) (k 1)), og 64 60 true (.fad 0 (t 63)), og 65 60 true (.load false 1 (t 64)), og 66 60 true (.bin .eql (t 65) (k 4)), o 67 (.pick (t 60) (t 66) (kb false)), mV 68 67, og 69 68 true (.load true 3 (t 6)), og 70 68 true (.load true 3 (t 1)), og 71 68 true (.call 236 [(t 69), (t 70)]), o 72 (.pick (t 68) (t 71) (kb false)), mV 73 72, og 74 73 true (.fad 2 (t 8)), og 75 73 true (.load false 1 (t 74)), og 76 73 true (.len (t 75)), og 77 73 true (.bin .eql (t 76) (k 4)), o 78 (.pick (t 73) (t 77) (kb false)), mV 79 78, og 80 79 true (.fad 2 (t 8)), og 81 79 true (.load false 1 (t 80)), og 82 79 true (.iad 2 (t 81) (k 1)), og 83 79 true (.fad 1 (t 82)), og 84 79 true (.load false 1 (t 83)), og 85 79 true (.iad 3 (t 84) (k 1)), og 86 79 true (.fad 2 (t 85)), og 87 79 true (.load false 1 (t 86)), og 88 79 true (.bin .eql (t 87) (ks (⟨#[121]⟩))), o 89 (.pick (t 79) (t 88) (kb false)), mV 90 89, og 91 90 true (.fad 2 (t 8)), og 92 90 true (.load false 1 (t 91)), og 93 90 true (.iad 2 (t 92) (k 3)), og 94 90 true (.fad 0 (t 93)), og 95 90 true (.load false 1 (t 94)), og 96 90 true (.bin .eql (t 95) (k 4)), o 97 (.pick (t 90) (t 96) (kb false)), mV 0 97])
 (.fz [0] .ret)))))))))
def YhU : VFn := ⟨true, 98, [.t 0], Yoh⟩
noncomputable def YhV (lo : Lo) : FnE := ⟨229, true, ⟨[], [], [], (cs [])⟩, .b, [], (cs [.b]), (fun x => q44 lo  : Unit -> Option Bool)⟩
theorem Yv4 (lo : Lo) : ∀ x : Unit, evP (⟨pf, fs44 lo, [], 0⟩ : Tabs) YhU ⟨[], [], [], (cs [])⟩ (.b) (cs [.b]) x = q44 lo  := fun x => by kernel_rfl
theorem Yv5 {P : Program} {fm : FM} {lo : Lo} (hlo : LoOK lo) (hS : Yx2 P fm ⟨pf, fs44 lo, [], 0⟩) (hm : P.follows .mixedOrders = true) (htie : Ti P fm 229 YhU) : Yx2 P fm ⟨pf, YhV lo :: fs44 lo, [], 0⟩ :=
  Yah hS hm [] (YhV lo) rfl YhU htie (by decide) rfl (Nat.le_of_ble_eq_true (by kernel_rfl)) (fun C hT => show LK C _ Yoh from ⟨tv, ⟨tv, ⟨tv, ⟨tv, ⟨tv, ⟨tv, ⟨tv, ⟨tv, tv⟩⟩⟩⟩⟩⟩⟩⟩) (fun x y h => (Yv4 lo x).trans h)
noncomputable def fs45 (lo : Lo) : List FnE := YhV lo :: fs44 lo
def q45 (lo : Lo) (c0 : Int) : Option Bool :=
  bif (decide ((97 : Int) <= c0)) then (bif (decide (c0 <= (122 : Int))) then (some true) else (bif (decide ((65 : Int) <= c0)) then (bif (decide (c0 <= (90 : Int))) then (some true) else (some (decide (c0 = (95 : Int))))) else (some (decide (c0 = (95 : Int)))))) else (bif (decide ((65 : Int) <= c0)) then (bif (decide (c0 <= (90 : Int))) then (some true) else (some (decide (c0 = (95 : Int))))) else (some (decide (c0 = (95 : Int)))))
def Yoi : VCode :=
 (.seq (.reg [o 2 (.mv (kb false))])
 (.seq (.reg [mV 3 0, o 4 (.bin .geq (t 3) (ki .u8 97)), mV 5 4, og 6 5 true (.mv (t 0)), og 7 5 true (.bin .leq (t 6) (ki .u8 122)), o 8 (.pick (t 5) (t 7) (kb false)), mV 9 8, og 10 9 false (.mv (t 0)), og 11 9 false (.bin .geq (t 10) (ki .u8 65)), og 12 9 false (.mv (t 11)), og 13 12 true (.mv (t 0)), og 14 12 true (.bin .leq (t 13) (ki .u8 90)), og 15 9 false (.pick (t 12) (t 14) (kb false)), o 16 (.pick (t 9) (kb true) (t 15)), mV 17 16, og 18 17 false (.mv (t 0)), og 19 17 false (.bin .eql (t 18) (ki .u8 95)), o 20 (.pick (t 17) (kb true) (t 19)), mV 2 20])
 (.fz [2] .ret)))
def YhW : VFn := ⟨true, 21, [.t 2], Yoi⟩
def YhX (lo : Lo) : FnE := ⟨295, true, ⟨[0], [.i .u8], [], (cs [.i .u8])⟩, .b, [], (cs [.b]), (fun x => q45 lo x : Int -> Option Bool)⟩
theorem Yv6 (lo : Lo) : ∀ x : Int, evP (⟨pf, fs45 lo, [], 0⟩ : Tabs) YhW ⟨[0], [.i .u8], [], (cs [.i .u8])⟩ (.b) (cs [.b]) x = q45 lo x := fun x => by kernel_rfl
theorem Yv7 {P : Program} {fm : FM} {lo : Lo} (hlo : LoOK lo) (hS : Yx2 P fm ⟨pf, fs45 lo, [], 0⟩) (hm : P.follows .mixedOrders = true) (htie : Ti P fm 295 YhW) : Yx2 P fm ⟨pf, YhX lo :: fs45 lo, [], 0⟩ :=
  Yah hS hm [] (YhX lo) rfl YhW htie (by decide) rfl (Nat.le_of_ble_eq_true (by kernel_rfl)) (fun C hT => show LK C _ Yoi from ⟨tv, ⟨tv, tv⟩⟩) (fun x y h => (Yv6 lo x).trans h)
noncomputable def fs46 (lo : Lo) : List FnE := YhX lo :: fs45 lo
def q46_L3_b : VCode :=
 (.seq (.seq (.reg [mV 22 3, mV 23 0, o 24 (.lenS (t 23)), o 25 (.bin .lss (t 22) (t 24))])
 (.cond (t 25) .skip
 (.exit 0)))
 (.seq (.blk 1 (.seq (.reg [mV 28 0, mV 29 3, o 30 (.idx (t 28) (t 29)), o 31 (.call 295 [(t 30)]), o 32 (.not (t 31)), mV 33 32, og 34 33 true (.mv (t 0)), og 35 33 true (.mv (t 3)), og 36 33 true (.idx (t 34) (t 35)), og 37 33 true (.bin .lss (t 36) (ki .u8 48)), og 38 33 true (.mv (t 37)), og 39 38 false (.mv (t 0)), og 40 38 false (.mv (t 3)), og 41 38 false (.idx (t 39) (t 40)), og 42 38 false (.bin .gtr (t 41) (ki .u8 57)), og 43 33 true (.pick (t 38) (kb true) (t 42)), o 44 (.pick (t 33) (t 43) (kb false))])
 (.cond (t 44) (.seq (.reg [o 2 (.mv (kb false))])
 (.fz [2] .ret))
 .skip)))
 (.reg [mV 26 3, o 27 (.bin .add (t 26) (k 1)), mV 3 27])))
def Yoj : Sg := ⟨[0, 3], [.s, .i .i64], [], (cs [.s, I])⟩
def Yok : List Out1 := [⟨.ret, ⟨[2], [.b], [], (cs [.b])⟩⟩, ⟨.exit 0, ⟨[], [], [], (cs [])⟩⟩]
def YeA (lo : Lo) : ByteArray × Int -> Option ((ByteArray × Int) ⊕ (Bool ⊕ Unit)) := fun x => match x with
  | (s0, i3) => bif (decide (i3 < (s0.size : Int))) then (chk (0 <= i3 /\ i3 < (s0.size : Int)) (Option.bind (q45 lo (Yx5 s0 i3)) fun y184 => bif (!y184) then (chk (0 <= i3 /\ i3 < (s0.size : Int)) (bif (decide ((Yx5 s0 i3) < (48 : Int))) then (some (.inr (.inl false))) else (chk (0 <= i3 /\ i3 < (s0.size : Int)) (bif (decide ((57 : Int) < (Yx5 s0 i3))) then (some (.inr (.inl false))) else (some (.inl (s0, (IntKind.wrap .i64 (i3 + (1 : Int)))))))))) else (some (.inl (s0, (IntKind.wrap .i64 (i3 + (1 : Int)))))))) else (some (.inr (.inr ())))
theorem Yv8 (lo : Lo) : ∀ x : ByteArray × Int, Yyf (⟨pf, fs46 lo, [], 0⟩ : Tabs) [] Yoj Yok q46_L3_b x = YeA lo x := fun x => by kernel_rfl
def YhY (lo : Lo) : ByteArray × Int -> Option (Bool ⊕ Unit) := lo.run (YeA lo)
def YhZ (lo : Lo) : LpE := ⟨3, [], Yoj, Yok, YhY lo⟩
theorem Yv9 {lo : Lo} (hlo : LoOK lo) (C : Ctx) (hT : TOK (⟨pf, fs46 lo, [], 0⟩ : Tabs) C) : Yx3 (fun _ => False) [] 0 C (.loop q46_L3_b.er) (YhZ lo) :=
  Yak hT frNo (show LK C _ q46_L3_b from ⟨⟨tv, ⟨tv, tv⟩⟩, ⟨⟨tv, ⟨⟨tv, tv⟩, tv⟩⟩, tv⟩⟩) (fun x y h => Yal (Yv8 lo) (hlo _ _ _ h))
def q46 (lo : Lo) (s0 : ByteArray) : Option Bool :=
  bif (decide ((s0.size : Int) = (0 : Int))) then (some false) else (bif (decide ((24 : Int) < (s0.size : Int))) then (some false) else (chk (0 <= (0 : Int) /\ (0 : Int) < (s0.size : Int)) (Option.bind (q45 lo (Yx5 s0 (0 : Int))) fun y183 => bif (!y183) then (some false) else (bif (decide (s0 = (ByteArray.mk #[110, 117, 108, 108]))) then (some false) else (Option.bind (YhY lo (s0, (0 : Int))) fun y185 => alt2 y185 (fun y186 => some y186) (fun y187 => some true))))))
def Yol : VCode :=
 (.seq (.reg [o 2 (.mv (kb false))])
 (.seq (.seq (.reg [mV 4 0, o 5 (.lenS (t 4)), o 6 (.bin .eql (t 5) (k 0)), mV 7 6, og 8 7 false (.mv (t 0)), og 9 7 false (.lenS (t 8)), og 10 7 false (.bin .gtr (t 9) (k 24)), o 11 (.pick (t 7) (kb true) (t 10)), mV 12 11, og 13 12 false (.mv (t 0)), og 14 12 false (.idx (t 13) (k 0)), og 15 12 false (.call 295 [(t 14)]), og 16 12 false (.not (t 15)), o 17 (.pick (t 12) (kb true) (t 16)), mV 18 17, og 19 18 false (.mv (t 0)), og 20 18 false (.bin .eql (t 19) (ks (⟨#[110, 117, 108, 108]⟩))), o 21 (.pick (t 18) (kb true) (t 20))])
 (.cond (t 21) (.seq (.reg [o 2 (.mv (kb false))])
 (.fz [2] .ret))
 .skip))
 (.seq (.seq (.reg [o 3 (.mv (k 0))])
 (.blk 0 (.loop 3 q46_L3_b)))
 (.seq (.reg [o 2 (.mv (kb true))])
 (.fz [2] .ret)))))
def Yh0 : VFn := ⟨true, 45, [.t 2], Yol⟩
def Yh1 (lo : Lo) : FnE := ⟨258, true, ⟨[0], [.s], [], (cs [.s])⟩, .b, [], (cs [.b]), (fun x => q46 lo x : ByteArray -> Option Bool)⟩
theorem Ywa (lo : Lo) : ∀ x : ByteArray, evP (⟨pf, fs46 lo, [YhZ lo], 0⟩ : Tabs) Yh0 ⟨[0], [.s], [], (cs [.s])⟩ (.b) (cs [.b]) x = q46 lo x := fun x => by kernel_rfl
theorem Ywb {P : Program} {fm : FM} {lo : Lo} (hlo : LoOK lo) (hS : Yx2 P fm ⟨pf, fs46 lo, [], 0⟩) (hm : P.follows .mixedOrders = true) (htie : Ti P fm 258 Yh0) : Yx2 P fm ⟨pf, Yh1 lo :: fs46 lo, [], 0⟩ :=
  Yah hS hm [YhZ lo] (Yh1 lo) rfl Yh0 htie (by decide) rfl (Nat.le_of_ble_eq_true (by kernel_rfl)) (fun C hT => show LK C _ Yol from ⟨tv, ⟨⟨tv, ⟨⟨tv, tv⟩, tv⟩⟩, ⟨⟨tv, (Yye (by kernel_rfl) (Yv9 hlo C (Yaf hT)))⟩, ⟨tv, tv⟩⟩⟩⟩) (fun x y h => (Ywa lo x).trans h)
noncomputable def fs47 (lo : Lo) : List FnE := Yh1 lo :: fs46 lo
def q47_L3_b : VCode :=
 (.seq (.seq (.reg [mV 6 5, mV 7 0, lN 8 7, o 9 (.bin .lss (t 6) (t 8))])
 (.cond (t 9) .skip
 (.exit 0)))
 (.seq (.blk 1 (.seq (.reg [mV 12 0, mV 13 5, o 14 (.iad 1 (t 12) (t 13)), lD 15 14, mV 16 1, o 17 (.bin .eql (t 15) (t 16))])
 (.cond (t 17) (.seq (.reg [mV 18 5, mV 4 18])
 (.fz [4] .ret))
 .skip)))
 (.reg [mV 10 5, o 11 (.bin .add (t 10) (k 1)), mV 5 11])))
def Yom : Sg := ⟨[0, 1, 5], [.l (cs [.s]), .s, .i .i64], [], (cs [.l (cs [.s]), .s, I])⟩
def Yon : List Out1 := [⟨.ret, ⟨[4], [.i .i64], [], (cs [I])⟩⟩, ⟨.exit 0, ⟨[], [], [], (cs [])⟩⟩]
def YeB (lo : Lo) : Zt2 × ByteArray × Int -> Option ((Zt2 × ByteArray × Int) ⊕ (Int ⊕ Unit)) := fun x => match x with
  | (l0, name1, i5) => bif (decide (i5 < (l0.length : Int))) then (chk (0 <= i5 /\ i5 < (l0.length : Int)) (bif (decide ((l0.getD i5.toNat (ByteArray.mk #[])) = name1)) then (some (.inr (.inl i5))) else (some (.inl (l0, name1, (IntKind.wrap .i64 (i5 + (1 : Int)))))))) else (some (.inr (.inr ())))
theorem Ywc (lo : Lo) : ∀ x : Zt2 × ByteArray × Int, Yyf (⟨pf, fs47 lo, [], 0⟩ : Tabs) [] Yom Yon q47_L3_b x = YeB lo x := fun x => by kernel_rfl
def Yh2 (lo : Lo) : Zt2 × ByteArray × Int -> Option (Int ⊕ Unit) := lo.run (YeB lo)
def Yh3 (lo : Lo) : LpE := ⟨3, [], Yom, Yon, Yh2 lo⟩
theorem Ywd {lo : Lo} (hlo : LoOK lo) (C : Ctx) (hT : TOK (⟨pf, fs47 lo, [], 0⟩ : Tabs) C) : Yx3 (fun _ => False) [] 0 C (.loop q47_L3_b.er) (Yh3 lo) :=
  Yak hT frNo (show LK C _ q47_L3_b from ⟨⟨tv, ⟨tv, tv⟩⟩, ⟨⟨tv, ⟨⟨tv, tv⟩, tv⟩⟩, tv⟩⟩) (fun x y h => Yal (Ywc lo) (hlo _ _ _ h))
def q47 (lo : Lo) (l0 : List ByteArray) (name1 : ByteArray) : Option Int :=
  Option.bind (Yh2 lo (l0, name1, (0 : Int))) fun y190 => alt2 y190 (fun y191 => some y191) (fun y192 => some (-1 : Int))
def Yoo : VCode :=
 (.seq (.reg [o 4 (.mv (k 0))])
 (.seq (.seq (.reg [o 5 (.mv (k 0))])
 (.blk 0 (.loop 3 q47_L3_b)))
 (.seq (.reg [o 4 (.mv (k (-1)))])
 (.fz [4] .ret))))
def Yh4 : VFn := ⟨true, 19, [.t 4], Yoo⟩
def Yh5 (lo : Lo) : FnE := ⟨272, true, ⟨[0, 1], [.l (cs [.s]), .s], [], (cs [.l (cs [.s]), .s])⟩, .i .i64, [], (cs [I]), (fun x => q47 lo x.1 x.2 : Zt2 × ByteArray -> Option Int)⟩
theorem Ywe (lo : Lo) : ∀ x : Zt2 × ByteArray, evP (⟨pf, fs47 lo, [Yh3 lo], 0⟩ : Tabs) Yh4 ⟨[0, 1], [.l (cs [.s]), .s], [], (cs [.l (cs [.s]), .s])⟩ (.i .i64) (cs [I]) x = q47 lo x.1 x.2 := fun x => by kernel_rfl
theorem Ywf {P : Program} {fm : FM} {lo : Lo} (hlo : LoOK lo) (hS : Yx2 P fm ⟨pf, fs47 lo, [], 0⟩) (hm : P.follows .mixedOrders = true) (htie : Ti P fm 272 Yh4) : Yx2 P fm ⟨pf, Yh5 lo :: fs47 lo, [], 0⟩ :=
  Yah hS hm [Yh3 lo] (Yh5 lo) rfl Yh4 htie (by decide) rfl (Nat.le_of_ble_eq_true (by kernel_rfl)) (fun C hT => show LK C _ Yoo from ⟨tv, ⟨⟨tv, (Yye (by kernel_rfl) (Ywd hlo C (Yaf hT)))⟩, ⟨tv, tv⟩⟩⟩) (fun x y h => (Ywe lo x).trans h)
noncomputable def fs48 (lo : Lo) : List FnE := Yh5 lo :: fs47 lo
def q48_L3_b : VCode :=
 (.seq (.seq (.reg [mV 4 3, mV 5 0, lN 6 5, o 7 (.bin .lss (t 4) (t 6))])
 (.cond (t 7) .skip
 (.exit 0)))
 (.seq (.blk 1 (.seq (.reg [mV 10 0, mV 11 3, o 12 (.iad 1 (t 10) (t 11)), lD 13 12, o 14 (.call 258 [(t 13)]), o 15 (.not (t 14)), mV 16 15, og 17 16 false (.mv (t 0)), og 18 16 false (.mv (t 3)), og 19 16 false (.slcR 1 (t 17) none (some (t 18))), og 20 16 false (.mv (t 0)), og 21 16 false (.mv (t 3)), og 22 16 false (.iad 1 (t 20) (t 21)), og 23 16 false (.load false 1 (t 22)), og 24 16 false (.call 272 [(t 19), (t 23)]), og 25 16 false (.bin .geq (t 24) (k 0)), o 26 (.pick (t 16) (kb true) (t 25))])
 (.cond (t 26) (.seq (.reg [o 2 (.mv (kb false))])
 (.fz [2] .ret))
 .skip)))
 (.reg [mV 8 3, o 9 (.bin .add (t 8) (k 1)), mV 3 9])))
def Yop : Sg := ⟨[0, 3], [.l (cs [.s]), .i .i64], [], (cs [.l (cs [.s]), I])⟩
def Yoq : List Out1 := [⟨.ret, ⟨[2], [.b], [], (cs [.b])⟩⟩, ⟨.exit 0, ⟨[], [], [], (cs [])⟩⟩]
def YeC (lo : Lo) : Zt2 × Int -> Option ((Zt2 × Int) ⊕ (Bool ⊕ Unit)) := fun x => match x with
  | (l0, i3) => bif (decide (i3 < (l0.length : Int))) then (chk (0 <= i3 /\ i3 < (l0.length : Int)) (Option.bind (q46 lo (l0.getD i3.toNat (ByteArray.mk #[]))) fun y189 => bif (!y189) then (some (.inr (.inl false))) else (chk (0 <= (0 : Int) /\ (0 : Int) <= i3 /\ i3 <= (l0.length : Int)) (chk (0 <= i3 /\ i3 < (l0.length : Int)) (Option.bind (q47 lo ((l0.take i3.toNat).drop 0) (l0.getD i3.toNat (ByteArray.mk #[]))) fun y193 => bif (decide ((0 : Int) <= y193)) then (some (.inr (.inl false))) else (some (.inl (l0, (IntKind.wrap .i64 (i3 + (1 : Int))))))))))) else (some (.inr (.inr ())))
theorem Ywg (lo : Lo) : ∀ x : Zt2 × Int, Yyf (⟨pf, fs48 lo, [], 0⟩ : Tabs) [] Yop Yoq q48_L3_b x = YeC lo x := fun x => by kernel_rfl
def Yh6 (lo : Lo) : Zt2 × Int -> Option (Bool ⊕ Unit) := lo.run (YeC lo)
def Yh7 (lo : Lo) : LpE := ⟨3, [], Yop, Yoq, Yh6 lo⟩
theorem Ywh {lo : Lo} (hlo : LoOK lo) (C : Ctx) (hT : TOK (⟨pf, fs48 lo, [], 0⟩ : Tabs) C) : Yx3 (fun _ => False) [] 0 C (.loop q48_L3_b.er) (Yh7 lo) :=
  Yak hT frNo (show LK C _ q48_L3_b from ⟨⟨tv, ⟨tv, tv⟩⟩, ⟨⟨tv, ⟨⟨tv, tv⟩, tv⟩⟩, tv⟩⟩) (fun x y h => Yal (Ywg lo) (hlo _ _ _ h))
def q48 (lo : Lo) (l0 : List ByteArray) : Option Bool :=
  Option.bind (Yh6 lo (l0, (0 : Int))) fun y194 => alt2 y194 (fun y195 => some y195) (fun y196 => some true)
def Yor : VCode :=
 (.seq (.reg [o 2 (.mv (kb false))])
 (.seq (.seq (.reg [o 3 (.mv (k 0))])
 (.blk 0 (.loop 3 q48_L3_b)))
 (.seq (.reg [o 2 (.mv (kb true))])
 (.fz [2] .ret))))
def Yh8 : VFn := ⟨true, 27, [.t 2], Yor⟩
def Yh9 (lo : Lo) : FnE := ⟨259, true, ⟨[0], [.l (cs [.s])], [], Zc10⟩, .b, [], (cs [.b]), (fun x => q48 lo x : Zt2 -> Option Bool)⟩
theorem Ywi (lo : Lo) : ∀ x : Zt2, evP (⟨pf, fs48 lo, [Yh7 lo], 0⟩ : Tabs) Yh8 ⟨[0], [.l (cs [.s])], [], Zc10⟩ (.b) (cs [.b]) x = q48 lo x := fun x => by kernel_rfl
theorem Ywj {P : Program} {fm : FM} {lo : Lo} (hlo : LoOK lo) (hS : Yx2 P fm ⟨pf, fs48 lo, [], 0⟩) (hm : P.follows .mixedOrders = true) (htie : Ti P fm 259 Yh8) : Yx2 P fm ⟨pf, Yh9 lo :: fs48 lo, [], 0⟩ :=
  Yah hS hm [Yh7 lo] (Yh9 lo) rfl Yh8 htie (by decide) rfl (Nat.le_of_ble_eq_true (by kernel_rfl)) (fun C hT => show LK C _ Yor from ⟨tv, ⟨⟨tv, (Yye (by kernel_rfl) (Ywh hlo C (Yaf hT)))⟩, ⟨tv, tv⟩⟩⟩) (fun x y h => (Ywi lo x).trans h)
noncomputable def fs49 (lo : Lo) : List FnE := Yh9 lo :: fs48 lo
def q49 (lo : Lo) (v0_0 : Int) (v0_1 : Int) (v0_2 : ByteArray) : Option Bool :=
  bif (decide (v0_0 = (0 : Int))) then (bif (decide (v0_1 = (0 : Int))) then (some (decide (v0_2 = (ByteArray.mk #[])))) else (some false)) else (bif (decide (v0_0 = (1 : Int))) then (some (decide (v0_2 = (ByteArray.mk #[])))) else (bif (decide (v0_0 = (2 : Int))) then (bif (decide (v0_1 = (0 : Int))) then (some (decide ((v0_2.size : Int) <= (200 : Int)))) else (some false)) else (bif (decide (v0_0 = (3 : Int))) then (bif (decide ((1 : Int) <= v0_1)) then (some (decide (v0_2 = (ByteArray.mk #[])))) else (some false)) else (some false))))
def Yos : VCode :=
 (.seq (.reg [o 1 (.box (t 0)), o 2 (.mv (kb false))])
 (.seq (.seq (.reg [fD 3 0 1, lD 4 3])
 (.blk 0 (.seq (.reg [o 6 (.bin .eql (t 4) (k 0)), mV 5 6])
 (.cond (t 5) (.seq (.reg [fD 7 1 1, lD 8 7, o 9 (.bin .eql (t 8) (k 0)), mV 10 9, og 11 10 true (.fad 2 (t 1)), og 12 10 true (.load false 1 (t 11)), og 13 10 true (.bin .eql (t 12) (ks (⟨#[]⟩))), o 14 (.pick (t 10) (t 13) (kb false)), mV 2 14])
 (.fz [2] .ret))
 (.seq (.reg [o 16 (.bin .eql (t 4) (k 1)), mV 15 16])
 (.cond (t 15) (.seq (.reg [fD 17 2 1, lD 18 17, o 19 (.bin .eql (t 18) (ks (⟨#[]⟩))), mV 2 19])
 (.fz [2] .ret))
 (.seq (.reg [o 21 (.bin .eql (t 4) (k 2)), mV 20 21])
 (.cond (t 20) (.seq (.reg [fD 22 1 1, lD 23 22, o 24 (.bin .eql (t 23) (k 0)), mV 25 24, og 26 25 true (.fad 2 (t 1)), og 27 25 true (.load false 1 (t 26)), og 28 25 true (.lenS (t 27)), og 29 25 true (.bin .leq (t 28) (k 200)), o 30 (.pick (t 25) (t 29) (kb false)), mV 2 30])
 (.fz [2] .ret))
 .skip))))))))
 (.seq (.reg [fD 31 0 1, lD 32 31, o 33 (.bin .eql (t 32) (k 3)), mV 34 33, og 35 34 true (.fad 1 (t 1)), og 36 34 true (.load false 1 (t 35)), og 37 34 true (.bin .geq (t 36) (k 1)), o 38 (.pick (t 34) (t 37) (kb false)), mV 39 38, og 40 39 true (.fad 2 (t 1)), og 41 39 true (.load false 1 (t 40)), og 42 39 true (.bin .eql (t 41) (ks (⟨#[]⟩))), o 43 (.pick (t 39) (t 42) (kb false)), mV 2 43])
 (.fz [2] .ret))))
def Yia : VFn := ⟨true, 44, [.t 2], Yos⟩
def Yib (lo : Lo) : FnE := ⟨284, true, ⟨[0], [.ag [.i .i64, .i .i64, .s]], [], Zc4⟩, .b, [], (cs [.b]), (fun x => q49 lo x.1 x.2.1 x.2.2 : Int × Int × ByteArray -> Option Bool)⟩
theorem Ywk (lo : Lo) : ∀ x : Int × Int × ByteArray, evP (⟨pf, fs49 lo, [], 0⟩ : Tabs) Yia ⟨[0], [.ag [.i .i64, .i .i64, .s]], [], Zc4⟩ (.b) (cs [.b]) x = q49 lo x.1 x.2.1 x.2.2 := fun x => by kernel_rfl
theorem Ywl {P : Program} {fm : FM} {lo : Lo} (hlo : LoOK lo) (hS : Yx2 P fm ⟨pf, fs49 lo, [], 0⟩) (hm : P.follows .mixedOrders = true) (htie : Ti P fm 284 Yia) : Yx2 P fm ⟨pf, Yib lo :: fs49 lo, [], 0⟩ :=
  Yah hS hm [] (Yib lo) rfl Yia htie (by decide) rfl (Nat.le_of_ble_eq_true (by kernel_rfl)) (fun C hT => show LK C _ Yos from ⟨tv, ⟨⟨tv, ⟨tv, ⟨⟨tv, tv⟩, ⟨tv, ⟨⟨tv, tv⟩, ⟨tv, ⟨⟨tv, tv⟩, tv⟩⟩⟩⟩⟩⟩⟩, ⟨tv, tv⟩⟩⟩) (fun x y h => (Ywk lo x).trans h)
noncomputable def fs50 (lo : Lo) : List FnE := Yib lo :: fs49 lo
def q50_L3_b : VCode :=
 (.seq (.seq (.reg [mV 4 3, mV 5 0, lN 6 5, o 7 (.bin .lss (t 4) (t 6))])
 (.cond (t 7) .skip
 (.exit 0)))
 (.seq (.blk 1 (.seq (.reg [mV 10 0, mV 11 3, o 12 (.iad 3 (t 10) (t 11)), o 13 (.load true 3 (t 12)), o 14 (.call 284 [(t 13)]), o 15 (.not (t 14))])
 (.cond (t 15) (.seq (.reg [o 2 (.mv (kb false))])
 (.fz [2] .ret))
 .skip)))
 (.reg [mV 8 3, o 9 (.bin .add (t 8) (k 1)), mV 3 9])))
def Yot : Sg := ⟨[0, 3], [.l Zc4, .i .i64], [], (cs [.l Zc4, I])⟩
def You : List Out1 := [⟨.ret, ⟨[2], [.b], [], (cs [.b])⟩⟩, ⟨.exit 0, ⟨[], [], [], (cs [])⟩⟩]
def YeD (lo : Lo) : Zt3 × Int -> Option ((Zt3 × Int) ⊕ (Bool ⊕ Unit)) := fun x => match x with
  | (l0, i3) => bif (decide (i3 < (l0.length : Int))) then (chk (0 <= i3 /\ i3 < (l0.length : Int)) (Option.bind (q49 lo ((l0.getD i3.toNat ((0 : Int), (0 : Int), (ByteArray.mk #[]))).1) ((l0.getD i3.toNat ((0 : Int), (0 : Int), (ByteArray.mk #[]))).2.1) ((l0.getD i3.toNat ((0 : Int), (0 : Int), (ByteArray.mk #[]))).2.2)) fun y198 => bif (!y198) then (some (.inr (.inl false))) else (some (.inl (l0, (IntKind.wrap .i64 (i3 + (1 : Int)))))))) else (some (.inr (.inr ())))
theorem Ywm (lo : Lo) : ∀ x : Zt3 × Int, Yyf (⟨pf, fs50 lo, [], 0⟩ : Tabs) [] Yot You q50_L3_b x = YeD lo x := fun x => by kernel_rfl
def Yic (lo : Lo) : Zt3 × Int -> Option (Bool ⊕ Unit) := lo.run (YeD lo)
def Yid (lo : Lo) : LpE := ⟨3, [], Yot, You, Yic lo⟩
theorem Ywn {lo : Lo} (hlo : LoOK lo) (C : Ctx) (hT : TOK (⟨pf, fs50 lo, [], 0⟩ : Tabs) C) : Yx3 (fun _ => False) [] 0 C (.loop q50_L3_b.er) (Yid lo) :=
  Yak hT frNo (show LK C _ q50_L3_b from ⟨⟨tv, ⟨tv, tv⟩⟩, ⟨⟨tv, ⟨⟨tv, tv⟩, tv⟩⟩, tv⟩⟩) (fun x y h => Yal (Ywm lo) (hlo _ _ _ h))
def q50 (lo : Lo) (l0 : List (Int × Int × ByteArray)) : Option Bool :=
  Option.bind (Yic lo (l0, (0 : Int))) fun y199 => alt2 y199 (fun y200 => some y200) (fun y201 => some true)
def Yov : VCode :=
 (.seq (.reg [o 2 (.mv (kb false))])
 (.seq (.seq (.reg [o 3 (.mv (k 0))])
 (.blk 0 (.loop 3 q50_L3_b)))
 (.seq (.reg [o 2 (.mv (kb true))])
 (.fz [2] .ret))))
def Yie : VFn := ⟨true, 16, [.t 2], Yov⟩
def Yif (lo : Lo) : FnE := ⟨260, true, ⟨[0], [.l Zc4], [], (cs [.l Zc4])⟩, .b, [], (cs [.b]), (fun x => q50 lo x : Zt3 -> Option Bool)⟩
theorem Ywo (lo : Lo) : ∀ x : Zt3, evP (⟨pf, fs50 lo, [Yid lo], 0⟩ : Tabs) Yie ⟨[0], [.l Zc4], [], (cs [.l Zc4])⟩ (.b) (cs [.b]) x = q50 lo x := fun x => by kernel_rfl
theorem Ywp {P : Program} {fm : FM} {lo : Lo} (hlo : LoOK lo) (hS : Yx2 P fm ⟨pf, fs50 lo, [], 0⟩) (hm : P.follows .mixedOrders = true) (htie : Ti P fm 260 Yie) : Yx2 P fm ⟨pf, Yif lo :: fs50 lo, [], 0⟩ :=
  Yah hS hm [Yid lo] (Yif lo) rfl Yie htie (by decide) rfl (Nat.le_of_ble_eq_true (by kernel_rfl)) (fun C hT => show LK C _ Yov from ⟨tv, ⟨⟨tv, (Yye (by kernel_rfl) (Ywn hlo C (Yaf hT)))⟩, ⟨tv, tv⟩⟩⟩) (fun x y h => (Ywo lo x).trans h)
noncomputable def fs51 (lo : Lo) : List FnE := Yif lo :: fs50 lo
def q51_L3_b : VCode :=
 (.seq (.seq (.reg [mV 24 4, fD 25 2 1, lD 26 25, lN 27 26, o 28 (.bin .lss (t 24) (t 27))])
 (.cond (t 28) .skip
 (.exit 0)))
 (.seq (.blk 1 (.seq (.reg [fD 31 2 1, lD 32 31, mV 33 4, o 34 (.iad 2 (t 32) (t 33)), o 35 (.load true 2 (t 34)), o 5 (.alloc [.i .i64 0, .e Zc4]), on (.store 2 (t 5) (t 35))])
 (.seq (.seq (.reg [fD 36 0 5, lD 37 36, mV 38 3, o 39 (.bin .leq (t 37) (t 38))])
 (.cond (t 39) (.seq (.reg [o 2 (.mv (k 1))])
 (.fz [2] .ret))
 .skip))
 (.seq (.reg [fD 40 0 5, lD 41 40, mV 3 41])
 (.seq (.seq (.reg [fD 42 1 5, lD 43 42, lN 44 43, fD 45 1 1, lD 46 45, lN 47 46, o 48 (.bin .neq (t 44) (t 47))])
 (.cond (t 48) (.seq (.reg [o 2 (.mv (k 6))])
 (.fz [2] .ret))
 .skip))
 (.seq (.reg [fD 49 1 5, lD 50 49, o 51 (.call 260 [(t 50)]), o 52 (.not (t 51))])
 (.cond (t 52) (.seq (.reg [o 2 (.mv (k 1))])
 (.fz [2] .ret))
 .skip)))))))
 (.reg [mV 29 4, o 30 (.bin .add (t 29) (k 1)), mV 4 30])))
def Yow : Sg := ⟨[1, 3, 4], [.ptr 0 0 0, .i .i64, .i .i64], [.st [.s, .l (cs [.s]), .l Zc1]], (cs [I, I, .s, .l (cs [.s]), .l Zc1])⟩
def Yox : List Out1 := [⟨.ret, ⟨[2], [.i .i64], [], (cs [I])⟩⟩, ⟨.exit 0, ⟨[], [], [], (cs [])⟩⟩]
def YeE (lo : Lo) : Zp43 -> Option (Zp43 ⊕ (Int ⊕ Unit)) := fun x => match x with
  | (before3, i4, t1_0, t1_1, t1_2) => bif (decide (i4 < (t1_2.length : Int))) then (chk (0 <= i4 /\ i4 < (t1_2.length : Int)) (bif (decide ((t1_2.getD i4.toNat ((0 : Int), [])).1 <= before3)) then (some (.inr (.inl (1 : Int)))) else (bif (!decide ((((t1_2.getD i4.toNat ((0 : Int), [])).2).length : Int) = (t1_1.length : Int))) then (some (.inr (.inl (6 : Int)))) else (Option.bind (q50 lo ((t1_2.getD i4.toNat ((0 : Int), [])).2)) fun y202 => bif (!y202) then (some (.inr (.inl (1 : Int)))) else (some (.inl ((t1_2.getD i4.toNat ((0 : Int), [])).1, (IntKind.wrap .i64 (i4 + (1 : Int))), t1_0, t1_1, t1_2))))))) else (some (.inr (.inr ())))
theorem Ywq (lo : Lo) : ∀ x : Zp43, Yyf (⟨pf, fs51 lo, [], 0⟩ : Tabs) [] Yow Yox q51_L3_b x = YeE lo x := fun x => by kernel_rfl
def Yig (lo : Lo) : Zp43 -> Option (Int ⊕ Unit) := lo.run (YeE lo)
def Yih (lo : Lo) : LpE := ⟨3, [], Yow, Yox, Yig lo⟩
theorem Ywr {lo : Lo} (hlo : LoOK lo) (C : Ctx) (hT : TOK (⟨pf, fs51 lo, [], 0⟩ : Tabs) C) : Yx3 (fun _ => False) [] 0 C (.loop q51_L3_b.er) (Yih lo) :=
  Yak hT frNo (show LK C _ q51_L3_b from ⟨⟨tv, ⟨tv, tv⟩⟩, ⟨⟨tv, ⟨⟨tv, ⟨⟨tv, tv⟩, tv⟩⟩, ⟨tv, ⟨⟨tv, ⟨⟨tv, tv⟩, tv⟩⟩, ⟨tv, ⟨⟨tv, tv⟩, tv⟩⟩⟩⟩⟩⟩, tv⟩⟩) (fun x y h => Yal (Ywq lo) (hlo _ _ _ h))
def q51 (lo : Lo) (t0_0 : ByteArray) (t0_1 : List ByteArray) (t0_2 : List (Int × Zt3)) : Option Int :=
  Option.bind (q46 lo t0_0) fun y188 => bif (!y188) then (some (1 : Int)) else (bif (decide ((16 : Int) < (t0_1.length : Int))) then (some (3 : Int)) else (bif (decide ((1000 : Int) < (t0_2.length : Int))) then (some (3 : Int)) else (Option.bind (q48 lo t0_1) fun y197 => bif (!y197) then (some (1 : Int)) else (Option.bind (Yig lo ((0 : Int), (0 : Int), t0_0, t0_1, t0_2)) fun y203 => alt2 y203 (fun y204 => some y204) (fun y205 => some (0 : Int))))))
def Yoy : VCode :=
 (.seq (.reg [o 1 (.box (t 0)), o 2 (.mv (k 0))])
 (.seq (.seq (.reg [fD 6 0 1, lD 7 6, o 8 (.call 258 [(t 7)]), o 9 (.not (t 8))])
 (.cond (t 9) (.seq (.reg [o 2 (.mv (k 1))])
 (.fz [2] .ret))
 .skip))
 (.seq (.seq (.reg [fD 10 1 1, lD 11 10, lN 12 11, o 13 (.bin .gtr (t 12) (k 16)), mV 14 13, og 15 14 false (.fad 2 (t 1)), og 16 14 false (.load false 1 (t 15)), og 17 14 false (.len (t 16)), og 18 14 false (.bin .gtr (t 17) (k 1000)), o 19 (.pick (t 14) (kb true) (t 18))])
 (.cond (t 19) (.seq (.reg [o 2 (.mv (k 3))])
 (.fz [2] .ret))
 .skip))
 (.seq (.seq (.reg [fD 20 1 1, lD 21 20, o 22 (.call 259 [(t 21)]), o 23 (.not (t 22))])
 (.cond (t 23) (.seq (.reg [o 2 (.mv (k 1))])
 (.fz [2] .ret))
 .skip))
 (.seq (.reg [o 3 (.mv (k 0))])
 (.seq (.seq (.reg [o 4 (.mv (k 0))])
 (.blk 0 (.loop 3 q51_L3_b)))
 (.seq (.reg [o 2 (.mv (k 0))])
 (.fz [2] .ret))))))))
def Yii : VFn := ⟨true, 53, [.t 2], Yoy⟩
def Yij (lo : Lo) : FnE := ⟨231, true, ⟨[0], [.ag [.s, .l (cs [.s]), .l Zc1]], [], Zc11⟩, .i .i64, [], (cs [I]), (fun x => q51 lo x.1 x.2.1 x.2.2 : ByteArray × Zt2 × Zt0 -> Option Int)⟩
theorem Yws (lo : Lo) : ∀ x : ByteArray × Zt2 × Zt0, evP (⟨pf, fs51 lo, [Yih lo], 0⟩ : Tabs) Yii ⟨[0], [.ag [.s, .l (cs [.s]), .l Zc1]], [], Zc11⟩ (.i .i64) (cs [I]) x = q51 lo x.1 x.2.1 x.2.2 := fun x => by kernel_rfl
theorem Ywt {P : Program} {fm : FM} {lo : Lo} (hlo : LoOK lo) (hS : Yx2 P fm ⟨pf, fs51 lo, [], 0⟩) (hm : P.follows .mixedOrders = true) (htie : Ti P fm 231 Yii) : Yx2 P fm ⟨pf, Yij lo :: fs51 lo, [], 0⟩ :=
  Yah hS hm [Yih lo] (Yij lo) rfl Yii htie (by decide) rfl (Nat.le_of_ble_eq_true (by kernel_rfl)) (fun C hT => show LK C _ Yoy from ⟨tv, ⟨⟨tv, ⟨⟨tv, tv⟩, tv⟩⟩, ⟨⟨tv, ⟨⟨tv, tv⟩, tv⟩⟩, ⟨⟨tv, ⟨⟨tv, tv⟩, tv⟩⟩, ⟨tv, ⟨⟨tv, (Yye (by kernel_rfl) (Ywr hlo C (Yaf hT)))⟩, ⟨tv, tv⟩⟩⟩⟩⟩⟩⟩) (fun x y h => (Yws lo x).trans h)
noncomputable def fs52 (lo : Lo) : List FnE := Yij lo :: fs51 lo
noncomputable def fs53 (lo : Lo) : List FnE := fs52 lo
end Go.Abs.G03
namespace Go.Abs.G03
open Go Go.Abs
set_option maxRecDepth 100000
set_option maxHeartbeats 1000000
def q53 (lo : Lo) (t0_0 : ByteArray) (t0_1 : List ByteArray) (t0_2 : List (Int × Zt3)) : Option Bool :=
  bif (decide ((t0_2.length : Int) <= (12 : Int))) then (some (decide ((t0_1.length : Int) <= (20 : Int)))) else (some false)
def Yoz : VCode :=
 (.seq (.reg [o 1 (.box (t 0)), o 2 (.mv (kb false))])
 (.seq (.reg [fD 3 2 1, lD 4 3, lN 5 4, o 6 (.bin .leq (t 5) (k 12)), mV 7 6, og 8 7 true (.fad 1 (t 1)), og 9 7 true (.load false 1 (t 8)), og 10 7 true (.len (t 9)), og 11 7 true (.bin .leq (t 10) (k 20)), o 12 (.pick (t 7) (t 11) (kb false)), mV 2 12])
 (.fz [2] .ret)))
def Yik : VFn := ⟨true, 13, [.t 2], Yoz⟩
def Yil (lo : Lo) : FnE := ⟨232, true, ⟨[0], [.ag [.s, .l (cs [.s]), .l Zc1]], [], Zc11⟩, .b, [], (cs [.b]), (fun x => q53 lo x.1 x.2.1 x.2.2 : ByteArray × Zt2 × Zt0 -> Option Bool)⟩
theorem Ywu (lo : Lo) : ∀ x : ByteArray × Zt2 × Zt0, evP (⟨pf, fs53 lo, [], 0⟩ : Tabs) Yik ⟨[0], [.ag [.s, .l (cs [.s]), .l Zc1]], [], Zc11⟩ (.b) (cs [.b]) x = q53 lo x.1 x.2.1 x.2.2 := fun x => by kernel_rfl
theorem Ywv {P : Program} {fm : FM} {lo : Lo} (hlo : LoOK lo) (hS : Yx2 P fm ⟨pf, fs53 lo, [], 0⟩) (hm : P.follows .mixedOrders = true) (htie : Ti P fm 232 Yik) : Yx2 P fm ⟨pf, Yil lo :: fs53 lo, [], 0⟩ :=
  Yah hS hm [] (Yil lo) rfl Yik htie (by decide) rfl (Nat.le_of_ble_eq_true (by kernel_rfl)) (fun C hT => show LK C _ Yoz from ⟨tv, ⟨tv, tv⟩⟩) (fun x y h => (Ywu lo x).trans h)
noncomputable def fs54 (lo : Lo) : List FnE := Yil lo :: fs53 lo
noncomputable def fs55 (lo : Lo) : List FnE := fs54 lo
noncomputable def fs56 (lo : Lo) : List FnE := fs55 lo
noncomputable def fs57 (lo : Lo) : List FnE := fs56 lo
def q57 (lo : Lo) (a0 : Int) (b1 : Int) : Option Int :=
  bif (decide (a0 < b1)) then (some (-1 : Int)) else (bif (decide (b1 < a0)) then (some (1 : Int)) else (some (0 : Int)))
def YoA : VCode :=
 (.seq (.reg [o 4 (.mv (k 0))])
 (.seq (.seq (.reg [mV 5 0, mV 6 1, o 7 (.bin .lss (t 5) (t 6))])
 (.cond (t 7) (.seq (.reg [o 4 (.mv (k (-1)))])
 (.fz [4] .ret))
 .skip))
 (.seq (.seq (.reg [mV 8 0, mV 9 1, o 10 (.bin .gtr (t 8) (t 9))])
 (.cond (t 10) (.seq (.reg [o 4 (.mv (k 1))])
 (.fz [4] .ret))
 .skip))
 (.seq (.reg [o 4 (.mv (k 0))])
 (.fz [4] .ret)))))
def Yim : VFn := ⟨true, 11, [.t 4], YoA⟩
def Yin (lo : Lo) : FnE := ⟨303, true, ⟨[0, 1], [.i .i64, .i .i64], [], (cs [I, I])⟩, .i .i64, [], (cs [I]), (fun x => q57 lo x.1 x.2 : Int × Int -> Option Int)⟩
theorem Yww (lo : Lo) : ∀ x : Int × Int, evP (⟨pf, fs57 lo, [], 0⟩ : Tabs) Yim ⟨[0, 1], [.i .i64, .i .i64], [], (cs [I, I])⟩ (.i .i64) (cs [I]) x = q57 lo x.1 x.2 := fun x => by kernel_rfl
theorem Ywx {P : Program} {fm : FM} {lo : Lo} (hlo : LoOK lo) (hS : Yx2 P fm ⟨pf, fs57 lo, [], 0⟩) (hm : P.follows .mixedOrders = true) (htie : Ti P fm 303 Yim) : Yx2 P fm ⟨pf, Yin lo :: fs57 lo, [], 0⟩ :=
  Yah hS hm [] (Yin lo) rfl Yim htie (by decide) rfl (Nat.le_of_ble_eq_true (by kernel_rfl)) (fun C hT => show LK C _ YoA from ⟨tv, ⟨⟨tv, ⟨⟨tv, tv⟩, tv⟩⟩, ⟨⟨tv, ⟨⟨tv, tv⟩, tv⟩⟩, ⟨tv, tv⟩⟩⟩⟩) (fun x y h => (Yww lo x).trans h)
noncomputable def fs58 (lo : Lo) : List FnE := Yin lo :: fs57 lo
def q58_L3_b : VCode :=
 (.seq (.seq (.reg [mV 6 5, mV 7 0, o 8 (.lenS (t 7)), o 9 (.bin .lss (t 6) (t 8)), mV 10 9, og 11 10 true (.mv (t 5)), og 12 10 true (.mv (t 1)), og 13 10 true (.lenS (t 12)), og 14 10 true (.bin .lss (t 11) (t 13)), o 15 (.pick (t 10) (t 14) (kb false))])
 (.cond (t 15) .skip
 (.exit 0)))
 (.seq (.blk 1 (.seq (.reg [mV 18 0, mV 19 5, o 20 (.idx (t 18) (t 19)), mV 21 1, mV 22 5, o 23 (.idx (t 21) (t 22)), o 24 (.bin .neq (t 20) (t 23))])
 (.cond (t 24) (.seq (.reg [mV 25 0, mV 26 5, o 27 (.idx (t 25) (t 26)), o 28 (.conv .i64 (t 27)), mV 29 1, mV 30 5, o 31 (.idx (t 29) (t 30)), o 32 (.conv .i64 (t 31)), o 33 (.call 303 [(t 28), (t 32)]), mV 4 33])
 (.fz [4] .ret))
 .skip)))
 (.reg [mV 16 5, o 17 (.bin .add (t 16) (k 1)), mV 5 17])))
def YoB : Sg := ⟨[0, 1, 5], [.s, .s, .i .i64], [], (cs [.s, .s, I])⟩
def YoC : List Out1 := [⟨.ret, ⟨[4], [.i .i64], [], (cs [I])⟩⟩, ⟨.exit 0, ⟨[0, 1], [.s, .s], [], (cs [.s, .s])⟩⟩]
def Yc4 (lo : Lo) : ByteArray × ByteArray × Int -> Option ((ByteArray × ByteArray × Int) ⊕ (Int ⊕ (ByteArray × ByteArray))) := fun x => match x with
  | (a0, b1, i5) => bif (decide (i5 < (a0.size : Int))) then (bif (decide (i5 < (b1.size : Int))) then (chk (0 <= i5 /\ i5 < (a0.size : Int)) (chk (0 <= i5 /\ i5 < (b1.size : Int)) (bif (!decide ((Yx5 a0 i5) = (Yx5 b1 i5))) then (chk (0 <= i5 /\ i5 < (a0.size : Int)) (chk (0 <= i5 /\ i5 < (b1.size : Int)) (Option.bind (q57 lo (IntKind.wrap .i64 (Yx5 a0 i5)) (IntKind.wrap .i64 (Yx5 b1 i5))) fun y222 => some (.inr (.inl y222))))) else (some (.inl (a0, b1, (IntKind.wrap .i64 (i5 + (1 : Int))))))))) else (some (.inr (.inr (a0, b1))))) else (some (.inr (.inr (a0, b1))))
theorem Ywy (lo : Lo) : ∀ x : ByteArray × ByteArray × Int, Yyf (⟨pf, fs58 lo, [], 0⟩ : Tabs) [] YoB YoC q58_L3_b x = Yc4 lo x := fun x => by kernel_rfl
def Yio (lo : Lo) : ByteArray × ByteArray × Int -> Option (Int ⊕ (ByteArray × ByteArray)) := lo.run (Yc4 lo)
def Yip (lo : Lo) : LpE := ⟨3, [], YoB, YoC, Yio lo⟩
theorem Ywz {lo : Lo} (hlo : LoOK lo) (C : Ctx) (hT : TOK (⟨pf, fs58 lo, [], 0⟩ : Tabs) C) : Yx3 (fun _ => False) [] 0 C (.loop q58_L3_b.er) (Yip lo) :=
  Yak hT frNo (show LK C _ q58_L3_b from ⟨⟨tv, ⟨tv, tv⟩⟩, ⟨⟨tv, ⟨⟨tv, tv⟩, tv⟩⟩, tv⟩⟩) (fun x y h => Yal (Ywy lo) (hlo _ _ _ h))
def q58 (lo : Lo) (a0 : ByteArray) (b1 : ByteArray) : Option Int :=
  Option.bind (Yio lo (a0, b1, (0 : Int))) fun y223 => alt2 y223 (fun y224 => some y224) (fun y225 => Option.bind (q57 lo (y225.1.size : Int) (y225.2.size : Int)) fun y226 => some y226)
def YoD : VCode :=
 (.seq (.reg [o 4 (.mv (k 0))])
 (.seq (.seq (.reg [o 5 (.mv (k 0))])
 (.blk 0 (.loop 3 q58_L3_b)))
 (.seq (.reg [mV 34 0, o 35 (.lenS (t 34)), mV 36 1, o 37 (.lenS (t 36)), o 38 (.call 303 [(t 35), (t 37)]), mV 4 38])
 (.fz [4] .ret))))
def Yiq : VFn := ⟨true, 39, [.t 4], YoD⟩
def Yir (lo : Lo) : FnE := ⟨320, true, ⟨[0, 1], [.s, .s], [], (cs [.s, .s])⟩, .i .i64, [], (cs [I]), (fun x => q58 lo x.1 x.2 : ByteArray × ByteArray -> Option Int)⟩
theorem YwA (lo : Lo) : ∀ x : ByteArray × ByteArray, evP (⟨pf, fs58 lo, [Yip lo], 0⟩ : Tabs) Yiq ⟨[0, 1], [.s, .s], [], (cs [.s, .s])⟩ (.i .i64) (cs [I]) x = q58 lo x.1 x.2 := fun x => by kernel_rfl
theorem YwB {P : Program} {fm : FM} {lo : Lo} (hlo : LoOK lo) (hS : Yx2 P fm ⟨pf, fs58 lo, [], 0⟩) (hm : P.follows .mixedOrders = true) (htie : Ti P fm 320 Yiq) : Yx2 P fm ⟨pf, Yir lo :: fs58 lo, [], 0⟩ :=
  Yah hS hm [Yip lo] (Yir lo) rfl Yiq htie (by decide) rfl (Nat.le_of_ble_eq_true (by kernel_rfl)) (fun C hT => show LK C _ YoD from ⟨tv, ⟨⟨tv, (Yye (by kernel_rfl) (Ywz hlo C (Yaf hT)))⟩, ⟨tv, tv⟩⟩⟩) (fun x y h => (YwA lo x).trans h)
noncomputable def fs59 (lo : Lo) : List FnE := Yir lo :: fs58 lo
def q59 (lo : Lo) (a0_0 : Int) (a0_1 : Int) (a0_2 : ByteArray) (b1_0 : Int) (b1_1 : Int) (b1_2 : ByteArray) : Option Int :=
  Option.bind (q57 lo a0_0 b1_0) fun y220 => bif (!decide (y220 = (0 : Int))) then (some y220) else (Option.bind (q57 lo a0_1 b1_1) fun y221 => bif (!decide (y221 = (0 : Int))) then (some y221) else (Option.bind (q58 lo a0_2 b1_2) fun y227 => some y227))
def YoE : VCode :=
 (.seq (.reg [o 2 (.box (t 0)), o 3 (.box (t 1)), o 4 (.mv (k 0))])
 (.seq (.seq (.reg [fD 7 0 2, lD 8 7, fD 9 0 3, lD 10 9, o 11 (.call 303 [(t 8), (t 10)]), mV 5 11])
 (.seq (.reg [mV 12 5, o 13 (.bin .neq (t 12) (k 0))])
 (.cond (t 13) (.seq (.reg [mV 14 5, mV 4 14])
 (.fz [4] .ret))
 .skip)))
 (.seq (.seq (.reg [fD 15 1 2, lD 16 15, fD 17 1 3, lD 18 17, o 19 (.call 303 [(t 16), (t 18)]), mV 6 19])
 (.seq (.reg [mV 20 6, o 21 (.bin .neq (t 20) (k 0))])
 (.cond (t 21) (.seq (.reg [mV 22 6, mV 4 22])
 (.fz [4] .ret))
 .skip)))
 (.seq (.reg [fD 23 2 2, lD 24 23, fD 25 2 3, lD 26 25, o 27 (.call 320 [(t 24), (t 26)]), mV 4 27])
 (.fz [4] .ret)))))
def Yis : VFn := ⟨true, 28, [.t 4], YoE⟩
def Yit (lo : Lo) : FnE := ⟨302, true, ⟨[0, 1], [.ag [.i .i64, .i .i64, .s], .ag [.i .i64, .i .i64, .s]], [], (cs [I, I, .s, I, I, .s])⟩, .i .i64, [], (cs [I]), (fun x => q59 lo x.1 x.2.1 x.2.2.1 x.2.2.2.1 x.2.2.2.2.1 x.2.2.2.2.2 : Int × Int × ByteArray × Int × Int × ByteArray -> Option Int)⟩
theorem YwC (lo : Lo) : ∀ x : Int × Int × ByteArray × Int × Int × ByteArray, evP (⟨pf, fs59 lo, [], 0⟩ : Tabs) Yis ⟨[0, 1], [.ag [.i .i64, .i .i64, .s], .ag [.i .i64, .i .i64, .s]], [], (cs [I, I, .s, I, I, .s])⟩ (.i .i64) (cs [I]) x = q59 lo x.1 x.2.1 x.2.2.1 x.2.2.2.1 x.2.2.2.2.1 x.2.2.2.2.2 := fun x => by kernel_rfl
theorem YwD {P : Program} {fm : FM} {lo : Lo} (hlo : LoOK lo) (hS : Yx2 P fm ⟨pf, fs59 lo, [], 0⟩) (hm : P.follows .mixedOrders = true) (htie : Ti P fm 302 Yis) : Yx2 P fm ⟨pf, Yit lo :: fs59 lo, [], 0⟩ :=
  Yah hS hm [] (Yit lo) rfl Yis htie (by decide) rfl (Nat.le_of_ble_eq_true (by kernel_rfl)) (fun C hT => show LK C _ YoE from ⟨tv, ⟨⟨tv, ⟨tv, ⟨⟨tv, tv⟩, tv⟩⟩⟩, ⟨⟨tv, ⟨tv, ⟨⟨tv, tv⟩, tv⟩⟩⟩, ⟨tv, tv⟩⟩⟩⟩) (fun x y h => (YwC lo x).trans h)
noncomputable def fs60 (lo : Lo) : List FnE := Yit lo :: fs59 lo
def q60_L3_b : VCode :=
 (.seq (.seq (.reg [mV 7 5, mV 8 0, lN 9 8, o 10 (.bin .lss (t 7) (t 9)), mV 11 10, og 12 11 true (.mv (t 5)), og 13 11 true (.mv (t 1)), og 14 11 true (.len (t 13)), og 15 11 true (.bin .lss (t 12) (t 14)), o 16 (.pick (t 11) (t 15) (kb false))])
 (.cond (t 16) .skip
 (.exit 0)))
 (.seq (.blk 1 (.seq (.reg [mV 19 0, mV 20 5, o 21 (.iad 3 (t 19) (t 20)), o 22 (.load true 3 (t 21)), mV 23 1, mV 24 5, o 25 (.iad 3 (t 23) (t 24)), o 26 (.load true 3 (t 25)), o 27 (.call 302 [(t 22), (t 26)]), mV 6 27])
 (.seq (.reg [mV 28 6, o 29 (.bin .neq (t 28) (k 0))])
 (.cond (t 29) (.seq (.reg [mV 30 6, mV 4 30])
 (.fz [4] .ret))
 .skip))))
 (.reg [mV 17 5, o 18 (.bin .add (t 17) (k 1)), mV 5 18])))
def YoF : Sg := ⟨[0, 1, 5], [.l Zc4, .l Zc4, .i .i64], [], (cs [.l Zc4, .l Zc4, I])⟩
def YoG : List Out1 := [⟨.ret, ⟨[4], [.i .i64], [], (cs [I])⟩⟩, ⟨.exit 0, ⟨[0, 1], [.l Zc4, .l Zc4], [], (cs [.l Zc4, .l Zc4])⟩⟩]
def Yc5 (lo : Lo) : Zt3 × Zt3 × Int -> Option ((Zt3 × Zt3 × Int) ⊕ (Int ⊕ (Zt3 × Zt3))) := fun x => match x with
  | (a0, b1, i5) => bif (decide (i5 < (a0.length : Int))) then (bif (decide (i5 < (b1.length : Int))) then (chk (0 <= i5 /\ i5 < (a0.length : Int)) (chk (0 <= i5 /\ i5 < (b1.length : Int)) (Option.bind (q59 lo ((a0.getD i5.toNat ((0 : Int), (0 : Int), (ByteArray.mk #[]))).1) ((a0.getD i5.toNat ((0 : Int), (0 : Int), (ByteArray.mk #[]))).2.1) ((a0.getD i5.toNat ((0 : Int), (0 : Int), (ByteArray.mk #[]))).2.2) ((b1.getD i5.toNat ((0 : Int), (0 : Int), (ByteArray.mk #[]))).1) ((b1.getD i5.toNat ((0 : Int), (0 : Int), (ByteArray.mk #[]))).2.1) ((b1.getD i5.toNat ((0 : Int), (0 : Int), (ByteArray.mk #[]))).2.2)) fun y228 => bif (!decide (y228 = (0 : Int))) then (some (.inr (.inl y228))) else (some (.inl (a0, b1, (IntKind.wrap .i64 (i5 + (1 : Int))))))))) else (some (.inr (.inr (a0, b1))))) else (some (.inr (.inr (a0, b1))))
theorem YwE (lo : Lo) : ∀ x : Zt3 × Zt3 × Int, Yyf (⟨pf, fs60 lo, [], 0⟩ : Tabs) [] YoF YoG q60_L3_b x = Yc5 lo x := fun x => by kernel_rfl
def Yiu (lo : Lo) : Zt3 × Zt3 × Int -> Option (Int ⊕ (Zt3 × Zt3)) := lo.run (Yc5 lo)
def Yiv (lo : Lo) : LpE := ⟨3, [], YoF, YoG, Yiu lo⟩
theorem YwF {lo : Lo} (hlo : LoOK lo) (C : Ctx) (hT : TOK (⟨pf, fs60 lo, [], 0⟩ : Tabs) C) : Yx3 (fun _ => False) [] 0 C (.loop q60_L3_b.er) (Yiv lo) :=
  Yak hT frNo (show LK C _ q60_L3_b from ⟨⟨tv, ⟨tv, tv⟩⟩, ⟨⟨tv, ⟨tv, ⟨⟨tv, tv⟩, tv⟩⟩⟩, tv⟩⟩) (fun x y h => Yal (YwE lo) (hlo _ _ _ h))
def q60 (lo : Lo) (a0 : List (Int × Int × ByteArray)) (b1 : List (Int × Int × ByteArray)) : Option Int :=
  Option.bind (Yiu lo (a0, b1, (0 : Int))) fun y229 => alt2 y229 (fun y230 => some y230) (fun y231 => Option.bind (q57 lo (y231.1.length : Int) (y231.2.length : Int)) fun y232 => some y232)
def YoH : VCode :=
 (.seq (.reg [o 4 (.mv (k 0))])
 (.seq (.seq (.reg [o 5 (.mv (k 0))])
 (.blk 0 (.loop 3 q60_L3_b)))
 (.seq (.reg [mV 31 0, lN 32 31, mV 33 1, lN 34 33, o 35 (.call 303 [(t 32), (t 34)]), mV 4 35])
 (.fz [4] .ret))))
def Yiw : VFn := ⟨true, 36, [.t 4], YoH⟩
def Yix (lo : Lo) : FnE := ⟨274, true, ⟨[0, 1], [.l Zc4, .l Zc4], [], (cs [.l Zc4, .l Zc4])⟩, .i .i64, [], (cs [I]), (fun x => q60 lo x.1 x.2 : Zt3 × Zt3 -> Option Int)⟩
theorem YwG (lo : Lo) : ∀ x : Zt3 × Zt3, evP (⟨pf, fs60 lo, [Yiv lo], 0⟩ : Tabs) Yiw ⟨[0, 1], [.l Zc4, .l Zc4], [], (cs [.l Zc4, .l Zc4])⟩ (.i .i64) (cs [I]) x = q60 lo x.1 x.2 := fun x => by kernel_rfl
theorem YwH {P : Program} {fm : FM} {lo : Lo} (hlo : LoOK lo) (hS : Yx2 P fm ⟨pf, fs60 lo, [], 0⟩) (hm : P.follows .mixedOrders = true) (htie : Ti P fm 274 Yiw) : Yx2 P fm ⟨pf, Yix lo :: fs60 lo, [], 0⟩ :=
  Yah hS hm [Yiv lo] (Yix lo) rfl Yiw htie (by decide) rfl (Nat.le_of_ble_eq_true (by kernel_rfl)) (fun C hT => show LK C _ YoH from ⟨tv, ⟨⟨tv, (Yye (by kernel_rfl) (YwF hlo C (Yaf hT)))⟩, ⟨tv, tv⟩⟩⟩) (fun x y h => (YwG lo x).trans h)
noncomputable def fs61 (lo : Lo) : List FnE := Yix lo :: fs60 lo
def q61 (lo : Lo) (a0 : List (Int × Int × ByteArray)) (b1 : List (Int × Int × ByteArray)) : Option Bool :=
  Option.bind (q60 lo a0 b1) fun y233 => some (decide (y233 = (0 : Int)))
def YoI : VCode :=
 (.seq (.reg [o 4 (.mv (kb false))])
 (.seq (.reg [mV 5 0, mV 6 1, o 7 (.call 274 [(t 5), (t 6)]), o 8 (.bin .eql (t 7) (k 0)), mV 4 8])
 (.fz [4] .ret)))
def Yiy : VFn := ⟨true, 9, [.t 4], YoI⟩
def Yiz (lo : Lo) : FnE := ⟨297, true, ⟨[0, 1], [.l Zc4, .l Zc4], [], (cs [.l Zc4, .l Zc4])⟩, .b, [], (cs [.b]), (fun x => q61 lo x.1 x.2 : Zt3 × Zt3 -> Option Bool)⟩
theorem YwI (lo : Lo) : ∀ x : Zt3 × Zt3, evP (⟨pf, fs61 lo, [], 0⟩ : Tabs) Yiy ⟨[0, 1], [.l Zc4, .l Zc4], [], (cs [.l Zc4, .l Zc4])⟩ (.b) (cs [.b]) x = q61 lo x.1 x.2 := fun x => by kernel_rfl
theorem YwJ {P : Program} {fm : FM} {lo : Lo} (hlo : LoOK lo) (hS : Yx2 P fm ⟨pf, fs61 lo, [], 0⟩) (hm : P.follows .mixedOrders = true) (htie : Ti P fm 297 Yiy) : Yx2 P fm ⟨pf, Yiz lo :: fs61 lo, [], 0⟩ :=
  Yah hS hm [] (Yiz lo) rfl Yiy htie (by decide) rfl (Nat.le_of_ble_eq_true (by kernel_rfl)) (fun C hT => show LK C _ YoI from ⟨tv, ⟨tv, tv⟩⟩) (fun x y h => (YwI lo x).trans h)
noncomputable def fs62 (lo : Lo) : List FnE := Yiz lo :: fs61 lo
def q62_L3_b : VCode :=
 (.seq (.seq (.reg [mV 6 5, mV 7 0, lN 8 7, o 9 (.bin .lss (t 6) (t 8))])
 (.cond (t 9) .skip
 (.exit 0)))
 (.seq (.blk 1 (.seq (.reg [mV 12 0, mV 13 5, o 14 (.iad 2 (t 12) (t 13)), fD 15 1 14, lD 16 15, mV 17 1, o 18 (.call 297 [(t 16), (t 17)])])
 (.cond (t 18) (.seq (.reg [o 4 (.mv (kb true))])
 (.fz [4] .ret))
 .skip)))
 (.reg [mV 10 5, o 11 (.bin .add (t 10) (k 1)), mV 5 11])))
def YoJ : Sg := ⟨[0, 1, 5], [.l Zc1, .l Zc4, .i .i64], [], (cs [.l Zc1, .l Zc4, I])⟩
def YoK : List Out1 := [⟨.ret, ⟨[4], [.b], [], (cs [.b])⟩⟩, ⟨.exit 0, ⟨[], [], [], (cs [])⟩⟩]
def YeF (lo : Lo) : Zt0 × Zt3 × Int -> Option ((Zt0 × Zt3 × Int) ⊕ (Bool ⊕ Unit)) := fun x => match x with
  | (rows0, l1, i5) => bif (decide (i5 < (rows0.length : Int))) then (chk (0 <= i5 /\ i5 < (rows0.length : Int)) (Option.bind (q61 lo ((rows0.getD i5.toNat ((0 : Int), [])).2) l1) fun y234 => bif y234 then (some (.inr (.inl true))) else (some (.inl (rows0, l1, (IntKind.wrap .i64 (i5 + (1 : Int)))))))) else (some (.inr (.inr ())))
theorem YwK (lo : Lo) : ∀ x : Zt0 × Zt3 × Int, Yyf (⟨pf, fs62 lo, [], 0⟩ : Tabs) [] YoJ YoK q62_L3_b x = YeF lo x := fun x => by kernel_rfl
def YiA (lo : Lo) : Zt0 × Zt3 × Int -> Option (Bool ⊕ Unit) := lo.run (YeF lo)
def YiB (lo : Lo) : LpE := ⟨3, [], YoJ, YoK, YiA lo⟩
theorem YwL {lo : Lo} (hlo : LoOK lo) (C : Ctx) (hT : TOK (⟨pf, fs62 lo, [], 0⟩ : Tabs) C) : Yx3 (fun _ => False) [] 0 C (.loop q62_L3_b.er) (YiB lo) :=
  Yak hT frNo (show LK C _ q62_L3_b from ⟨⟨tv, ⟨tv, tv⟩⟩, ⟨⟨tv, ⟨⟨tv, tv⟩, tv⟩⟩, tv⟩⟩) (fun x y h => Yal (YwK lo) (hlo _ _ _ h))
def q62 (lo : Lo) (rows0 : List (Int × Zt3)) (l1 : List (Int × Int × ByteArray)) : Option Bool :=
  Option.bind (YiA lo (rows0, l1, (0 : Int))) fun y235 => alt2 y235 (fun y236 => some y236) (fun y237 => some false)
def YoL : VCode :=
 (.seq (.reg [o 4 (.mv (kb false))])
 (.seq (.seq (.reg [o 5 (.mv (k 0))])
 (.blk 0 (.loop 3 q62_L3_b)))
 (.seq (.reg [o 4 (.mv (kb false))])
 (.fz [4] .ret))))
def YiC : VFn := ⟨true, 19, [.t 4], YoL⟩
def YiD (lo : Lo) : FnE := ⟨264, true, ⟨[0, 1], [.l Zc1, .l Zc4], [], (cs [.l Zc1, .l Zc4])⟩, .b, [], (cs [.b]), (fun x => q62 lo x.1 x.2 : Zt0 × Zt3 -> Option Bool)⟩
theorem YwM (lo : Lo) : ∀ x : Zt0 × Zt3, evP (⟨pf, fs62 lo, [YiB lo], 0⟩ : Tabs) YiC ⟨[0, 1], [.l Zc1, .l Zc4], [], (cs [.l Zc1, .l Zc4])⟩ (.b) (cs [.b]) x = q62 lo x.1 x.2 := fun x => by kernel_rfl
theorem YwN {P : Program} {fm : FM} {lo : Lo} (hlo : LoOK lo) (hS : Yx2 P fm ⟨pf, fs62 lo, [], 0⟩) (hm : P.follows .mixedOrders = true) (htie : Ti P fm 264 YiC) : Yx2 P fm ⟨pf, YiD lo :: fs62 lo, [], 0⟩ :=
  Yah hS hm [YiB lo] (YiD lo) rfl YiC htie (by decide) rfl (Nat.le_of_ble_eq_true (by kernel_rfl)) (fun C hT => show LK C _ YoL from ⟨tv, ⟨⟨tv, (Yye (by kernel_rfl) (YwL hlo C (Yaf hT)))⟩, ⟨tv, tv⟩⟩⟩) (fun x y h => (YwM lo x).trans h)
noncomputable def fs63 (lo : Lo) : List FnE := YiD lo :: fs62 lo
noncomputable def fs64 (lo : Lo) : List FnE := fs63 lo
def q64_L3_b : VCode :=
 (.seq (.seq (.reg [mV 11 5, mV 12 0, lN 13 12, o 14 (.bin .lss (t 11) (t 13))])
 (.cond (t 14) .skip
 (.exit 0)))
 (.seq (.blk 1 (.seq (.reg [mV 17 0, mV 18 5, o 19 (.iad 1 (t 17) (t 18)), lD 20 19, mV 21 1, mV 22 5, o 23 (.iad 1 (t 21) (t 22)), lD 24 23, o 25 (.bin .neq (t 20) (t 24))])
 (.cond (t 25) (.seq (.reg [o 4 (.mv (kb false))])
 (.fz [4] .ret))
 .skip)))
 (.reg [mV 15 5, o 16 (.bin .add (t 15) (k 1)), mV 5 16])))
def YoM : Sg := ⟨[0, 1, 5], [.l (cs [.s]), .l (cs [.s]), .i .i64], [], (cs [.l (cs [.s]), .l (cs [.s]), I])⟩
def YoN : List Out1 := [⟨.ret, ⟨[4], [.b], [], (cs [.b])⟩⟩, ⟨.exit 0, ⟨[], [], [], (cs [])⟩⟩]
def YeG (lo : Lo) : Zt2 × Zt2 × Int -> Option ((Zt2 × Zt2 × Int) ⊕ (Bool ⊕ Unit)) := fun x => match x with
  | (a0, b1, i5) => bif (decide (i5 < (a0.length : Int))) then (chk (0 <= i5 /\ i5 < (a0.length : Int)) (chk (0 <= i5 /\ i5 < (b1.length : Int)) (bif (!decide ((a0.getD i5.toNat (ByteArray.mk #[])) = (b1.getD i5.toNat (ByteArray.mk #[])))) then (some (.inr (.inl false))) else (some (.inl (a0, b1, (IntKind.wrap .i64 (i5 + (1 : Int))))))))) else (some (.inr (.inr ())))
theorem YwO (lo : Lo) : ∀ x : Zt2 × Zt2 × Int, Yyf (⟨pf, fs64 lo, [], 0⟩ : Tabs) [] YoM YoN q64_L3_b x = YeG lo x := fun x => by kernel_rfl
def YiE (lo : Lo) : Zt2 × Zt2 × Int -> Option (Bool ⊕ Unit) := lo.run (YeG lo)
def YiF (lo : Lo) : LpE := ⟨3, [], YoM, YoN, YiE lo⟩
theorem YwP {lo : Lo} (hlo : LoOK lo) (C : Ctx) (hT : TOK (⟨pf, fs64 lo, [], 0⟩ : Tabs) C) : Yx3 (fun _ => False) [] 0 C (.loop q64_L3_b.er) (YiF lo) :=
  Yak hT frNo (show LK C _ q64_L3_b from ⟨⟨tv, ⟨tv, tv⟩⟩, ⟨⟨tv, ⟨⟨tv, tv⟩, tv⟩⟩, tv⟩⟩) (fun x y h => Yal (YwO lo) (hlo _ _ _ h))
def q64 (lo : Lo) (a0 : List ByteArray) (b1 : List ByteArray) : Option Bool :=
  bif (!decide ((a0.length : Int) = (b1.length : Int))) then (some false) else (Option.bind (YiE lo (a0, b1, (0 : Int))) fun y241 => alt2 y241 (fun y242 => some y242) (fun y243 => some true))
def YoO : VCode :=
 (.seq (.reg [o 4 (.mv (kb false))])
 (.seq (.seq (.reg [mV 6 0, lN 7 6, mV 8 1, lN 9 8, o 10 (.bin .neq (t 7) (t 9))])
 (.cond (t 10) (.seq (.reg [o 4 (.mv (kb false))])
 (.fz [4] .ret))
 .skip))
 (.seq (.seq (.reg [o 5 (.mv (k 0))])
 (.blk 0 (.loop 3 q64_L3_b)))
 (.seq (.reg [o 4 (.mv (kb true))])
 (.fz [4] .ret)))))
def YiG : VFn := ⟨true, 26, [.t 4], YoO⟩
def YiH (lo : Lo) : FnE := ⟨265, true, ⟨[0, 1], [.l (cs [.s]), .l (cs [.s])], [], (cs [.l (cs [.s]), .l (cs [.s])])⟩, .b, [], (cs [.b]), (fun x => q64 lo x.1 x.2 : Zt2 × Zt2 -> Option Bool)⟩
theorem YwQ (lo : Lo) : ∀ x : Zt2 × Zt2, evP (⟨pf, fs64 lo, [YiF lo], 0⟩ : Tabs) YiG ⟨[0, 1], [.l (cs [.s]), .l (cs [.s])], [], (cs [.l (cs [.s]), .l (cs [.s])])⟩ (.b) (cs [.b]) x = q64 lo x.1 x.2 := fun x => by kernel_rfl
theorem YwR {P : Program} {fm : FM} {lo : Lo} (hlo : LoOK lo) (hS : Yx2 P fm ⟨pf, fs64 lo, [], 0⟩) (hm : P.follows .mixedOrders = true) (htie : Ti P fm 265 YiG) : Yx2 P fm ⟨pf, YiH lo :: fs64 lo, [], 0⟩ :=
  Yah hS hm [YiF lo] (YiH lo) rfl YiG htie (by decide) rfl (Nat.le_of_ble_eq_true (by kernel_rfl)) (fun C hT => show LK C _ YoO from ⟨tv, ⟨⟨tv, ⟨⟨tv, tv⟩, tv⟩⟩, ⟨⟨tv, (Yye (by kernel_rfl) (YwP hlo C (Yaf hT)))⟩, ⟨tv, tv⟩⟩⟩⟩) (fun x y h => (YwQ lo x).trans h)
noncomputable def fs65 (lo : Lo) : List FnE := YiH lo :: fs64 lo
def q65 (lo : Lo) (a0_0 : Int) (a0_1 : List (Int × Int × ByteArray)) (b1_0 : Int) (b1_1 : List (Int × Int × ByteArray)) : Option Bool :=
  bif (decide (a0_0 = b1_0)) then (Option.bind (q61 lo a0_1 b1_1) fun y245 => some y245) else (some false)
def YoP : VCode :=
 (.seq (.reg [o 2 (.box (t 0)), o 3 (.box (t 1)), o 4 (.mv (kb false))])
 (.seq (.reg [fD 5 0 2, lD 6 5, fD 7 0 3, lD 8 7, o 9 (.bin .eql (t 6) (t 8)), mV 10 9, og 11 10 true (.fad 1 (t 2)), og 12 10 true (.load false 1 (t 11)), og 13 10 true (.fad 1 (t 3)), og 14 10 true (.load false 1 (t 13)), og 15 10 true (.call 297 [(t 12), (t 14)]), o 16 (.pick (t 10) (t 15) (kb false)), mV 4 16])
 (.fz [4] .ret)))
def YiI : VFn := ⟨true, 17, [.t 4], YoP⟩
def YiJ (lo : Lo) : FnE := ⟨266, true, ⟨[0, 1], [.ag [.i .i64, .l Zc4], .ag [.i .i64, .l Zc4]], [], (cs [I, .l Zc4, I, .l Zc4])⟩, .b, [], (cs [.b]), (fun x => q65 lo x.1 x.2.1 x.2.2.1 x.2.2.2 : Int × Zt3 × Int × Zt3 -> Option Bool)⟩
theorem YwS (lo : Lo) : ∀ x : Int × Zt3 × Int × Zt3, evP (⟨pf, fs65 lo, [], 0⟩ : Tabs) YiI ⟨[0, 1], [.ag [.i .i64, .l Zc4], .ag [.i .i64, .l Zc4]], [], (cs [I, .l Zc4, I, .l Zc4])⟩ (.b) (cs [.b]) x = q65 lo x.1 x.2.1 x.2.2.1 x.2.2.2 := fun x => by kernel_rfl
theorem YwT {P : Program} {fm : FM} {lo : Lo} (hlo : LoOK lo) (hS : Yx2 P fm ⟨pf, fs65 lo, [], 0⟩) (hm : P.follows .mixedOrders = true) (htie : Ti P fm 266 YiI) : Yx2 P fm ⟨pf, YiJ lo :: fs65 lo, [], 0⟩ :=
  Yah hS hm [] (YiJ lo) rfl YiI htie (by decide) rfl (Nat.le_of_ble_eq_true (by kernel_rfl)) (fun C hT => show LK C _ YoP from ⟨tv, ⟨tv, tv⟩⟩) (fun x y h => (YwS lo x).trans h)
noncomputable def fs66 (lo : Lo) : List FnE := YiJ lo :: fs65 lo
end Go.Abs.G03
namespace Go.Abs.G03
open Go Go.Abs
set_option maxRecDepth 100000
set_option maxHeartbeats 1000000
def q66_L3_b : VCode :=
 (.seq (.seq (.reg [mV 28 5, fD 29 2 2, lD 30 29, lN 31 30, o 32 (.bin .lss (t 28) (t 31))])
 (.cond (t 32) .skip
 (.exit 0)))
 (.seq (.blk 1 (.seq (.reg [fD 35 2 2, lD 36 35, mV 37 5, o 38 (.iad 2 (t 36) (t 37)), o 39 (.load true 2 (t 38)), fD 40 2 3, lD 41 40, mV 42 5, o 43 (.iad 2 (t 41) (t 42)), o 44 (.load true 2 (t 43)), o 45 (.call 266 [(t 39), (t 44)]), o 46 (.not (t 45))])
 (.cond (t 46) (.seq (.reg [o 4 (.mv (kb false))])
 (.fz [4] .ret))
 .skip)))
 (.reg [mV 33 5, o 34 (.bin .add (t 33) (k 1)), mV 5 34])))
def YoQ : Sg := ⟨[2, 3, 5], [.ptr 0 0 0, .ptr 1 0 0, .i .i64], [.st [.s, .l (cs [.s]), .l Zc1], .st [.s, .l (cs [.s]), .l Zc1]], (cs [I, .s, .l (cs [.s]), .l Zc1, .s, .l (cs [.s]), .l Zc1])⟩
def YoR : List Out1 := [⟨.ret, ⟨[4], [.b], [], (cs [.b])⟩⟩, ⟨.exit 0, ⟨[], [], [], (cs [])⟩⟩]
def YeH (lo : Lo) : Zp36 -> Option (Zp36 ⊕ (Bool ⊕ Unit)) := fun x => match x with
  | (i5, a2_0, a2_1, a2_2, b3_0, b3_1, b3_2) => bif (decide (i5 < (a2_2.length : Int))) then (chk (0 <= i5 /\ i5 < (a2_2.length : Int)) (chk (0 <= i5 /\ i5 < (b3_2.length : Int)) (Option.bind (q65 lo ((a2_2.getD i5.toNat ((0 : Int), [])).1) ((a2_2.getD i5.toNat ((0 : Int), [])).2) ((b3_2.getD i5.toNat ((0 : Int), [])).1) ((b3_2.getD i5.toNat ((0 : Int), [])).2)) fun y246 => bif (!y246) then (some (.inr (.inl false))) else (some (.inl ((IntKind.wrap .i64 (i5 + (1 : Int))), a2_0, a2_1, a2_2, b3_0, b3_1, b3_2)))))) else (some (.inr (.inr ())))
theorem YwU (lo : Lo) : ∀ x : Zp36, Yyf (⟨pf, fs66 lo, [], 0⟩ : Tabs) [] YoQ YoR q66_L3_b x = YeH lo x := fun x => by kernel_rfl
def YiK (lo : Lo) : Zp36 -> Option (Bool ⊕ Unit) := lo.run (YeH lo)
def YiL (lo : Lo) : LpE := ⟨3, [], YoQ, YoR, YiK lo⟩
theorem YwV {lo : Lo} (hlo : LoOK lo) (C : Ctx) (hT : TOK (⟨pf, fs66 lo, [], 0⟩ : Tabs) C) : Yx3 (fun _ => False) [] 0 C (.loop q66_L3_b.er) (YiL lo) :=
  Yak hT frNo (show LK C _ q66_L3_b from ⟨⟨tv, ⟨tv, tv⟩⟩, ⟨⟨tv, ⟨⟨tv, tv⟩, tv⟩⟩, tv⟩⟩) (fun x y h => Yal (YwU lo) (hlo _ _ _ h))
def q66 (lo : Lo) (a0_0 : ByteArray) (a0_1 : List ByteArray) (a0_2 : List (Int × Zt3)) (b1_0 : ByteArray) (b1_1 : List ByteArray) (b1_2 : List (Int × Zt3)) : Option Bool :=
  bif (!decide (a0_0 = b1_0)) then (some false) else (Option.bind (q64 lo a0_1 b1_1) fun y244 => bif (!y244) then (some false) else (bif (!decide ((a0_2.length : Int) = (b1_2.length : Int))) then (some false) else (Option.bind (YiK lo ((0 : Int), a0_0, a0_1, a0_2, b1_0, b1_1, b1_2)) fun y247 => alt2 y247 (fun y248 => some y248) (fun y249 => some true))))
def YoS : VCode :=
 (.seq (.reg [o 2 (.box (t 0)), o 3 (.box (t 1)), o 4 (.mv (kb false))])
 (.seq (.seq (.reg [fD 6 0 2, lD 7 6, fD 8 0 3, lD 9 8, o 10 (.bin .neq (t 7) (t 9)), mV 11 10, og 12 11 false (.fad 1 (t 2)), og 13 11 false (.load false 1 (t 12)), og 14 11 false (.fad 1 (t 3)), og 15 11 false (.load false 1 (t 14)), og 16 11 false (.call 265 [(t 13), (t 15)]), og 17 11 false (.not (t 16)), o 18 (.pick (t 11) (kb true) (t 17)), mV 19 18, og 20 19 false (.fad 2 (t 2)), og 21 19 false (.load false 1 (t 20)), og 22 19 false (.len (t 21)), og 23 19 false (.fad 2 (t 3)), og 24 19 false (.load false 1 (t 23)), og 25 19 false (.len (t 24)), og 26 19 false (.bin .neq (t 22) (t 25)), o 27 (.pick (t 19) (kb true) (t 26))])
 (.cond (t 27) (.seq (.reg [o 4 (.mv (kb false))])
 (.fz [4] .ret))
 .skip))
 (.seq (.seq (.reg [o 5 (.mv (k 0))])
 (.blk 0 (.loop 3 q66_L3_b)))
 (.seq (.reg [o 4 (.mv (kb true))])
 (.fz [4] .ret)))))
def YiM : VFn := ⟨true, 47, [.t 4], YoS⟩
def YiN (lo : Lo) : FnE := ⟨235, true, ⟨[0, 1], [.ag [.s, .l (cs [.s]), .l Zc1], .ag [.s, .l (cs [.s]), .l Zc1]], [], Zc5⟩, .b, [], (cs [.b]), (fun x => q66 lo x.1 x.2.1 x.2.2.1 x.2.2.2.1 x.2.2.2.2.1 x.2.2.2.2.2 : Zp39 -> Option Bool)⟩
theorem YwW (lo : Lo) : ∀ x : Zp39, evP (⟨pf, fs66 lo, [YiL lo], 0⟩ : Tabs) YiM ⟨[0, 1], [.ag [.s, .l (cs [.s]), .l Zc1], .ag [.s, .l (cs [.s]), .l Zc1]], [], Zc5⟩ (.b) (cs [.b]) x = q66 lo x.1 x.2.1 x.2.2.1 x.2.2.2.1 x.2.2.2.2.1 x.2.2.2.2.2 := fun x => by kernel_rfl
theorem YwX {P : Program} {fm : FM} {lo : Lo} (hlo : LoOK lo) (hS : Yx2 P fm ⟨pf, fs66 lo, [], 0⟩) (hm : P.follows .mixedOrders = true) (htie : Ti P fm 235 YiM) : Yx2 P fm ⟨pf, YiN lo :: fs66 lo, [], 0⟩ :=
  Yah hS hm [YiL lo] (YiN lo) rfl YiM htie (by decide) rfl (Nat.le_of_ble_eq_true (by kernel_rfl)) (fun C hT => show LK C _ YoS from ⟨tv, ⟨⟨tv, ⟨⟨tv, tv⟩, tv⟩⟩, ⟨⟨tv, (Yye (by kernel_rfl) (YwV hlo C (Yaf hT)))⟩, ⟨tv, tv⟩⟩⟩⟩) (fun x y h => (YwW lo x).trans h)
noncomputable def fs67 (lo : Lo) : List FnE := YiN lo :: fs66 lo
noncomputable def fs68 (lo : Lo) : List FnE := fs67 lo
def q68_L3_b : VCode :=
 (.seq (.seq (.reg [mV 17 11, fD 18 1 5, lD 19 18, lN 20 19, o 21 (.bin .lss (t 17) (t 20))])
 (.cond (t 21) .skip
 (.exit 0)))
 (.seq (.blk 1 (.seq (.reg [fD 24 1 4, lD 25 24, fD 26 1 5, lD 27 26, mV 28 11, o 29 (.iad 1 (t 27) (t 28)), lD 30 29, o 31 (.call 272 [(t 25), (t 30)]), mV 12 31])
 (.seq (.reg [mV 32 12, o 33 (.bin .lss (t 32) (k 0))])
 (.cond (t 33) (.reg [mV 34 10, fD 35 1 7, lD 36 35, mV 37 11, o 38 (.iad 3 (t 36) (t 37)), o 39 (.load true 3 (t 38)), o 40 (.bsl Zc4 1 [(0, (t 39))]), o 41 (.app Zc4 0 (t 34) (t 40)), mV 10 41])
 (.seq (.reg [fD 42 1 6, lD 43 42, mV 44 12, o 45 (.iad 3 (t 43) (t 44)), o 46 (.load true 3 (t 45)), fD 47 1 7, lD 48 47, mV 49 11, o 50 (.iad 3 (t 48) (t 49)), o 51 (.load true 3 (t 50)), o 52 (.call 302 [(t 46), (t 51)]), o 53 (.bin .neq (t 52) (k 0))])
 (.cond (t 53) (.seq (.reg [o 8 (.mv (ke Zc4)), o 9 (.mv (kb false))])
 (.fz [8, 9] .ret))
 .skip))))))
 (.reg [mV 22 11, o 23 (.bin .add (t 22) (k 1)), mV 11 23])))
def YoT : Sg := ⟨[4, 5, 6, 7, 10, 11], [.ptr 0 0 0, .ptr 1 0 0, .ptr 2 0 0, .ptr 3 0 0, .ref 4, .i .i64], [.st [.s, .l (cs [.s]), .l Zc1], .st [.s, .l (cs [.s]), .l Zc1], .st [.i .i64, .l Zc4], .st [.i .i64, .l Zc4], .sq Zc4], (cs [I, .s, .l (cs [.s]), .l Zc1, .s, .l (cs [.s]), .l Zc1, I, .l Zc4, I, .l Zc4, .l Zc4])⟩
def YoU : List Out1 := [⟨.ret, ⟨[8, 9], [.l Zc4, .b], [], (cs [.l Zc4, .b])⟩⟩, ⟨.exit 0, ⟨[10], [.ref 0], [.sq Zc4], (cs [.l Zc4])⟩⟩]
def YeI (lo : Lo) : Zp33 -> Option (Zp33 ⊕ ((Zt3 × Bool) ⊕ (Zt3))) := fun x => match x with
  | (i11, a4_0, a4_1, a4_2, b5_0, b5_1, b5_2, r6_0, r6_1, s7_0, s7_1, out10) => bif (decide (i11 < (b5_1.length : Int))) then (chk (0 <= i11 /\ i11 < (b5_1.length : Int)) (Option.bind (q47 lo a4_1 (b5_1.getD i11.toNat (ByteArray.mk #[]))) fun y266 => bif (decide (y266 < (0 : Int))) then (chk (0 <= i11 /\ i11 < (s7_1.length : Int)) (chk (out10.length + ([(s7_1.getD i11.toNat ((0 : Int), (0 : Int), (ByteArray.mk #[])))]).length <= maxEl) (some (.inl ((IntKind.wrap .i64 (i11 + (1 : Int))), a4_0, a4_1, a4_2, b5_0, b5_1, b5_2, r6_0, r6_1, s7_0, s7_1, (out10 ++ ([(s7_1.getD i11.toNat ((0 : Int), (0 : Int), (ByteArray.mk #[])))]))))))) else (chk (0 <= y266 /\ y266 < (r6_1.length : Int)) (chk (0 <= i11 /\ i11 < (s7_1.length : Int)) (Option.bind (q59 lo ((r6_1.getD y266.toNat ((0 : Int), (0 : Int), (ByteArray.mk #[]))).1) ((r6_1.getD y266.toNat ((0 : Int), (0 : Int), (ByteArray.mk #[]))).2.1) ((r6_1.getD y266.toNat ((0 : Int), (0 : Int), (ByteArray.mk #[]))).2.2) ((s7_1.getD i11.toNat ((0 : Int), (0 : Int), (ByteArray.mk #[]))).1) ((s7_1.getD i11.toNat ((0 : Int), (0 : Int), (ByteArray.mk #[]))).2.1) ((s7_1.getD i11.toNat ((0 : Int), (0 : Int), (ByteArray.mk #[]))).2.2)) fun y267 => bif (!decide (y267 = (0 : Int))) then (some (.inr (.inl (([] : List (Int × Int × ByteArray)), false)))) else (some (.inl ((IntKind.wrap .i64 (i11 + (1 : Int))), a4_0, a4_1, a4_2, b5_0, b5_1, b5_2, r6_0, r6_1, s7_0, s7_1, out10)))))))) else (some (.inr (.inr out10)))
theorem YwY (lo : Lo) : ∀ x : Zp33, Yyf (⟨pf, fs68 lo, [], 0⟩ : Tabs) [] YoT YoU q68_L3_b x = YeI lo x := fun x => by kernel_rfl
def YiO (lo : Lo) : Zp33 -> Option ((Zt3 × Bool) ⊕ (Zt3)) := lo.run (YeI lo)
def YiP (lo : Lo) : LpE := ⟨3, [], YoT, YoU, YiO lo⟩
theorem YwZ {lo : Lo} (hlo : LoOK lo) (C : Ctx) (hT : TOK (⟨pf, fs68 lo, [], 0⟩ : Tabs) C) : Yx3 (fun _ => False) [] 0 C (.loop q68_L3_b.er) (YiP lo) :=
  Yak hT frNo (show LK C _ q68_L3_b from ⟨⟨tv, ⟨tv, tv⟩⟩, ⟨⟨tv, ⟨tv, ⟨tv, ⟨tv, ⟨⟨tv, tv⟩, tv⟩⟩⟩⟩⟩, tv⟩⟩) (fun x y h => Yal (YwY lo) (hlo _ _ _ h))
def q68 (lo : Lo) (a0_0 : ByteArray) (a0_1 : List ByteArray) (a0_2 : List (Int × Zt3)) (b1_0 : ByteArray) (b1_1 : List ByteArray) (b1_2 : List (Int × Zt3)) (r2_0 : Int) (r2_1 : List (Int × Int × ByteArray)) (s3_0 : Int) (s3_1 : List (Int × Int × ByteArray)) : Option (Zt3 × Bool) :=
  chk (r2_1.length <= maxEl) (Option.bind (YiO lo ((0 : Int), a0_0, a0_1, a0_2, b1_0, b1_1, b1_2, r2_0, r2_1, s3_0, s3_1, r2_1)) fun y268 => alt2 y268 (fun y269 => some (y269.1, y269.2)) (fun y270 => some (y270, true)))
def YoV : VCode :=
 (.seq (.reg [o 4 (.box (t 0)), o 5 (.box (t 1)), o 6 (.box (t 2)), o 7 (.box (t 3)), o 8 (.mv (ke Zc4)), o 9 (.mv (kb false))])
 (.seq (.reg [o 13 (.bsl Zc4 0 []), fD 14 1 6, lD 15 14, o 16 (.app Zc4 0 (t 13) (t 15)), mV 10 16])
 (.seq (.seq (.reg [o 11 (.mv (k 0))])
 (.blk 0 (.loop 3 q68_L3_b)))
 (.seq (.reg [mV 54 10, mV 8 54, o 9 (.mv (kb true))])
 (.fz [8, 9] .ret)))))
def YiQ : VFn := ⟨true, 55, [.t 8, .t 9], YoV⟩
def YiR (lo : Lo) : FnE := ⟨273, true, ⟨[0, 1, 2, 3], [.ag [.s, .l (cs [.s]), .l Zc1], .ag [.s, .l (cs [.s]), .l Zc1], .ag [.i .i64, .l Zc4], .ag [.i .i64, .l Zc4]], [], Zc17⟩, .tp [.l Zc4, .b], [], (cs [.l Zc4, .b]), (fun x => q68 lo x.1 x.2.1 x.2.2.1 x.2.2.2.1 x.2.2.2.2.1 x.2.2.2.2.2.1 x.2.2.2.2.2.2.1 x.2.2.2.2.2.2.2.1 x.2.2.2.2.2.2.2.2.1 x.2.2.2.2.2.2.2.2.2 : Zp35 -> Option (Zt3 × Bool))⟩
theorem Yw0 (lo : Lo) : ∀ x : Zp35, evP (⟨pf, fs68 lo, [YiP lo], 0⟩ : Tabs) YiQ ⟨[0, 1, 2, 3], [.ag [.s, .l (cs [.s]), .l Zc1], .ag [.s, .l (cs [.s]), .l Zc1], .ag [.i .i64, .l Zc4], .ag [.i .i64, .l Zc4]], [], Zc17⟩ (.tp [.l Zc4, .b]) (cs [.l Zc4, .b]) x = q68 lo x.1 x.2.1 x.2.2.1 x.2.2.2.1 x.2.2.2.2.1 x.2.2.2.2.2.1 x.2.2.2.2.2.2.1 x.2.2.2.2.2.2.2.1 x.2.2.2.2.2.2.2.2.1 x.2.2.2.2.2.2.2.2.2 := fun x => by kernel_rfl
theorem Yw1 {P : Program} {fm : FM} {lo : Lo} (hlo : LoOK lo) (hS : Yx2 P fm ⟨pf, fs68 lo, [], 0⟩) (hm : P.follows .mixedOrders = true) (htie : Ti P fm 273 YiQ) : Yx2 P fm ⟨pf, YiR lo :: fs68 lo, [], 0⟩ :=
  Yah hS hm [YiP lo] (YiR lo) rfl YiQ htie (by decide) rfl (Nat.le_of_ble_eq_true (by kernel_rfl)) (fun C hT => show LK C _ YoV from ⟨tv, ⟨tv, ⟨⟨tv, (Yye (by kernel_rfl) (YwZ hlo C (Yaf hT)))⟩, ⟨tv, tv⟩⟩⟩⟩) (fun x y h => (Yw0 lo x).trans h)
noncomputable def fs69 (lo : Lo) : List FnE := YiR lo :: fs68 lo
def q69_L35_b : VCode :=
 (.seq (.seq (.reg [mV 35 9, fD 36 1 3, lD 37 36, lN 38 37, o 39 (.bin .lss (t 35) (t 38))])
 (.cond (t 39) .skip
 (.exit 0)))
 (.seq (.blk 1 (.seq (.reg [fD 42 1 2, lD 43 42, fD 44 1 3, lD 45 44, mV 46 9, o 47 (.iad 1 (t 45) (t 46)), lD 48 47, o 49 (.call 272 [(t 43), (t 48)]), o 50 (.bin .lss (t 49) (k 0))])
 (.cond (t 50) (.reg [fD 51 1 8, lD 52 51, fD 53 1 3, lD 54 53, mV 55 9, o 56 (.iad 1 (t 54) (t 55)), lD 57 56, o 58 (.bsl (cs [.s]) 1 [(0, (t 57))]), o 59 (.app (cs [.s]) 0 (t 52) (t 58)), fD 60 1 8, on (.store 1 (t 60) (t 59))])
 .skip)))
 (.reg [mV 40 9, o 41 (.bin .add (t 40) (k 1)), mV 9 41])))
def YoW : Sg := ⟨[2, 3, 4, 8, 9], [.ptr 0 0 0, .ptr 1 0 0, .ptr 2 0 0, .ptr 3 0 0, .i .i64], [.st [.s, .l (cs [.s]), .l Zc1], .st [.s, .l (cs [.s]), .l Zc1], .st [.s, .l (cs [.s]), .l Zc1], .st [.s, .ref 4, .ref 5], .sq (cs [.s]), .sq Zc1], Zc7⟩
def YoX : List Out1 := [⟨.exit 0, ⟨[2, 3, 4, 8], [.ptr 0 0 0, .ptr 1 0 0, .ptr 2 0 0, .ptr 3 0 0], [.st [.s, .l (cs [.s]), .l Zc1], .st [.s, .l (cs [.s]), .l Zc1], .st [.s, .l (cs [.s]), .l Zc1], .st [.s, .ref 4, .ref 5], .sq (cs [.s]), .sq Zc1], (cs [.s, .l (cs [.s]), .l Zc1, .s, .l (cs [.s]), .l Zc1, .s, .l (cs [.s]), .l Zc1, .s, .l (cs [.s]), .l Zc1])⟩⟩]
def YeJ (lo : Lo) : Zp29 -> Option (Zp29 ⊕ ((ByteArray × Zt2 × Zt0 × ByteArray × Zt2 × Zt0 × ByteArray × Zt2 × Zt0 × ByteArray × Zt2 × Zt0))) := fun x => match x with
  | (i9, a2_0, a2_1, a2_2, b3_0, b3_1, b3_2, v4_0, v4_1, v4_2, out8, h4, h5) => bif (decide (i9 < (b3_1.length : Int))) then (chk (0 <= i9 /\ i9 < (b3_1.length : Int)) (Option.bind (q47 lo a2_1 (b3_1.getD i9.toNat (ByteArray.mk #[]))) fun y264 => bif (decide (y264 < (0 : Int))) then (chk (0 <= i9 /\ i9 < (b3_1.length : Int)) (chk (h4.length + ([(b3_1.getD i9.toNat (ByteArray.mk #[]))]).length <= maxEl) (some (.inl ((IntKind.wrap .i64 (i9 + (1 : Int))), a2_0, a2_1, a2_2, b3_0, b3_1, b3_2, v4_0, v4_1, v4_2, out8, (h4 ++ ([(b3_1.getD i9.toNat (ByteArray.mk #[]))])), h5))))) else (some (.inl ((IntKind.wrap .i64 (i9 + (1 : Int))), a2_0, a2_1, a2_2, b3_0, b3_1, b3_2, v4_0, v4_1, v4_2, out8, h4, h5))))) else (some (.inr (a2_0, a2_1, a2_2, b3_0, b3_1, b3_2, v4_0, v4_1, v4_2, out8, h4, h5)))
theorem Yw2 (lo : Lo) : ∀ x : Zp29, Yyf (⟨pf, fs69 lo, [], 0⟩ : Tabs) [(8, some 2, false)] YoW YoX q69_L35_b x = YeJ lo x := fun x => by kernel_rfl
def YiS (lo : Lo) : Zp29 -> Option ((ByteArray × Zt2 × Zt0 × ByteArray × Zt2 × Zt0 × ByteArray × Zt2 × Zt0 × ByteArray × Zt2 × Zt0)) := lo.run (YeJ lo)
def YaW (lo : Lo) : LpE := ⟨35, [(8, some 2, false)], YoW, YoX, YiS lo⟩
theorem Yw3 {lo : Lo} (hlo : LoOK lo) (C : Ctx) (hT : TOK (⟨pf, fs69 lo, [], 0⟩ : Tabs) C) : Yx3 (fun _ => False) [] 0 C (.loop q69_L35_b.er) (YaW lo) :=
  Yak hT frNo (show LK C _ q69_L35_b from ⟨⟨tv, ⟨tv, tv⟩⟩, ⟨⟨tv, ⟨tv, tv⟩⟩, tv⟩⟩) (fun x y h => Yal (Yw2 lo) (hlo _ _ _ h))
def q69_L16_b : VCode :=
 (.seq (.seq (.reg [mV 115 14, o 116 (.bin .gtr (t 115) (k 0)), mV 117 116, og 118 117 true (.fad 2 (t 8)), og 119 117 true (.load false 1 (t 118)), og 120 117 true (.mv (t 14)), og 121 117 true (.iad 2 (t 119) (t 120)), og 122 117 true (.fad 1 (t 121)), og 123 117 true (.load false 1 (t 122)), og 124 117 true (.fad 2 (t 8)), og 125 117 true (.load false 1 (t 124)), og 126 117 true (.mv (t 14)), og 127 117 true (.bin .sub (t 126) (k 1)), og 128 117 true (.iad 2 (t 125) (t 127)), og 129 117 true (.fad 1 (t 128)), og 130 117 true (.load false 1 (t 129)), og 131 117 true (.call 274 [(t 123), (t 130)]), og 132 117 true (.bin .lss (t 131) (k 0)), o 133 (.pick (t 117) (t 132) (kb false))])
 (.cond (t 133) .skip
 (.exit 6)))
 (.seq (.blk 7 (.regN [3000008] [fD 136 2 8, lD 137 136, mV 138 14, fD 139 2 8, ⟨some 140, .load false 1 (t 139), none, true, false⟩, mV 141 14, o 142 (.bin .sub (t 141) (k 1)), fD 143 2 8, lD 144 143, mV 145 14, o 146 (.bin .sub (t 145) (k 1)), o 147 (.iad 2 (t 144) (t 146)), o 148 (.load true 2 (t 147)), fD 149 2 8, lD 150 149, mV 151 14, o 152 (.iad 2 (t 150) (t 151)), o 153 (.load true 2 (t 152)), o 154 (.iad 2 (t 137) (t 138)), ⟨none, .store 2 (t 154) (t 148), none, false, true⟩, o 155 (.iad 2 (t 140) (t 142)), on (.store 2 (t 155) (t 153))]))
 (.reg [mV 134 14, o 135 (.bin .sub (t 134) (k 1)), mV 14 135])))
def YoY : Sg := ⟨[2, 3, 4, 8, 10, 11, 14], [.ptr 0 0 0, .ptr 1 0 0, .ptr 2 0 0, .ptr 3 0 0, .i .i64, .i .i64, .i .i64], [.st [.s, .l (cs [.s]), .l Zc1], .st [.s, .l (cs [.s]), .l Zc1], .st [.s, .l (cs [.s]), .l Zc1], .st [.s, .ref 4, .ref 5], .sq (cs [.s]), .sq Zc1], (cs [I, I, I, .s, .l (cs [.s]), .l Zc1, .s, .l (cs [.s]), .l Zc1, .s, .l (cs [.s]), .l Zc1, .s, .l (cs [.s]), .l Zc1])⟩
def YoZ : List Out1 := [⟨.exit 6, ⟨[2, 3, 4, 8, 10, 11], [.ptr 0 0 0, .ptr 1 0 0, .ptr 2 0 0, .ptr 3 0 0, .i .i64, .i .i64], [.st [.s, .l (cs [.s]), .l Zc1], .st [.s, .l (cs [.s]), .l Zc1], .st [.s, .l (cs [.s]), .l Zc1], .st [.s, .ref 4, .ref 5], .sq (cs [.s]), .sq Zc1], Zc13⟩⟩]
def Yc6 (lo : Lo) : Zp26 -> Option (Zp26 ⊕ (Zp27)) := fun x => match x with
  | (i10, j11, k14, a2_0, a2_1, a2_2, b3_0, b3_1, b3_2, v4_0, v4_1, v4_2, out8, h4, h5) => bif (decide ((0 : Int) < k14)) then (chk (0 <= k14 /\ k14 < (h5.length : Int)) (chk (0 <= (IntKind.wrap .i64 (k14 - (1 : Int))) /\ (IntKind.wrap .i64 (k14 - (1 : Int))) < (h5.length : Int)) (Option.bind (q60 lo ((h5.getD k14.toNat ((0 : Int), [])).2) ((h5.getD ((IntKind.wrap .i64 (k14 - (1 : Int))).toNat) ((0 : Int), [])).2)) fun y273 => bif (decide (y273 < (0 : Int))) then (chk (0 <= (IntKind.wrap .i64 (k14 - (1 : Int))) /\ (IntKind.wrap .i64 (k14 - (1 : Int))) < (h5.length : Int)) (chk (0 <= k14 /\ k14 < (h5.length : Int)) (chk (0 <= k14 /\ k14 < (h5.length : Int)) (chk (0 <= (IntKind.wrap .i64 (k14 - (1 : Int))) /\ (IntKind.wrap .i64 (k14 - (1 : Int))) < ((h5.set k14.toNat (h5.getD ((IntKind.wrap .i64 (k14 - (1 : Int))).toNat) ((0 : Int), []))).length : Int)) (some (.inl (i10, j11, (IntKind.wrap .i64 (k14 - (1 : Int))), a2_0, a2_1, a2_2, b3_0, b3_1, b3_2, v4_0, v4_1, v4_2, out8, h4, ((h5.set k14.toNat (h5.getD ((IntKind.wrap .i64 (k14 - (1 : Int))).toNat) ((0 : Int), []))).set ((IntKind.wrap .i64 (k14 - (1 : Int))).toNat) (h5.getD k14.toNat ((0 : Int), [])))))))))) else (some (.inr (i10, j11, a2_0, a2_1, a2_2, b3_0, b3_1, b3_2, v4_0, v4_1, v4_2, out8, h4, h5)))))) else (some (.inr (i10, j11, a2_0, a2_1, a2_2, b3_0, b3_1, b3_2, v4_0, v4_1, v4_2, out8, h4, h5)))
theorem Yw4 (lo : Lo) : ∀ x : Zp26, Yyf (⟨pf, fs69 lo, [YaW lo], 0⟩ : Tabs) [] YoY YoZ q69_L16_b x = Yc6 lo x := fun x => by kernel_rfl
def YiT (lo : Lo) : Zp26 -> Option (Zp27) := lo.run (Yc6 lo)
def Ybh (lo : Lo) : LpE := ⟨16, [], YoY, YoZ, YiT lo⟩
theorem Yw5 {lo : Lo} (hlo : LoOK lo) (C : Ctx) (hT : TOK (⟨pf, fs69 lo, [YaW lo], 0⟩ : Tabs) C) : Yx3 (fun _ => False) [] 0 C (.loop q69_L16_b.er) (Ybh lo) :=
  Yak hT frNo (show LK C _ q69_L16_b from ⟨⟨tv, ⟨tv, tv⟩⟩, ⟨tv, tv⟩⟩) (fun x y h => Yal (Yw4 lo) (hlo _ _ _ h))
def q69_L14_b : VCode :=
 (.seq (.seq (.reg [mV 73 11, fD 74 2 3, lD 75 74, lN 76 75, o 77 (.bin .lss (t 73) (t 76))])
 (.cond (t 77) .skip
 (.exit 4)))
 (.seq (.blk 5 (.seq (.reg [o 81 (.load true 3 (t 2)), o 82 (.load true 3 (t 3)), fD 83 2 2, lD 84 83, mV 85 10, o 86 (.iad 2 (t 84) (t 85)), o 87 (.load true 2 (t 86)), fD 88 2 3, lD 89 88, mV 90 11, o 91 (.iad 2 (t 89) (t 90)), o 92 (.load true 2 (t 91)), o 93 (.call 273 [(t 81), (t 82), (t 87), (t 92)]), mV 80 93, eX 94 80 0, eX 95 80 1, mV 12 94, mV 13 95])
 (.seq (.seq (.reg [mV 96 13, o 97 (.not (t 96)), mV 98 97, og 99 98 false (.fad 2 (t 8)), og 100 98 false (.load false 1 (t 99)), og 101 98 false (.mv (t 12)), og 102 98 false (.call 264 [(t 100), (t 101)]), o 103 (.pick (t 98) (kb true) (t 102))])
 (.cond (t 103) (.exit 5)
 .skip))
 (.seq (.reg [fD 104 2 8, lD 105 104, mV 106 12, o 107 (.build [.i .i64 0, .e Zc4] [(1, 1, (t 106))]), o 108 (.bsl Zc1 1 [(0, (t 107))]), o 109 (.app Zc1 0 (t 105) (t 108)), fD 110 2 8, on (.store 1 (t 110) (t 109))])
 (.seq (.reg [fD 111 2 8, lD 112 111, lN 113 112, o 114 (.bin .sub (t 113) (k 1)), mV 14 114])
 (.blk 6 (.loop 16 q69_L16_b)))))))
 (.reg [mV 78 11, o 79 (.bin .add (t 78) (k 1)), mV 11 79])))
def Yo0 : Sg := ⟨[2, 3, 4, 8, 10, 11], [.ptr 0 0 0, .ptr 1 0 0, .ptr 2 0 0, .ptr 3 0 0, .i .i64, .i .i64], [.st [.s, .l (cs [.s]), .l Zc1], .st [.s, .l (cs [.s]), .l Zc1], .st [.s, .l (cs [.s]), .l Zc1], .st [.s, .ref 4, .ref 5], .sq (cs [.s]), .sq Zc1], Zc13⟩
def Yo1 : List Out1 := [⟨.exit 4, ⟨[2, 3, 4, 8, 10], [.ptr 0 0 0, .ptr 1 0 0, .ptr 2 0 0, .ptr 3 0 0, .i .i64], [.st [.s, .l (cs [.s]), .l Zc1], .st [.s, .l (cs [.s]), .l Zc1], .st [.s, .l (cs [.s]), .l Zc1], .st [.s, .ref 4, .ref 5], .sq (cs [.s]), .sq Zc1], Zc7⟩⟩]
def YeK (lo : Lo) : Zp27 -> Option (Zp27 ⊕ (Zp29)) := fun x => match x with
  | (i10, j11, a2_0, a2_1, a2_2, b3_0, b3_1, b3_2, v4_0, v4_1, v4_2, out8, h4, h5) => bif (decide (j11 < (b3_2.length : Int))) then (chk (0 <= i10 /\ i10 < (a2_2.length : Int)) (chk (0 <= j11 /\ j11 < (b3_2.length : Int)) (Option.bind (q68 lo a2_0 a2_1 a2_2 b3_0 b3_1 b3_2 ((a2_2.getD i10.toNat ((0 : Int), [])).1) ((a2_2.getD i10.toNat ((0 : Int), [])).2) ((b3_2.getD j11.toNat ((0 : Int), [])).1) ((b3_2.getD j11.toNat ((0 : Int), [])).2)) fun y271 => bif (!y271.2) then (some (.inl (i10, (IntKind.wrap .i64 (j11 + (1 : Int))), a2_0, a2_1, a2_2, b3_0, b3_1, b3_2, v4_0, v4_1, v4_2, out8, h4, h5))) else (Option.bind (q62 lo h5 y271.1) fun y272 => bif y272 then (some (.inl (i10, (IntKind.wrap .i64 (j11 + (1 : Int))), a2_0, a2_1, a2_2, b3_0, b3_1, b3_2, v4_0, v4_1, v4_2, out8, h4, h5))) else (chk (h5.length + ([((0 : Int), y271.1)]).length <= maxEl) (Option.bind (YiT lo (i10, j11, (IntKind.wrap .i64 (((h5 ++ ([((0 : Int), y271.1)])).length : Int) - (1 : Int))), a2_0, a2_1, a2_2, b3_0, b3_1, b3_2, v4_0, v4_1, v4_2, out8, h4, (h5 ++ ([((0 : Int), y271.1)])))) fun y274 => some (.inl (y274.1, (IntKind.wrap .i64 (y274.2.1 + (1 : Int))), y274.2.2.1, y274.2.2.2.1, y274.2.2.2.2.1, y274.2.2.2.2.2.1, y274.2.2.2.2.2.2.1, y274.2.2.2.2.2.2.2.1, y274.2.2.2.2.2.2.2.2.1, y274.2.2.2.2.2.2.2.2.2.1, y274.2.2.2.2.2.2.2.2.2.2.1, y274.2.2.2.2.2.2.2.2.2.2.2.1, y274.2.2.2.2.2.2.2.2.2.2.2.2.1, y274.2.2.2.2.2.2.2.2.2.2.2.2.2)))))))) else (some (.inr (i10, a2_0, a2_1, a2_2, b3_0, b3_1, b3_2, v4_0, v4_1, v4_2, out8, h4, h5)))
theorem Yw6 (lo : Lo) : ∀ x : Zp27, Yyf (⟨pf, fs69 lo, [Ybh lo, YaW lo], 0⟩ : Tabs) [] Yo0 Yo1 q69_L14_b x = YeK lo x := fun x => by kernel_rfl
def YiU (lo : Lo) : Zp27 -> Option (Zp29) := lo.run (YeK lo)
def YbP (lo : Lo) : LpE := ⟨14, [], Yo0, Yo1, YiU lo⟩
theorem Yw7 {lo : Lo} (hlo : LoOK lo) (C : Ctx) (hT : TOK (⟨pf, fs69 lo, [Ybh lo, YaW lo], 0⟩ : Tabs) C) : Yx3 (fun _ => False) [] 0 C (.loop q69_L14_b.er) (YbP lo) :=
  Yak hT frNo (show LK C _ q69_L14_b from ⟨⟨tv, ⟨tv, tv⟩⟩, ⟨⟨tv, ⟨⟨tv, ⟨tv, tv⟩⟩, ⟨tv, ⟨tv, (Yye (by kernel_rfl) (Yw5 hlo C (Yaf hT)))⟩⟩⟩⟩, tv⟩⟩) (fun x y h => Yal (Yw6 lo) (hlo _ _ _ h))
def q69_L12_b : VCode :=
 (.seq (.seq (.reg [mV 66 10, fD 67 2 2, lD 68 67, lN 69 68, o 70 (.bin .lss (t 66) (t 69))])
 (.cond (t 70) .skip
 (.exit 2)))
 (.seq (.blk 3 (.seq (.reg [o 11 (.mv (k 0))])
 (.blk 4 (.loop 14 q69_L14_b))))
 (.reg [mV 71 10, o 72 (.bin .add (t 71) (k 1)), mV 10 72])))
def Yo2 : Sg := ⟨[2, 3, 4, 8, 10], [.ptr 0 0 0, .ptr 1 0 0, .ptr 2 0 0, .ptr 3 0 0, .i .i64], [.st [.s, .l (cs [.s]), .l Zc1], .st [.s, .l (cs [.s]), .l Zc1], .st [.s, .l (cs [.s]), .l Zc1], .st [.s, .ref 4, .ref 5], .sq (cs [.s]), .sq Zc1], Zc7⟩
def Yo3 : List Out1 := [⟨.exit 2, ⟨[4, 8], [.ptr 0 0 0, .ptr 1 0 0], [.st [.s, .l (cs [.s]), .l Zc1], .st [.s, .ref 2, .ref 3], .sq (cs [.s]), .sq Zc1], Zc5⟩⟩]
def YeL (lo : Lo) : Zp29 -> Option (Zp29 ⊕ (Zp39)) := fun x => match x with
  | (i10, a2_0, a2_1, a2_2, b3_0, b3_1, b3_2, v4_0, v4_1, v4_2, out8, h4, h5) => bif (decide (i10 < (a2_2.length : Int))) then (Option.bind (YiU lo (i10, (0 : Int), a2_0, a2_1, a2_2, b3_0, b3_1, b3_2, v4_0, v4_1, v4_2, out8, h4, h5)) fun y275 => some (.inl ((IntKind.wrap .i64 (y275.1 + (1 : Int))), y275.2.1, y275.2.2.1, y275.2.2.2.1, y275.2.2.2.2.1, y275.2.2.2.2.2.1, y275.2.2.2.2.2.2.1, y275.2.2.2.2.2.2.2.1, y275.2.2.2.2.2.2.2.2.1, y275.2.2.2.2.2.2.2.2.2.1, y275.2.2.2.2.2.2.2.2.2.2.1, y275.2.2.2.2.2.2.2.2.2.2.2.1, y275.2.2.2.2.2.2.2.2.2.2.2.2))) else (some (.inr (v4_0, v4_1, v4_2, out8, h4, h5)))
theorem Yw8 (lo : Lo) : ∀ x : Zp29, Yyf (⟨pf, fs69 lo, [YbP lo, Ybh lo, YaW lo], 0⟩ : Tabs) [] Yo2 Yo3 q69_L12_b x = YeL lo x := fun x => by kernel_rfl
def YiV (lo : Lo) : Zp29 -> Option (Zp39) := lo.run (YeL lo)
def Yc7 (lo : Lo) : LpE := ⟨12, [], Yo2, Yo3, YiV lo⟩
theorem Yw9 {lo : Lo} (hlo : LoOK lo) (C : Ctx) (hT : TOK (⟨pf, fs69 lo, [YbP lo, Ybh lo, YaW lo], 0⟩ : Tabs) C) : Yx3 (fun _ => False) [] 0 C (.loop q69_L12_b.er) (Yc7 lo) :=
  Yak hT frNo (show LK C _ q69_L12_b from ⟨⟨tv, ⟨tv, tv⟩⟩, ⟨⟨tv, (Yye (by kernel_rfl) (Yw7 hlo C (Yaf hT)))⟩, tv⟩⟩) (fun x y h => Yal (Yw8 lo) (hlo _ _ _ h))
def q69_L3_b : VCode :=
 (.seq (.seq (.reg [mV 161 15, fD 162 2 8, lD 163 162, lN 164 163, o 165 (.bin .lss (t 161) (t 164))])
 (.cond (t 165) .skip
 (.exit 8)))
 (.seq (.blk 9 (.reg [fD 168 2 8, lD 169 168, mV 170 15, mV 171 15, o 172 (.bin .add (t 171) (k 1)), o 173 (.iad 2 (t 169) (t 170)), fD 174 0 173, on (.store 1 (t 174) (t 172))]))
 (.reg [mV 166 15, o 167 (.bin .add (t 166) (k 1)), mV 15 167])))
def Yo4 : Sg := ⟨[4, 8, 15], [.ptr 0 0 0, .ptr 1 0 0, .i .i64], [.st [.s, .l (cs [.s]), .l Zc1], .st [.s, .ref 2, .ref 3], .sq (cs [.s]), .sq Zc1], (cs [I, .s, .l (cs [.s]), .l Zc1, .s, .l (cs [.s]), .l Zc1])⟩
def Yo5 : List Out1 := [⟨.exit 8, ⟨[4, 8], [.ptr 0 0 0, .ptr 1 0 0], [.st [.s, .l (cs [.s]), .l Zc1], .st [.s, .ref 2, .ref 3], .sq (cs [.s]), .sq Zc1], Zc5⟩⟩]
def YeM (lo : Lo) : Zp36 -> Option (Zp36 ⊕ (Zp39)) := fun x => match x with
  | (i15, v4_0, v4_1, v4_2, out8, h2, h3) => bif (decide (i15 < (h3.length : Int))) then (chk (0 <= i15 /\ i15 < (h3.length : Int)) (some (.inl ((IntKind.wrap .i64 (i15 + (1 : Int))), v4_0, v4_1, v4_2, out8, h2, (h3.set i15.toNat ((IntKind.wrap .i64 (i15 + (1 : Int))), (h3.getD i15.toNat ((0 : Int), [])).2)))))) else (some (.inr (v4_0, v4_1, v4_2, out8, h2, h3)))
theorem Yxa (lo : Lo) : ∀ x : Zp36, Yyf (⟨pf, fs69 lo, [Yc7 lo, YbP lo, Ybh lo, YaW lo], 0⟩ : Tabs) [] Yo4 Yo5 q69_L3_b x = YeM lo x := fun x => by kernel_rfl
def YiW (lo : Lo) : Zp36 -> Option (Zp39) := lo.run (YeM lo)
def YiX (lo : Lo) : LpE := ⟨3, [], Yo4, Yo5, YiW lo⟩
theorem Yxb {lo : Lo} (hlo : LoOK lo) (C : Ctx) (hT : TOK (⟨pf, fs69 lo, [Yc7 lo, YbP lo, Ybh lo, YaW lo], 0⟩ : Tabs) C) : Yx3 (fun _ => False) [] 0 C (.loop q69_L3_b.er) (YiX lo) :=
  Yak hT frNo (show LK C _ q69_L3_b from ⟨⟨tv, ⟨tv, tv⟩⟩, ⟨tv, tv⟩⟩) (fun x y h => Yal (Yxa lo) (hlo _ _ _ h))
def q69 (lo : Lo) (a0_0 : ByteArray) (a0_1 : List ByteArray) (a0_2 : List (Int × Zt3)) (b1_0 : ByteArray) (b1_1 : List ByteArray) (b1_2 : List (Int × Zt3)) : Option (ByteArray × Zt2 × Zt0 × Int) :=
  Option.bind (q51 lo a0_0 a0_1 a0_2) fun y262 => bif (!decide (y262 = (0 : Int))) then (some ((ByteArray.mk #[]), ([] : List ByteArray), ([] : List (Int × Zt3)), y262)) else (Option.bind (q51 lo b1_0 b1_1 b1_2) fun y263 => bif (!decide (y263 = (0 : Int))) then (some ((ByteArray.mk #[]), ([] : List ByteArray), ([] : List (Int × Zt3)), y263)) else (chk (a0_1.length <= maxEl) (Option.bind (YiS lo ((0 : Int), a0_0, a0_1, a0_2, b1_0, b1_1, b1_2, (ByteArray.mk #[]), ([] : List ByteArray), ([] : List (Int × Zt3)), a0_0, a0_1, [])) fun y265 => bif (decide ((16 : Int) < (y265.2.2.2.2.2.2.2.2.2.2.1.length : Int))) then (some ((ByteArray.mk #[]), ([] : List ByteArray), ([] : List (Int × Zt3)), (3 : Int))) else (Option.bind (YiV lo ((0 : Int), y265.1, y265.2.1, y265.2.2.1, y265.2.2.2.1, y265.2.2.2.2.1, y265.2.2.2.2.2.1, y265.2.2.2.2.2.2.1, y265.2.2.2.2.2.2.2.1, y265.2.2.2.2.2.2.2.2.1, y265.2.2.2.2.2.2.2.2.2.1, y265.2.2.2.2.2.2.2.2.2.2.1, y265.2.2.2.2.2.2.2.2.2.2.2)) fun y276 => bif (decide ((1000 : Int) < (y276.2.2.2.2.2.length : Int))) then (some ((ByteArray.mk #[]), ([] : List ByteArray), ([] : List (Int × Zt3)), (3 : Int))) else (Option.bind (YiW lo ((0 : Int), y276.1, y276.2.1, y276.2.2.1, y276.2.2.2.1, y276.2.2.2.2.1, y276.2.2.2.2.2)) fun y277 => some (y277.2.2.2.1, y277.2.2.2.2.1, y277.2.2.2.2.2, (0 : Int)))))))
def Yo6 : VCode :=
 (.seq (.reg [o 2 (.box (t 0)), o 3 (.box (t 1)), o 4 (.alloc [.s (⟨#[]⟩), .e (cs [.s]), .e Zc1]), o 5 (.mv (k 0))])
 (.seq (.seq (.reg [o 16 (.load true 3 (t 2)), o 17 (.call 231 [(t 16)]), mV 6 17])
 (.seq (.reg [mV 18 6, o 19 (.bin .neq (t 18) (k 0))])
 (.cond (t 19) (.seq (.reg [o 20 (.build [.s (⟨#[]⟩), .e (cs [.s]), .e Zc1] []), mV 21 6, on (.store 3 (t 4) (t 20)), mV 5 21])
 (.fz [4, 5] .ret))
 .skip)))
 (.seq (.seq (.reg [o 22 (.load true 3 (t 3)), o 23 (.call 231 [(t 22)]), mV 7 23])
 (.seq (.reg [mV 24 7, o 25 (.bin .neq (t 24) (k 0))])
 (.cond (t 25) (.seq (.reg [o 26 (.build [.s (⟨#[]⟩), .e (cs [.s]), .e Zc1] []), mV 27 7, on (.store 3 (t 4) (t 26)), mV 5 27])
 (.fz [4, 5] .ret))
 .skip)))
 (.seq (.reg [fD 28 0 2, ⟨some 29, .load false 1 (t 28), none, true, false⟩, o 30 (.bsl (cs [.s]) 0 []), fD 31 1 2, ⟨some 32, .load false 1 (t 31), none, true, false⟩, ⟨some 33, .app (cs [.s]) 0 (t 30) (t 32), none, true, true⟩, o 34 (.build [.s (⟨#[]⟩), .e (cs [.s]), .e Zc1] [(0, 1, (t 29)), (1, 1, (t 33))]), o 8 (.alloc [.s (⟨#[]⟩), .e (cs [.s]), .e Zc1]), on (.store 3 (t 8) (t 34))])
 (.seq (.seq (.reg [o 9 (.mv (k 0))])
 (.blk 0 (.loop 35 q69_L35_b)))
 (.seq (.seq (.reg [fD 61 1 8, lD 62 61, lN 63 62, o 64 (.bin .gtr (t 63) (k 16))])
 (.cond (t 64) (.seq (.reg [o 65 (.build [.s (⟨#[]⟩), .e (cs [.s]), .e Zc1] []), on (.store 3 (t 4) (t 65)), o 5 (.mv (k 3))])
 (.fz [4, 5] .ret))
 .skip))
 (.seq (.seq (.reg [o 10 (.mv (k 0))])
 (.blk 2 (.loop 12 q69_L12_b)))
 (.seq (.seq (.reg [fD 156 2 8, lD 157 156, lN 158 157, o 159 (.bin .gtr (t 158) (k 1000))])
 (.cond (t 159) (.seq (.reg [o 160 (.build [.s (⟨#[]⟩), .e (cs [.s]), .e Zc1] []), on (.store 3 (t 4) (t 160)), o 5 (.mv (k 3))])
 (.fz [4, 5] .ret))
 .skip))
 (.seq (.seq (.reg [o 15 (.mv (k 0))])
 (.blk 8 (.loop 3 q69_L3_b)))
 (.seq (.reg [o 175 (.load true 3 (t 8)), on (.store 3 (t 4) (t 175)), o 5 (.mv (k 0))])
 (.fz [4, 5] .ret)))))))))))
def YiY : VFn := ⟨true, 176, [.c 4 true 3, .t 5], Yo6⟩
def YiZ (lo : Lo) : FnE := ⟨238, true, ⟨[0, 1], [.ag [.s, .l (cs [.s]), .l Zc1], .ag [.s, .l (cs [.s]), .l Zc1]], [], Zc5⟩, .tp [.ag [.s, .l (cs [.s]), .l Zc1], .i .i64], [], Zc15, (fun x => q69 lo x.1 x.2.1 x.2.2.1 x.2.2.2.1 x.2.2.2.2.1 x.2.2.2.2.2 : Zp39 -> Option (ByteArray × Zt2 × Zt0 × Int))⟩
theorem Yxc (lo : Lo) : ∀ x : Zp39, evP (⟨pf, fs69 lo, [YiX lo, Yc7 lo, YbP lo, Ybh lo, YaW lo], 0⟩ : Tabs) YiY ⟨[0, 1], [.ag [.s, .l (cs [.s]), .l Zc1], .ag [.s, .l (cs [.s]), .l Zc1]], [], Zc5⟩ (.tp [.ag [.s, .l (cs [.s]), .l Zc1], .i .i64]) Zc15 x = q69 lo x.1 x.2.1 x.2.2.1 x.2.2.2.1 x.2.2.2.2.1 x.2.2.2.2.2 := fun x => by kernel_rfl
theorem Yxd {P : Program} {fm : FM} {lo : Lo} (hlo : LoOK lo) (hS : Yx2 P fm ⟨pf, fs69 lo, [], 0⟩) (hm : P.follows .mixedOrders = true) (htie : Ti P fm 238 YiY) : Yx2 P fm ⟨pf, YiZ lo :: fs69 lo, [], 0⟩ :=
  Yah hS hm [YiX lo, Yc7 lo, YbP lo, Ybh lo, YaW lo] (YiZ lo) rfl YiY htie (by decide) rfl (Nat.le_of_ble_eq_true (by kernel_rfl)) (fun C hT => show LK C _ Yo6 from ⟨tv, ⟨⟨tv, ⟨tv, ⟨⟨tv, tv⟩, tv⟩⟩⟩, ⟨⟨tv, ⟨tv, ⟨⟨tv, tv⟩, tv⟩⟩⟩, ⟨tv, ⟨⟨tv, (Yye (by kernel_rfl) (Yw3 hlo C (Yaf hT)))⟩, ⟨⟨tv, ⟨⟨tv, tv⟩, tv⟩⟩, ⟨⟨tv, (Yye (by kernel_rfl) (Yw9 hlo C (Yaf hT)))⟩, ⟨⟨tv, ⟨⟨tv, tv⟩, tv⟩⟩, ⟨⟨tv, (Yye (by kernel_rfl) (Yxb hlo C (Yaf hT)))⟩, ⟨tv, tv⟩⟩⟩⟩⟩⟩⟩⟩⟩⟩) (fun x y h => (Yxc lo x).trans h)
noncomputable def fs70 (lo : Lo) : List FnE := YiZ lo :: fs69 lo
end Go.Abs.G03
namespace Go.Abs.G03
open Go Go.Abs
set_option maxRecDepth 100000
set_option maxHeartbeats 1000000
noncomputable def q70 (lo : Lo) (a0_0 : ByteArray) (a0_1 : List ByteArray) (a0_2 : List (Int × Zt3)) (b1_0 : ByteArray) (b1_1 : List ByteArray) (b1_2 : List (Int × Zt3)) : Option Bool :=
  Option.bind (q44 lo) fun y255 => bif (!y255) then (Option.bind (q44 lo) fun y256 => some y256) else (Option.bind (q53 lo a0_0 a0_1 a0_2) fun y257 => bif (!y257) then (Option.bind (q44 lo) fun y258 => some y258) else (Option.bind (q53 lo b1_0 b1_1 b1_2) fun y259 => bif (!y259) then (Option.bind (q44 lo) fun y260 => some y260) else (Option.bind (q36 lo a0_0 a0_1 a0_2 b1_0 b1_1 b1_2) fun y261 => Option.bind (q69 lo a0_0 a0_1 a0_2 b1_0 b1_1 b1_2) fun y278 => bif (!decide (y261.2.2.2 = y278.2.2.2)) then (some false) else (Option.bind (q66 lo y261.1 y261.2.1 y261.2.2.1 y278.1 y278.2.1 y278.2.2.1) fun y279 => bif (!y279) then (some false) else (Option.bind (q36 lo a0_0 a0_1 a0_2 a0_0 a0_1 a0_2) fun y280 => Option.bind (q51 lo a0_0 a0_1 a0_2) fun y281 => bif (decide (y280.2.2.2 = y281)) then (bif (!decide (y280.2.2.2 = (0 : Int))) then (some true) else (Option.bind (q43 lo y280.1 y280.2.1 y280.2.2.1 a0_0 a0_1 a0_2) fun y282 => some y282)) else (some false))))))
def Yo7 : VCode :=
 (.seq (.reg [o 2 (.box (t 0)), o 3 (.box (t 1)), o 4 (.mv (kb false))])
 (.seq (.seq (.reg [o 11 (.call 229 []), o 12 (.not (t 11)), mV 13 12, og 14 13 false (.load true 3 (t 2)), og 15 13 false (.call 232 [(t 14)]), og 16 13 false (.not (t 15)), o 17 (.pick (t 13) (kb true) (t 16)), mV 18 17, og 19 18 false (.load true 3 (t 3)), og 20 18 false (.call 232 [(t 19)]), og 21 18 false (.not (t 20)), o 22 (.pick (t 18) (kb true) (t 21))])
 (.cond (t 22) (.seq (.reg [o 23 (.call 229 []), mV 4 23])
 (.fz [4] .ret))
 .skip))
 (.seq (.reg [o 25 (.load true 3 (t 2)), o 26 (.load true 3 (t 3)), o 27 (.call 237 [(t 25), (t 26)]), mV 24 27, eX 28 24 0, eX 29 24 1, o 5 (.alloc [.s (⟨#[]⟩), .e (cs [.s]), .e Zc1]), on (.store 3 (t 5) (t 28)), mV 6 29])
 (.seq (.reg [o 31 (.load true 3 (t 2)), o 32 (.load true 3 (t 3)), o 33 (.call 238 [(t 31), (t 32)]), mV 30 33, eX 34 30 0, eX 35 30 1, o 7 (.alloc [.s (⟨#[]⟩), .e (cs [.s]), .e Zc1]), on (.store 3 (t 7) (t 34)), mV 8 35])
 (.seq (.seq (.reg [mV 36 6, mV 37 8, o 38 (.bin .neq (t 36) (t 37)), mV 39 38, og 40 39 false (.load true 3 (t 5)), og 41 39 false (.load true 3 (t 7)), og 42 39 false (.call 235 [(t 40), (t 41)]), og 43 39 false (.not (t 42)), o 44 (.pick (t 39) (kb true) (t 43))])
 (.cond (t 44) (.seq (.reg [o 4 (.mv (kb false))])
 (.fz [4] .ret))
 .skip))
 (.seq (.reg [o 46 (.load true 3 (t 2)), o 47 (.load true 3 (t 2)), o 48 (.call 237 [(t 46), (t 47)]), mV 45 48, eX 49 45 0, eX 50 45 1, o 9 (.alloc [.s (⟨#[]⟩), .e (cs [.s]), .e Zc1]), on (.store 3 (t 9) (t 49)), mV 10 50])
 (.seq (.reg [mV 51 10, o 52 (.load true 3 (t 2)), o 53 (.call 231 [(t 52)]), o 54 (.bin .eql (t 51) (t 53)), mV 55 54, og 56 55 true (.mv (t 10)), og 57 55 true (.bin .neq (t 56) (k 0)), og 58 55 true (.mv (t 57)), og 59 58 false (.load true 3 (t 9)), og 60 58 false (.load true 3 (t 2)), og 61 58 false (.call 236 [(t 59), (t 60)]), og 62 55 true (.pick (t 58) (kb true) (t 61)), o 63 (.pick (t 55) (t 62) (kb false)), mV 4 63])
 (.fz [4] .ret))))))))
def Yi0 : VFn := ⟨true, 64, [.t 4], Yo7⟩
noncomputable def q70_f (lo : Lo) : FnE := ⟨221, true, ⟨[0, 1], [.ag [.s, .l (cs [.s]), .l Zc1], .ag [.s, .l (cs [.s]), .l Zc1]], [], Zc5⟩, .b, [], (cs [.b]), (fun x => q70 lo x.1 x.2.1 x.2.2.1 x.2.2.2.1 x.2.2.2.2.1 x.2.2.2.2.2 : Zp39 -> Option Bool)⟩
theorem Yxe (lo : Lo) : ∀ x : Zp39, evP (⟨pf, fs70 lo, [], 0⟩ : Tabs) Yi0 ⟨[0, 1], [.ag [.s, .l (cs [.s]), .l Zc1], .ag [.s, .l (cs [.s]), .l Zc1]], [], Zc5⟩ (.b) (cs [.b]) x = q70 lo x.1 x.2.1 x.2.2.1 x.2.2.2.1 x.2.2.2.2.1 x.2.2.2.2.2 := fun x => by kernel_rfl
theorem Yxf {P : Program} {fm : FM} {lo : Lo} (hlo : LoOK lo) (hS : Yx2 P fm ⟨pf, fs70 lo, [], 0⟩) (hm : P.follows .mixedOrders = true) (htie : Ti P fm 221 Yi0) : Yx2 P fm ⟨pf, q70_f lo :: fs70 lo, [], 0⟩ :=
  Yah hS hm [] (q70_f lo) rfl Yi0 htie (by decide) rfl (Nat.le_of_ble_eq_true (by kernel_rfl)) (fun C hT => show LK C _ Yo7 from ⟨tv, ⟨⟨tv, ⟨⟨tv, tv⟩, tv⟩⟩, ⟨tv, ⟨tv, ⟨⟨tv, ⟨⟨tv, tv⟩, tv⟩⟩, ⟨tv, ⟨tv, tv⟩⟩⟩⟩⟩⟩⟩) (fun x y h => (Yxe lo x).trans h)
noncomputable def fs71 (lo : Lo) : List FnE := q70_f lo :: fs70 lo
end Go.Abs.G03
