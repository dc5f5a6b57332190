/- Functions of the program as functions of data (written by program). No condition. -/
import Derived.Test.YtkgoecnchnbbfaaB
set_option linter.unusedVariables false
set_option linter.unusedSimpArgs false
set_option linter.unusedSectionVars false
open List renaming getElem?_eq_some_iff → YxR, getElem?_eq_getElem → YxS, mem_of_getElem? → YxT, getElem?_map → YxU, map_cons → YxV, getElem?_append_left → YxW, map_nil → YxX, getElem?_append_right → YxY, getElem?_set_ne → YxZ, length_eq_zero_iff → Yx0, getElem?_set_self → Yx1, mem_iff_getElem? → Yx2, getElem?_take → Yx3, mem_cons_self → Yx4, mem_singleton → Yx5, getElem?_eq_none → Yx6, mem_cons → Yx7, append_assoc → Yx8, getElem?_drop → Yx9, all_eq_true → Yya, length_cons → Yyb, getD_eq_getElem?_getD → Yyc, cons_append → Yyd, getElem?_range → Yye, mem_map → Yyf, length_map → Yyg, take_length → Yyh, mem_cons_of_mem → Yyi, map_map → Yyj, mem_append → Yyk, getElem?_replicate → Yyl, ext_getElem? → Yym, mem_iff_getElem → Yyn, nil_append → Yyo, mem_filter → Yyp, append_nil → Yyq, any_eq_true → Yyr, drop_zero → Yys, getElem?_cons_succ → Yyt, getElem_mem → Yyu, mem_append_left → Yyv, getElem?_eq_none_iff → Yyw
namespace Go.Abs.G03
open Go Go.Abs
abbrev Zt0 : Type := List (Int × Int × ByteArray)
abbrev Zc4 : Cs := cs [I, I, .s]
abbrev Zc1 : Cs := cs [I, .l Zc4]
abbrev Zt2 : Type := List ByteArray
abbrev Zt3 : Type := List (Int × Zt0)
abbrev Zt5 : Type := List (Int × ByteArray × Zt0)
abbrev Zc6 : Cs := cs [.s, .l (cs [.s]), .l Zc1, .s, .l (cs [.s]), .l Zc1]
abbrev Zc13 : Cs := cs [I, .s, .l Zc4]
abbrev Zc7 : Cs := cs [.l (cs [I]), .l Zc1, I, I, .s, .l (cs [.s]), .l Zc1, .s, .l (cs [.s]), .l Zc1, .s, I, .l Zc13, .b, .l (cs [.s]), .l Zc1]
abbrev Zt8 : Type := List (Int × ByteArray × Bool)
abbrev Zc9 : Cs := cs [.l (cs [.s])]
abbrev Zc10 : Cs := cs [.s, .l (cs [.s]), .l Zc1]
abbrev Zc11 : Cs := cs [I, I, I, .b, .b, .l (cs [.s])]
abbrev Zc12 : Cs := cs [.s, .l (cs [.s]), .l Zc1, .i .u32]
abbrev Zc14 : Cs := cs [.i .u32, I, .s, .l (cs [.s]), .l Zc1, .s, .l (cs [.s]), .l Zc1, .s, .l (cs [.s]), .l Zc1]
abbrev Zc15 : Cs := cs [.s, .l (cs [.s]), .l Zc1, I]
abbrev Zc16 : Cs := cs [.i .u32, .s, .l (cs [.s]), .l Zc1, .s, .l (cs [.s]), .l Zc1, .s, .l (cs [.s]), .l Zc1]
abbrev Zc17 : Cs := cs [I, I, I, .l (cs [.s])]
abbrev Zc18 : Cs := cs [.l (cs [I]), .l Zc1, I, I, .l Zc1, I, I, .s, .l (cs [.s]), .l Zc1, .s, .l (cs [.s]), .l Zc1, .s, I, .l Zc13, .b, I, .l Zc4, .l (cs [.s]), .l Zc1]
abbrev Zc19 : Cs := cs [.l (cs [.s]), I, I, .s, .l (cs [.s]), .l Zc1, .s, .l (cs [.s]), .l Zc1, .s, .l (cs [.s]), .l Zc1, .s, .l (cs [I]), .l (cs [.s]), .l Zc1]
abbrev Zc20 : Cs := cs [.i .u32, .l Zc1, I, I, .l Zc4, I, I, .s, .l (cs [.s]), .l Zc1, .s, I, .l (cs [I, .s, .b]), .b, I, .l (cs [.s]), .l Zc1, .l Zc4]
abbrev Zc21 : Cs := cs [I, I, .l (cs [.s])]
abbrev Zc22 : Cs := cs [.l Zc4]
abbrev Zp23 : Type := (List Int) × Zt3 × Int × Int × Zt3 × Int × Int × ByteArray × Zt2 × Zt3 × ByteArray × Zt2 × Zt3 × ByteArray × Int × Zt5 × Bool × Int × Zt0 × Zt2 × Zt3
abbrev Zp24 : Type := Zt2 × Int × Int × ByteArray × Zt2 × Zt3 × ByteArray × Zt2 × Zt3 × ByteArray × Zt2 × Zt3 × ByteArray × (List Int) × Zt2 × Zt3
abbrev Zp25 : Type := (List Int) × Zt3 × Int × Int × ByteArray × Zt2 × Zt3 × ByteArray × Zt2 × Zt3 × ByteArray × Int × Zt5 × Bool × Zt2 × Zt3
abbrev Zp26 : Type := Int × Zt3 × Int × Int × Zt0 × Int × Int × ByteArray × Zt2 × Zt3 × ByteArray × Int × Zt8 × Bool × Int × Zt2 × Zt3 × Zt0
abbrev Zp27 : Type := (ByteArray × Zt2 × Zt3 × ByteArray × Int × Zt5 × Bool × Zt2 × Int × Int × (List Int) × Bool × Zt2 × Zt3)
abbrev Zp28 : Type := Int × Zt2 × Int × Int × ByteArray × Zt2 × Zt3 × ByteArray × Zt2 × Zt3 × ByteArray × Zt2 × Zt3
abbrev Zp29 : Type := Int × Zt3 × Int × Int × ByteArray × Zt2 × Zt3 × ByteArray × Int × Zt8 × Bool × Zt2 × Zt3
abbrev Zp30 : Type := Int × Int × ByteArray × Zt2 × Zt3 × ByteArray × Int × Zt5 × Bool × Zt2 × Zt2 × Zt3
abbrev Zp31 : Type := Int × Int × ByteArray × Zt2 × Zt3 × ByteArray × Zt2 × Zt3 × ByteArray × Zt2 × Zt3
abbrev Zp32 : Type := (ByteArray × Zt2 × Zt3 × ByteArray × Int × Zt5 × Bool × Zt2 × Zt2 × Zt3)
abbrev Zp33 : Type := Int × ByteArray × Zt2 × Zt3 × ByteArray × Zt2 × Zt3
abbrev Zp34 : Type := Int × Zt3 × Int × Int × ByteArray × Zt2 × Zt3
abbrev Zp35 : Type := Int × Int × Int × Int × ByteArray × ByteArray
abbrev Zp36 : Type := ByteArray × Zt2 × Zt3 × ByteArray × Zt2 × Zt3
abbrev Zp37 : Type := Zt0 × Zt0 × (List Int) × Int × Int × Zt0
abbrev Zp38 : Type := Zt2 × Int × Int × ByteArray × Zt2 × Zt3
abbrev Zp39 : Type := Int × Int × Int × Bool × Bool × Zt2
abbrev Zp40 : Type := Int × Int × ByteArray × Zt2 × Zt3
abbrev mV (n a : Nat) : VI := o n (.mv (t a))
abbrev lD (n a : Nat) : VI := o n (.load false 1 (t a))
abbrev fD (n i a : Nat) : VI := o n (.fad i (t a))
abbrev eX (n a i : Nat) : VI := o n (.ext (t a) i)
abbrev lN (n a : Nat) : VI := o n (.len (t a))
theorem tv : True := trivial
abbrev LK (C : Ctx) (T : Tabs) (c : VCode) : Prop := LsOK (fun _ => False) [] C T c
set_option maxRecDepth 100000
set_option maxHeartbeats 1000000
abbrev pf : Nat -> Bool := fun g => !(List.any ([310, 277, 278, 286, 293, 149, 151, 298, 299, 309, 164, 196, 323, 324, 327, 271, 288, 301, 307, 311, 312, 313, 315, 316, 318, 319, 321, 322, 326, 269, 305] : List Nat) (Nat.beq g))
abbrev Ti (P : Program) (fm : FM) (g : Nat) (F : VFn) : Prop := ∀ f, fm f = g -> fnTr P fm pf f = some (F.slots, F.res, F.code.er)
def fs0 (_ : Lo) : List FnE := []
def q0 (lo : Lo) (n0 : Int) : Option (Int × Int × ByteArray) :=
  some ((1 : Int), n0, (ByteArray.mk #[]))
def Ymi : VCode :=
 (.seq (.reg [o 2 (.alloc [.i .i64 0, .i .i64 0, .s (⟨#[]⟩)])])
 (.seq (.reg [mV 3 0, o 4 (.build [.i .i64 0, .i .i64 0, .s (⟨#[]⟩)] [(0, 1, (k 1)), (1, 1, (t 3))]), on (.store 3 (t 2) (t 4))])
 (.fz [2] .ret)))
def Yf1 : VFn := ⟨true, 5, [.c 2 true 3], Ymi⟩
def Yf2 (lo : Lo) : FnE := ⟨291, true, ⟨[0], [.i .i64], [], (cs [I])⟩, .ag [.i .i64, .i .i64, .s], [], Zc4, (fun x => q0 lo x : Int -> Option (Int × Int × ByteArray))⟩
theorem Yts (lo : Lo) : ∀ x : Int, evP (⟨pf, fs0 lo, [], 0⟩ : Tabs) Yf1 ⟨[0], [.i .i64], [], (cs [I])⟩ (.ag [.i .i64, .i .i64, .s]) Zc4 x = q0 lo x := fun x => by kernel_rfl
theorem Ytt {P : Program} {fm : FM} {lo : Lo} (hlo : LoOK lo) (hS : Sound P fm ⟨pf, fs0 lo, [], 0⟩) (hm : P.follows .mixedOrders = true) (htie : Ti P fm 291 Yf1) : Sound P fm ⟨pf, Yf2 lo :: fs0 lo, [], 0⟩ :=
  Yaf hS hm [] (Yf2 lo) rfl Yf1 htie (by decide) rfl (Nat.le_of_ble_eq_true (by kernel_rfl)) (fun C hT => show LK C _ Ymi from ⟨tv, ⟨tv, tv⟩⟩) (fun x y h => (Yts lo x).trans h)
def fs1 (lo : Lo) : List FnE := Yf2 lo :: fs0 lo
def q1 (lo : Lo) (s0 : ByteArray) : Option (Int × Int × ByteArray) :=
  some ((2 : Int), (0 : Int), s0)
def Ymj : VCode :=
 (.seq (.reg [o 2 (.alloc [.i .i64 0, .i .i64 0, .s (⟨#[]⟩)])])
 (.seq (.reg [mV 3 0, o 4 (.build [.i .i64 0, .i .i64 0, .s (⟨#[]⟩)] [(0, 1, (k 2)), (2, 1, (t 3))]), on (.store 3 (t 2) (t 4))])
 (.fz [2] .ret)))
def Yf3 : VFn := ⟨true, 5, [.c 2 true 3], Ymj⟩
def Yf4 (lo : Lo) : FnE := ⟨292, true, ⟨[0], [.s], [], (cs [.s])⟩, .ag [.i .i64, .i .i64, .s], [], Zc4, (fun x => q1 lo x : ByteArray -> Option (Int × Int × ByteArray))⟩
theorem Ytu (lo : Lo) : ∀ x : ByteArray, evP (⟨pf, fs1 lo, [], 0⟩ : Tabs) Yf3 ⟨[0], [.s], [], (cs [.s])⟩ (.ag [.i .i64, .i .i64, .s]) Zc4 x = q1 lo x := fun x => by kernel_rfl
theorem Ytv {P : Program} {fm : FM} {lo : Lo} (hlo : LoOK lo) (hS : Sound P fm ⟨pf, fs1 lo, [], 0⟩) (hm : P.follows .mixedOrders = true) (htie : Ti P fm 292 Yf3) : Sound P fm ⟨pf, Yf4 lo :: fs1 lo, [], 0⟩ :=
  Yaf hS hm [] (Yf4 lo) rfl Yf3 htie (by decide) rfl (Nat.le_of_ble_eq_true (by kernel_rfl)) (fun C hT => show LK C _ Ymj from ⟨tv, ⟨tv, tv⟩⟩) (fun x y h => (Ytu lo x).trans h)
def fs2 (lo : Lo) : List FnE := Yf4 lo :: fs1 lo
def q2 (lo : Lo) : Option (ByteArray × Zt2 × Zt3) :=
  Option.bind (q0 lo (5 : Int)) fun y0 => Option.bind (q1 lo (ByteArray.mk #[120])) fun y1 => Option.bind (q0 lo (5 : Int)) fun y2 => Option.bind (q1 lo (ByteArray.mk #[121])) fun y3 => Option.bind (q0 lo (7 : Int)) fun y4 => Option.bind (q1 lo (ByteArray.mk #[120])) fun y5 => some ((ByteArray.mk #[114]), [(ByteArray.mk #[97]), (ByteArray.mk #[98])], [((1 : Int), [y0, y1]), ((2 : Int), [y2, y3]), ((4 : Int), [y4, y5])])
def Ymk : VCode :=
 (.seq (.reg [o 0 (.alloc [.s (⟨#[]⟩), .e (cs [.s]), .e Zc1])])
 (.seq (.reg [o 1 (.mv (.c (.f 291)))])
 (.seq (.reg [o 2 (.mv (.c (.f 292)))])
 (.seq (.reg [o 3 (.bsl (cs [.s]) 2 [(0, (ks (⟨#[97]⟩))), (1, (ks (⟨#[98]⟩)))]), mV 4 1, o 5 (.dyn (t 4) [(k 5)]), mV 6 2, o 7 (.dyn (t 6) [(ks (⟨#[120]⟩))]), o 8 (.bsl Zc4 2 [(0, (t 5)), (1, (t 7))]), o 9 (.build [.i .i64 0, .e Zc4] [(0, 1, (k 1)), (1, 1, (t 8))]), mV 10 1, o 11 (.dyn (t 10) [(k 5)]), mV 12 2, o 13 (.dyn (t 12) [(ks (⟨#[121]⟩))]), o 14 (.bsl Zc4 2 [(0, (t 11)), (1, (t 13))]), o 15 (.build [.i .i64 0, .e Zc4] [(0, 1, (k 2)), (1, 1, (t 14))]), mV 16 1, o 17 (.dyn (t 16) [(k 7)]), mV 18 2, o 19 (.dyn (t 18) [(ks (⟨#[120]⟩))]), o 20 (.bsl Zc4 2 [(0, (t 17)), (1, (t 19))]), o 21 (.build [.i .i64 0, .e Zc4] [(0, 1, (k 4)), (1, 1, (t 20))]), o 22 (.bsl Zc1 3 [(0, (t 9)), (1, (t 15)), (2, (t 21))]), o 23 (.build [.s (⟨#[]⟩), .e (cs [.s]), .e Zc1] [(0, 1, (ks (⟨#[114]⟩))), (1, 1, (t 3)), (2, 1, (t 22))]), on (.store 3 (t 0) (t 23))])
 (.fz [0] .ret)))))
def Yf5 : VFn := ⟨true, 24, [.c 0 true 3], Ymk⟩
def Yf6 (lo : Lo) : FnE := ⟨254, true, ⟨[], [], [], (cs [])⟩, .ag [.s, .l (cs [.s]), .l Zc1], [], Zc10, (fun x => q2 lo  : Unit -> Option (ByteArray × Zt2 × Zt3))⟩
theorem Ytw (lo : Lo) : ∀ x : Unit, evP (⟨pf, fs2 lo, [], 0⟩ : Tabs) Yf5 ⟨[], [], [], (cs [])⟩ (.ag [.s, .l (cs [.s]), .l Zc1]) Zc10 x = q2 lo  := fun x => by kernel_rfl
theorem Ytx {P : Program} {fm : FM} {lo : Lo} (hlo : LoOK lo) (hS : Sound P fm ⟨pf, fs2 lo, [], 0⟩) (hm : P.follows .mixedOrders = true) (htie : Ti P fm 254 Yf5) : Sound P fm ⟨pf, Yf6 lo :: fs2 lo, [], 0⟩ :=
  Yaf hS hm [] (Yf6 lo) rfl Yf5 htie (by decide) rfl (Nat.le_of_ble_eq_true (by kernel_rfl)) (fun C hT => show LK C _ Ymk from ⟨tv, ⟨tv, ⟨tv, ⟨tv, tv⟩⟩⟩⟩) (fun x y h => (Ytw lo x).trans h)
def fs3 (lo : Lo) : List FnE := Yf6 lo :: fs2 lo
def q3_L3_b : VCode :=
 (.seq (.reg [o 20 (.bin .lss (t 19) (t 18))])
 (.seq (.cond (t 20) .skip
 (.exit 0))
 (.seq (.blk 1 (.seq (.reg [mV 21 19, mV 3 21])
 (.seq (.reg [mV 22 0, mV 23 3, o 24 (.idx (t 22) (t 23)), mV 4 24])
 (.seq (.reg [mV 25 4, o 26 (.bin .geq (t 25) (ki .u8 97)), mV 27 26, og 28 27 true (.mv (t 4)), og 29 27 true (.bin .leq (t 28) (ki .u8 122)), o 30 (.pick (t 27) (t 29) (kb false)), mV 31 30, og 32 31 false (.mv (t 4)), og 33 31 false (.bin .geq (t 32) (ki .u8 65)), og 34 31 false (.mv (t 33)), og 35 34 true (.mv (t 4)), og 36 34 true (.bin .leq (t 35) (ki .u8 90)), og 37 31 false (.pick (t 34) (t 36) (kb false)), o 38 (.pick (t 31) (kb true) (t 37)), mV 39 38, og 40 39 false (.mv (t 4)), og 41 39 false (.bin .eql (t 40) (ki .u8 95)), o 42 (.pick (t 39) (kb true) (t 41)), mV 5 42])
 (.seq (.reg [mV 43 5, o 44 (.not (t 43)), mV 45 44, og 46 45 true (.mv (t 3)), og 47 45 true (.bin .eql (t 46) (k 0)), og 48 45 true (.mv (t 47)), og 49 48 false (.mv (t 4)), og 50 48 false (.bin .lss (t 49) (ki .u8 48)), og 51 45 true (.pick (t 48) (kb true) (t 50)), og 52 45 true (.mv (t 51)), og 53 52 false (.mv (t 4)), og 54 52 false (.bin .gtr (t 53) (ki .u8 57)), og 55 45 true (.pick (t 52) (kb true) (t 54)), o 56 (.pick (t 45) (t 55) (kb false))])
 (.cond (t 56) (.seq (.reg [o 2 (.mv (kb false))])
 (.fz [2] .ret))
 .skip))))))
 (.reg [o 57 (.bin .add (t 19) (k 1)), mV 19 57]))))
def Yml : Sg := ⟨[0, 18, 19], [.s, .i .i64, .i .i64], [], (cs [.s, I, I])⟩
def Ymm : List Out1 := [⟨.ret, ⟨[2], [.b], [], (cs [.b])⟩⟩, ⟨.exit 0, ⟨[], [], [], (cs [])⟩⟩]
def YdX (lo : Lo) : ByteArray × Int × Int -> Option ((ByteArray × Int × Int) ⊕ (Bool ⊕ Unit)) := fun x => match x with
  | (s0, v18, v19) => bif (decide (v19 < v18)) then (chk (0 <= v19 /\ v19 < (s0.size : Int)) (bif (decide ((97 : Int) <= (byteI s0 v19))) then (bif (decide ((byteI s0 v19) <= (122 : Int))) then (bif (!true) then (bif (decide (v19 = (0 : Int))) then (some (.inr (.inl false))) else (bif (decide ((byteI s0 v19) < (48 : Int))) then (some (.inr (.inl false))) else (bif (decide ((57 : Int) < (byteI s0 v19))) then (some (.inr (.inl false))) else (some (.inl (s0, v18, (IntKind.wrap .i64 (v19 + (1 : Int))))))))) else (some (.inl (s0, v18, (IntKind.wrap .i64 (v19 + (1 : Int))))))) else (bif (decide ((65 : Int) <= (byteI s0 v19))) then (bif (decide ((byteI s0 v19) <= (90 : Int))) then (bif (!true) then (bif (decide (v19 = (0 : Int))) then (some (.inr (.inl false))) else (bif (decide ((byteI s0 v19) < (48 : Int))) then (some (.inr (.inl false))) else (bif (decide ((57 : Int) < (byteI s0 v19))) then (some (.inr (.inl false))) else (some (.inl (s0, v18, (IntKind.wrap .i64 (v19 + (1 : Int))))))))) else (some (.inl (s0, v18, (IntKind.wrap .i64 (v19 + (1 : Int))))))) else (bif (!(decide ((byteI s0 v19) = (95 : Int)))) then (bif (decide (v19 = (0 : Int))) then (some (.inr (.inl false))) else (bif (decide ((byteI s0 v19) < (48 : Int))) then (some (.inr (.inl false))) else (bif (decide ((57 : Int) < (byteI s0 v19))) then (some (.inr (.inl false))) else (some (.inl (s0, v18, (IntKind.wrap .i64 (v19 + (1 : Int))))))))) else (some (.inl (s0, v18, (IntKind.wrap .i64 (v19 + (1 : Int)))))))) else (bif (!(decide ((byteI s0 v19) = (95 : Int)))) then (bif (decide (v19 = (0 : Int))) then (some (.inr (.inl false))) else (bif (decide ((byteI s0 v19) < (48 : Int))) then (some (.inr (.inl false))) else (bif (decide ((57 : Int) < (byteI s0 v19))) then (some (.inr (.inl false))) else (some (.inl (s0, v18, (IntKind.wrap .i64 (v19 + (1 : Int))))))))) else (some (.inl (s0, v18, (IntKind.wrap .i64 (v19 + (1 : Int))))))))) else (bif (decide ((65 : Int) <= (byteI s0 v19))) then (bif (decide ((byteI s0 v19) <= (90 : Int))) then (bif (!true) then (bif (decide (v19 = (0 : Int))) then (some (.inr (.inl false))) else (bif (decide ((byteI s0 v19) < (48 : Int))) then (some (.inr (.inl false))) else (bif (decide ((57 : Int) < (byteI s0 v19))) then (some (.inr (.inl false))) else (some (.inl (s0, v18, (IntKind.wrap .i64 (v19 + (1 : Int))))))))) else (some (.inl (s0, v18, (IntKind.wrap .i64 (v19 + (1 : Int))))))) else (bif (!(decide ((byteI s0 v19) = (95 : Int)))) then (bif (decide (v19 = (0 : Int))) then (some (.inr (.inl false))) else (bif (decide ((byteI s0 v19) < (48 : Int))) then (some (.inr (.inl false))) else (bif (decide ((57 : Int) < (byteI s0 v19))) then (some (.inr (.inl false))) else (some (.inl (s0, v18, (IntKind.wrap .i64 (v19 + (1 : Int))))))))) else (some (.inl (s0, v18, (IntKind.wrap .i64 (v19 + (1 : Int)))))))) else (bif (!(decide ((byteI s0 v19) = (95 : Int)))) then (bif (decide (v19 = (0 : Int))) then (some (.inr (.inl false))) else (bif (decide ((byteI s0 v19) < (48 : Int))) then (some (.inr (.inl false))) else (bif (decide ((57 : Int) < (byteI s0 v19))) then (some (.inr (.inl false))) else (some (.inl (s0, v18, (IntKind.wrap .i64 (v19 + (1 : Int))))))))) else (some (.inl (s0, v18, (IntKind.wrap .i64 (v19 + (1 : Int)))))))))) else (some (.inr (.inr ())))
theorem Yty (lo : Lo) : ∀ x : ByteArray × Int × Int, stepL (⟨pf, fs3 lo, [], 0⟩ : Tabs) [] Yml Ymm q3_L3_b x = YdX lo x := fun x => by kernel_rfl
def Yf7 (lo : Lo) : ByteArray × Int × Int -> Option (Bool ⊕ Unit) := lo.run (YdX lo)
def Yf8 (lo : Lo) : LpE := ⟨3, [], Yml, Ymm, Yf7 lo⟩
theorem Ytz {lo : Lo} (hlo : LoOK lo) (C : Ctx) (hT : TOK (⟨pf, fs3 lo, [], 0⟩ : Tabs) C) : LpSound (fun _ => False) [] 0 C (.loop q3_L3_b.er) (Yf8 lo) :=
  Yak hT frNo (show LK C _ q3_L3_b from ⟨tv, ⟨⟨tv, tv⟩, ⟨⟨tv, ⟨tv, ⟨tv, ⟨tv, ⟨⟨tv, tv⟩, tv⟩⟩⟩⟩⟩, tv⟩⟩⟩) (fun x y h => Yal (Yty lo) (hlo _ _ _ h))
def q3 (lo : Lo) (s0 : ByteArray) : Option Bool :=
  bif (decide (s0 = (ByteArray.mk #[]))) then (some false) else (bif (decide ((24 : Int) < (s0.size : Int))) then (some false) else (bif (decide (s0 = (ByteArray.mk #[110, 117, 108, 108]))) then (some false) else (Option.bind (Yf7 lo (s0, (s0.size : Int), (0 : Int))) fun y7 => alt2 y7 (fun y8 => some y8) (fun y9 => some true))))
def Ymn : VCode :=
 (.seq (.reg [o 2 (.mv (kb false))])
 (.seq (.seq (.reg [mV 6 0, o 7 (.bin .eql (t 6) (ks (⟨#[]⟩))), mV 8 7, og 9 8 false (.mv (t 0)), og 10 8 false (.lenS (t 9)), og 11 8 false (.bin .gtr (t 10) (k 24)), o 12 (.pick (t 8) (kb true) (t 11)), mV 13 12, og 14 13 false (.mv (t 0)), og 15 13 false (.bin .eql (t 14) (ks (⟨#[110, 117, 108, 108]⟩))), o 16 (.pick (t 13) (kb true) (t 15))])
 (.cond (t 16) (.seq (.reg [o 2 (.mv (kb false))])
 (.fz [2] .ret))
 .skip))
 (.seq (.seq (.reg [mV 17 0, o 18 (.lenS (t 17)), o 19 (.mv (k 0))])
 (.blk 0 (.loop 3 q3_L3_b)))
 (.seq (.reg [o 2 (.mv (kb true))])
 (.fz [2] .ret)))))
def Yf9 : VFn := ⟨true, 58, [.t 2], Ymn⟩
def Yga (lo : Lo) : FnE := ⟨255, true, ⟨[0], [.s], [], (cs [.s])⟩, .b, [], (cs [.b]), (fun x => q3 lo x : ByteArray -> Option Bool)⟩
theorem YtA (lo : Lo) : ∀ x : ByteArray, evP (⟨pf, fs3 lo, [Yf8 lo], 0⟩ : Tabs) Yf9 ⟨[0], [.s], [], (cs [.s])⟩ (.b) (cs [.b]) x = q3 lo x := fun x => by kernel_rfl
theorem YtB {P : Program} {fm : FM} {lo : Lo} (hlo : LoOK lo) (hS : Sound P fm ⟨pf, fs3 lo, [], 0⟩) (hm : P.follows .mixedOrders = true) (htie : Ti P fm 255 Yf9) : Sound P fm ⟨pf, Yga lo :: fs3 lo, [], 0⟩ :=
  Yaf hS hm [Yf8 lo] (Yga lo) rfl Yf9 htie (by decide) rfl (Nat.le_of_ble_eq_true (by kernel_rfl)) (fun C hT => show LK C _ Ymn from ⟨tv, ⟨⟨tv, ⟨⟨tv, tv⟩, tv⟩⟩, ⟨⟨tv, (lsGet (by kernel_rfl) (Ytz hlo C (Yai hT)))⟩, ⟨tv, tv⟩⟩⟩⟩) (fun x y h => (YtA lo x).trans h)
def fs4 (lo : Lo) : List FnE := Yga lo :: fs3 lo
def q4_L3_b : VCode :=
 (.seq (.reg [o 9 (.bin .lss (t 8) (t 7))])
 (.seq (.cond (t 9) .skip
 (.exit 0))
 (.seq (.blk 1 (.seq (.reg [mV 10 8, mV 5 10])
 (.seq (.reg [mV 11 1, mV 12 0, mV 13 5, o 14 (.iad 1 (t 12) (t 13)), lD 15 14, o 16 (.bin .eql (t 11) (t 15))])
 (.cond (t 16) (.seq (.reg [mV 17 5, mV 4 17])
 (.fz [4] .ret))
 .skip))))
 (.reg [o 18 (.bin .add (t 8) (k 1)), mV 8 18]))))
def Ymo : Sg := ⟨[0, 1, 7, 8], [.l (cs [.s]), .s, .i .i64, .i .i64], [], (cs [.l (cs [.s]), .s, I, I])⟩
def Ymp : List Out1 := [⟨.ret, ⟨[4], [.i .i64], [], (cs [I])⟩⟩, ⟨.exit 0, ⟨[], [], [], (cs [])⟩⟩]
def YdY (lo : Lo) : Zt2 × ByteArray × Int × Int -> Option ((Zt2 × ByteArray × Int × Int) ⊕ (Int ⊕ Unit)) := fun x => match x with
  | (s0, v1, v7, v8) => bif (decide (v8 < v7)) then (chk (0 <= v8 /\ v8 < (s0.length : Int)) (bif (decide (v1 = (s0.getD v8.toNat (ByteArray.mk #[])))) then (some (.inr (.inl v8))) else (some (.inl (s0, v1, v7, (IntKind.wrap .i64 (v8 + (1 : Int)))))))) else (some (.inr (.inr ())))
theorem YtC (lo : Lo) : ∀ x : Zt2 × ByteArray × Int × Int, stepL (⟨pf, fs4 lo, [], 0⟩ : Tabs) [] Ymo Ymp q4_L3_b x = YdY lo x := fun x => by kernel_rfl
def Ygb (lo : Lo) : Zt2 × ByteArray × Int × Int -> Option (Int ⊕ Unit) := lo.run (YdY lo)
def Ygc (lo : Lo) : LpE := ⟨3, [], Ymo, Ymp, Ygb lo⟩
theorem YtD {lo : Lo} (hlo : LoOK lo) (C : Ctx) (hT : TOK (⟨pf, fs4 lo, [], 0⟩ : Tabs) C) : LpSound (fun _ => False) [] 0 C (.loop q4_L3_b.er) (Ygc lo) :=
  Yak hT frNo (show LK C _ q4_L3_b from ⟨tv, ⟨⟨tv, tv⟩, ⟨⟨tv, ⟨tv, ⟨⟨tv, tv⟩, tv⟩⟩⟩, tv⟩⟩⟩) (fun x y h => Yal (YtC lo) (hlo _ _ _ h))
def q4 (lo : Lo) (s0 : List ByteArray) (v1 : ByteArray) : Option Int :=
  Option.bind (Ygb lo (s0, v1, (s0.length : Int), (0 : Int))) fun y12 => alt2 y12 (fun y13 => some y13) (fun y14 => some (-1 : Int))
def Ymq : VCode :=
 (.seq (.reg [o 4 (.mv (k 0))])
 (.seq (.seq (.reg [mV 6 0, lN 7 6, o 8 (.mv (k 0))])
 (.blk 0 (.loop 3 q4_L3_b)))
 (.seq (.reg [o 4 (.mv (k (-1)))])
 (.fz [4] .ret))))
def Ygd : VFn := ⟨true, 19, [.t 4], Ymq⟩
def Yge (lo : Lo) : FnE := ⟨173, true, ⟨[0, 1], [.l (cs [.s]), .s], [], (cs [.l (cs [.s]), .s])⟩, .i .i64, [], (cs [I]), (fun x => q4 lo x.1 x.2 : Zt2 × ByteArray -> Option Int)⟩
theorem YtE (lo : Lo) : ∀ x : Zt2 × ByteArray, evP (⟨pf, fs4 lo, [Ygc lo], 0⟩ : Tabs) Ygd ⟨[0, 1], [.l (cs [.s]), .s], [], (cs [.l (cs [.s]), .s])⟩ (.i .i64) (cs [I]) x = q4 lo x.1 x.2 := fun x => by kernel_rfl
theorem YtF {P : Program} {fm : FM} {lo : Lo} (hlo : LoOK lo) (hS : Sound P fm ⟨pf, fs4 lo, [], 0⟩) (hm : P.follows .mixedOrders = true) (htie : Ti P fm 173 Ygd) : Sound P fm ⟨pf, Yge lo :: fs4 lo, [], 0⟩ :=
  Yaf hS hm [Ygc lo] (Yge lo) rfl Ygd htie (by decide) rfl (Nat.le_of_ble_eq_true (by kernel_rfl)) (fun C hT => show LK C _ Ymq from ⟨tv, ⟨⟨tv, (lsGet (by kernel_rfl) (YtD hlo C (Yai hT)))⟩, ⟨tv, tv⟩⟩⟩) (fun x y h => (YtE lo x).trans h)
def fs5 (lo : Lo) : List FnE := Yge lo :: fs4 lo
def q5 (lo : Lo) (s0 : List ByteArray) (v1 : ByteArray) : Option Bool :=
  Option.bind (q4 lo s0 v1) fun y15 => some (decide ((0 : Int) <= y15))
def Ymr : VCode :=
 (.seq (.reg [o 4 (.mv (kb false))])
 (.seq (.reg [mV 5 0, mV 6 1, o 7 (.call 173 [(t 5), (t 6)]), o 8 (.bin .geq (t 7) (k 0)), mV 4 8])
 (.fz [4] .ret)))
def Ygf : VFn := ⟨true, 9, [.t 4], Ymr⟩
def Ygg (lo : Lo) : FnE := ⟨256, true, ⟨[0, 1], [.l (cs [.s]), .s], [], (cs [.l (cs [.s]), .s])⟩, .b, [], (cs [.b]), (fun x => q5 lo x.1 x.2 : Zt2 × ByteArray -> Option Bool)⟩
theorem YtG (lo : Lo) : ∀ x : Zt2 × ByteArray, evP (⟨pf, fs5 lo, [], 0⟩ : Tabs) Ygf ⟨[0, 1], [.l (cs [.s]), .s], [], (cs [.l (cs [.s]), .s])⟩ (.b) (cs [.b]) x = q5 lo x.1 x.2 := fun x => by kernel_rfl
theorem YtH {P : Program} {fm : FM} {lo : Lo} (hlo : LoOK lo) (hS : Sound P fm ⟨pf, fs5 lo, [], 0⟩) (hm : P.follows .mixedOrders = true) (htie : Ti P fm 256 Ygf) : Sound P fm ⟨pf, Ygg lo :: fs5 lo, [], 0⟩ :=
  Yaf hS hm [] (Ygg lo) rfl Ygf htie (by decide) rfl (Nat.le_of_ble_eq_true (by kernel_rfl)) (fun C hT => show LK C _ Ymr from ⟨tv, ⟨tv, tv⟩⟩) (fun x y h => (YtG lo x).trans h)
def fs6 (lo : Lo) : List FnE := Ygg lo :: fs5 lo
def q6 (lo : Lo) (v0_0 : Int) (v0_1 : Int) (v0_2 : ByteArray) : Option Bool :=
  bif (decide (v0_0 = (0 : Int))) then (bif (decide (v0_1 = (0 : Int))) then (some (decide (v0_2 = (ByteArray.mk #[])))) else (some false)) else (bif (decide (v0_0 = (1 : Int))) then (some (decide (v0_2 = (ByteArray.mk #[])))) else (bif (decide (v0_0 = (2 : Int))) then (bif (decide (v0_1 = (0 : Int))) then (some (decide ((v0_2.size : Int) <= (200 : Int)))) else (some false)) else (bif (decide (v0_0 = (3 : Int))) then (bif (decide ((1 : Int) <= v0_1)) then (some (decide (v0_2 = (ByteArray.mk #[])))) else (some false)) else (some false))))
def Yms : VCode :=
 (.seq (.reg [o 1 (.box (t 0)), o 2 (.mv (kb false))])
 (.seq (.seq (.reg [fD 3 0 1, lD 4 3])
 (.blk 0 (.seq (.reg [o 6 (.bin .eql (t 4) (k 0)), mV 5 6])
 (.cond (t 5) (.seq (.reg [fD 7 1 1, lD 8 7, o 9 (.bin .eql (t 8) (k 0)), mV 10 9, og 11 10 true (.fad 2 (t 1)), og 12 10 true (.load false 1 (t 11)), og 13 10 true (.bin .eql (t 12) (ks (⟨#[]⟩))), o 14 (.pick (t 10) (t 13) (kb false)), mV 2 14])
 (.fz [2] .ret))
 (.seq (.reg [o 16 (.bin .eql (t 4) (k 1)), mV 15 16])
 (.cond (t 15) (.seq (.reg [fD 17 2 1, lD 18 17, o 19 (.bin .eql (t 18) (ks (⟨#[]⟩))), mV 2 19])
 (.fz [2] .ret))
 (.seq (.reg [o 21 (.bin .eql (t 4) (k 2)), mV 20 21])
 (.cond (t 20) (.seq (.reg [fD 22 1 1, lD 23 22, o 24 (.bin .eql (t 23) (k 0)), mV 25 24, og 26 25 true (.fad 2 (t 1)), og 27 25 true (.load false 1 (t 26)), og 28 25 true (.lenS (t 27)), og 29 25 true (.bin .leq (t 28) (k 200)), o 30 (.pick (t 25) (t 29) (kb false)), mV 2 30])
 (.fz [2] .ret))
 (.seq (.reg [o 32 (.bin .eql (t 4) (k 3)), mV 31 32])
 (.cond (t 31) (.seq (.reg [fD 33 1 1, lD 34 33, o 35 (.bin .geq (t 34) (k 1)), mV 36 35, og 37 36 true (.fad 2 (t 1)), og 38 36 true (.load false 1 (t 37)), og 39 36 true (.bin .eql (t 38) (ks (⟨#[]⟩))), o 40 (.pick (t 36) (t 39) (kb false)), mV 2 40])
 (.fz [2] .ret))
 .skip))))))))))
 (.seq (.reg [o 2 (.mv (kb false))])
 (.fz [2] .ret))))
def Ygh : VFn := ⟨true, 41, [.t 2], Yms⟩
def Ygi (lo : Lo) : FnE := ⟨283, true, ⟨[0], [.ag [.i .i64, .i .i64, .s]], [], Zc4⟩, .b, [], (cs [.b]), (fun x => q6 lo x.1 x.2.1 x.2.2 : Int × Int × ByteArray -> Option Bool)⟩
theorem YtI (lo : Lo) : ∀ x : Int × Int × ByteArray, evP (⟨pf, fs6 lo, [], 0⟩ : Tabs) Ygh ⟨[0], [.ag [.i .i64, .i .i64, .s]], [], Zc4⟩ (.b) (cs [.b]) x = q6 lo x.1 x.2.1 x.2.2 := fun x => by kernel_rfl
theorem YtJ {P : Program} {fm : FM} {lo : Lo} (hlo : LoOK lo) (hS : Sound P fm ⟨pf, fs6 lo, [], 0⟩) (hm : P.follows .mixedOrders = true) (htie : Ti P fm 283 Ygh) : Sound P fm ⟨pf, Ygi lo :: fs6 lo, [], 0⟩ :=
  Yaf hS hm [] (Ygi lo) rfl Ygh htie (by decide) rfl (Nat.le_of_ble_eq_true (by kernel_rfl)) (fun C hT => show LK C _ Yms from ⟨tv, ⟨⟨tv, ⟨tv, ⟨⟨tv, tv⟩, ⟨tv, ⟨⟨tv, tv⟩, ⟨tv, ⟨⟨tv, tv⟩, ⟨tv, ⟨⟨tv, tv⟩, tv⟩⟩⟩⟩⟩⟩⟩⟩⟩, ⟨tv, tv⟩⟩⟩) (fun x y h => (YtI lo x).trans h)
def fs7 (lo : Lo) : List FnE := Ygi lo :: fs6 lo
def q7 (lo : Lo) (v0_0 : Int) (v0_1 : Int) (v0_2 : ByteArray) : Option Bool :=
  Option.bind (q6 lo v0_0 v0_1 v0_2) fun y20 => some (!y20)
def Ymt : VCode :=
 (.seq (.reg [o 1 (.box (t 0)), o 2 (.mv (kb false))])
 (.seq (.reg [o 3 (.load true 3 (t 1)), o 4 (.call 283 [(t 3)]), o 5 (.not (t 4)), mV 2 5])
 (.fz [2] .ret)))
def Ygj : VFn := ⟨true, 6, [.t 2], Ymt⟩
def Ygk (lo : Lo) : FnE := ⟨294, true, ⟨[0], [.ag [.i .i64, .i .i64, .s]], [], Zc4⟩, .b, [], (cs [.b]), (fun x => q7 lo x.1 x.2.1 x.2.2 : Int × Int × ByteArray -> Option Bool)⟩
theorem YtK (lo : Lo) : ∀ x : Int × Int × ByteArray, evP (⟨pf, fs7 lo, [], 0⟩ : Tabs) Ygj ⟨[0], [.ag [.i .i64, .i .i64, .s]], [], Zc4⟩ (.b) (cs [.b]) x = q7 lo x.1 x.2.1 x.2.2 := fun x => by kernel_rfl
theorem YtL {P : Program} {fm : FM} {lo : Lo} (hlo : LoOK lo) (hS : Sound P fm ⟨pf, fs7 lo, [], 0⟩) (hm : P.follows .mixedOrders = true) (htie : Ti P fm 294 Ygj) : Sound P fm ⟨pf, Ygk lo :: fs7 lo, [], 0⟩ :=
  Yaf hS hm [] (Ygk lo) rfl Ygj htie (by decide) rfl (Nat.le_of_ble_eq_true (by kernel_rfl)) (fun C hT => show LK C _ Ymt from ⟨tv, ⟨tv, tv⟩⟩) (fun x y h => (YtK lo x).trans h)
def fs8 (lo : Lo) : List FnE := Ygk lo :: fs7 lo
def q8_L3_b : VCode :=
 (.seq (.reg [o 9 (.bin .lss (t 8) (t 7))])
 (.seq (.cond (t 9) .skip
 (.exit 0))
 (.seq (.blk 1 (.seq (.reg [mV 10 8, mV 5 10])
 (.seq (.reg [mV 11 1, mV 12 0, mV 13 5, o 14 (.iad 3 (t 12) (t 13)), o 15 (.load true 3 (t 14)), o 16 (.dyn (t 11) [(t 15)])])
 (.cond (t 16) (.seq (.reg [mV 17 5, mV 4 17])
 .ret)
 .skip))))
 (.reg [o 18 (.bin .add (t 8) (k 1)), mV 8 18]))))
def Ymu : Sg := ⟨[0, 1, 7, 8], [.l Zc4, .clo 294 [], .i .i64, .i .i64], [], (cs [.l Zc4, I, I])⟩
def Ymv : List Out1 := [⟨.ret, ⟨[4], [.i .i64], [], (cs [I])⟩⟩, ⟨.exit 0, ⟨[], [], [], (cs [])⟩⟩]
def YdZ (lo : Lo) : Zt0 × Int × Int -> Option ((Zt0 × Int × Int) ⊕ (Int ⊕ Unit)) := fun x => match x with
  | (s0, v7, v8) => bif (decide (v8 < v7)) then (chk (0 <= v8 /\ v8 < (s0.length : Int)) (Option.bind (q7 lo ((s0.getD v8.toNat ((0 : Int), (0 : Int), (ByteArray.mk #[]))).1) ((s0.getD v8.toNat ((0 : Int), (0 : Int), (ByteArray.mk #[]))).2.1) ((s0.getD v8.toNat ((0 : Int), (0 : Int), (ByteArray.mk #[]))).2.2)) fun y21 => bif y21 then (some (.inr (.inl v8))) else (some (.inl (s0, v7, (IntKind.wrap .i64 (v8 + (1 : Int)))))))) else (some (.inr (.inr ())))
theorem YtM (lo : Lo) : ∀ x : Zt0 × Int × Int, stepL (⟨pf, fs8 lo, [], 0⟩ : Tabs) [] Ymu Ymv q8_L3_b x = YdZ lo x := fun x => by kernel_rfl
def Ygl (lo : Lo) : Zt0 × Int × Int -> Option (Int ⊕ Unit) := lo.run (YdZ lo)
def Yd0 (lo : Lo) : LpE := ⟨3, [], Ymu, Ymv, Ygl lo⟩
theorem YtN {lo : Lo} (hlo : LoOK lo) (C : Ctx) (hT : TOK (⟨pf, fs8 lo, [], 0⟩ : Tabs) C) {Fr : Nat -> Prop} {H0 : Heap} (hf : FrOK Fr H0) : LpSound Fr H0 0 C (.loop q8_L3_b.er) (Yd0 lo) :=
  Yak hT hf (show LsOK Fr H0 C (⟨pf, fs8 lo, [], 0⟩ : Tabs) q8_L3_b from ⟨tv, ⟨⟨tv, tv⟩, ⟨⟨tv, ⟨tv, ⟨⟨tv, tv⟩, tv⟩⟩⟩, tv⟩⟩⟩) (fun x y h => Yal (YtM lo) (hlo _ _ _ h))
def q8 (lo : Lo) (s0 : List (Int × Int × ByteArray)) : Option Int :=
  Option.bind (Ygl lo (s0, (s0.length : Int), (0 : Int))) fun y22 => alt2 y22 (fun y23 => some y23) (fun y24 => some (-1 : Int))
def Ymw : VCode :=
 (.seq (.reg [o 4 (.mv (k 0))])
 (.seq (.seq (.reg [mV 6 0, lN 7 6, o 8 (.mv (k 0))])
 (.blk 0 (.loop 3 q8_L3_b)))
 (.seq (.reg [o 4 (.mv (k (-1)))])
 .ret)))
def Ygm : VFn := ⟨true, 19, [.t 4], Ymw⟩
def Ygn (lo : Lo) : FnE := ⟨309, false, ⟨[0, 1], [.l Zc4, .clo 294 []], [], Zc22⟩, .i .i64, [], (cs [I]), (fun x => q8 lo x : Zt0 -> Option Int)⟩
theorem YtO (lo : Lo) : ∀ x : Zt0, evI (⟨pf, fs8 lo, [Yd0 lo], 0⟩ : Tabs) Ygm ⟨[0, 1], [.l Zc4, .clo 294 []], [], Zc22⟩ (.i .i64) [] (cs [I]) x = q8 lo x := fun x => by kernel_rfl
theorem YtP {P : Program} {fm : FM} {lo : Lo} (hlo : LoOK lo) (hS : Sound P fm ⟨pf, fs8 lo, [], 0⟩) (hm : P.follows .mixedOrders = true) (htie : Ti P fm 309 Ygm) : Sound P fm ⟨pf, Ygn lo :: fs8 lo, [], 0⟩ :=
  Ybg hS hm [Yd0 lo] (Ygn lo) rfl Ygm htie (by decide) rfl (Nat.le_of_ble_eq_true (by kernel_rfl)) (fun C hT Fr H0 hf => show LsOK Fr H0 C (⟨pf, fs8 lo, [Yd0 lo], 0⟩ : Tabs) Ymw from ⟨tv, ⟨⟨tv, (lsGet (by kernel_rfl) (YtN hlo C (Yai hT) hf))⟩, ⟨tv, tv⟩⟩⟩) (fun x y h => (YtO lo x).trans h)
def fs9 (lo : Lo) : List FnE := Ygn lo :: fs8 lo
def q9 (lo : Lo) (s0 : List (Int × Int × ByteArray)) : Option Bool :=
  Option.bind (q8 lo s0) fun y25 => some (decide ((0 : Int) <= y25))
def Ymx : VCode :=
 (.seq (.reg [o 4 (.mv (kb false))])
 (.seq (.reg [mV 5 0, mV 6 1, o 7 (.call 309 [(t 5), (t 6)]), o 8 (.bin .geq (t 7) (k 0)), mV 4 8])
 .ret))
def Ygo : VFn := ⟨true, 9, [.t 4], Ymx⟩
def Ygp (lo : Lo) : FnE := ⟨293, false, ⟨[0, 1], [.l Zc4, .clo 294 []], [], Zc22⟩, .b, [], (cs [.b]), (fun x => q9 lo x : Zt0 -> Option Bool)⟩
theorem YtQ (lo : Lo) : ∀ x : Zt0, evI (⟨pf, fs9 lo, [], 0⟩ : Tabs) Ygo ⟨[0, 1], [.l Zc4, .clo 294 []], [], Zc22⟩ (.b) [] (cs [.b]) x = q9 lo x := fun x => by kernel_rfl
theorem YtR {P : Program} {fm : FM} {lo : Lo} (hlo : LoOK lo) (hS : Sound P fm ⟨pf, fs9 lo, [], 0⟩) (hm : P.follows .mixedOrders = true) (htie : Ti P fm 293 Ygo) : Sound P fm ⟨pf, Ygp lo :: fs9 lo, [], 0⟩ :=
  Ybg hS hm [] (Ygp lo) rfl Ygo htie (by decide) rfl (Nat.le_of_ble_eq_true (by kernel_rfl)) (fun C hT Fr H0 hf => show LsOK Fr H0 C (⟨pf, fs9 lo, [], 0⟩ : Tabs) Ymx from ⟨tv, ⟨tv, tv⟩⟩) (fun x y h => (YtQ lo x).trans h)
def fs10 (lo : Lo) : List FnE := Ygp lo :: fs9 lo
def q10 (lo : Lo) (l0 : List (Int × Int × ByteArray)) : Option Bool :=
  Option.bind (q9 lo l0) fun y26 => some (!y26)
def Ymy : VCode :=
 (.seq (.reg [o 2 (.mv (kb false))])
 (.seq (.reg [mV 3 0, o 4 (.call 293 [(t 3), (.c (.f 294))]), o 5 (.not (t 4)), mV 2 5])
 (.fz [2] .ret)))
def Ygq : VFn := ⟨true, 6, [.t 2], Ymy⟩
def Ygr (lo : Lo) : FnE := ⟨257, true, ⟨[0], [.l Zc4], [], Zc22⟩, .b, [], (cs [.b]), (fun x => q10 lo x : Zt0 -> Option Bool)⟩
theorem YtS (lo : Lo) : ∀ x : Zt0, evP (⟨pf, fs10 lo, [], 0⟩ : Tabs) Ygq ⟨[0], [.l Zc4], [], Zc22⟩ (.b) (cs [.b]) x = q10 lo x := fun x => by kernel_rfl
theorem YtT {P : Program} {fm : FM} {lo : Lo} (hlo : LoOK lo) (hS : Sound P fm ⟨pf, fs10 lo, [], 0⟩) (hm : P.follows .mixedOrders = true) (htie : Ti P fm 257 Ygq) : Sound P fm ⟨pf, Ygr lo :: fs10 lo, [], 0⟩ :=
  Yaf hS hm [] (Ygr lo) rfl Ygq htie (by decide) rfl (Nat.le_of_ble_eq_true (by kernel_rfl)) (fun C hT => show LK C _ Ymy from ⟨tv, ⟨tv, tv⟩⟩) (fun x y h => (YtS lo x).trans h)
def fs11 (lo : Lo) : List FnE := Ygr lo :: fs10 lo
def q11_L20_b : VCode :=
 (.seq (.reg [o 26 (.bin .lss (t 25) (t 24))])
 (.seq (.cond (t 26) .skip
 (.exit 0))
 (.seq (.blk 1 (.seq (.reg [mV 27 25, o 28 (.iad 1 (t 23) (t 25)), lD 29 28, mV 3 27, mV 4 29])
 (.seq (.reg [mV 30 4, o 31 (.call 255 [(t 30)]), o 32 (.not (t 31)), mV 33 32, og 34 33 false (.fad 1 (t 1)), og 35 33 false (.load false 1 (t 34)), og 36 33 false (.mv (t 3)), og 37 33 false (.slcR 1 (t 35) none (some (t 36))), og 38 33 false (.mv (t 4)), og 39 33 false (.call 256 [(t 37), (t 38)]), o 40 (.pick (t 33) (kb true) (t 39))])
 (.cond (t 40) (.seq (.reg [o 2 (.mv (k 1))])
 (.fz [2] .ret))
 .skip))))
 (.reg [o 41 (.bin .add (t 25) (k 1)), mV 25 41]))))
def Ymz : Sg := ⟨[1, 23, 24, 25], [.ptr 0 0 0, .l (cs [.s]), .i .i64, .i .i64], [.st [.s, .l (cs [.s]), .l Zc1]], (cs [.l (cs [.s]), I, I, .s, .l (cs [.s]), .l Zc1])⟩
def YmA : List Out1 := [⟨.ret, ⟨[2], [.i .i64], [], (cs [I])⟩⟩, ⟨.exit 0, ⟨[1], [.ptr 0 0 0], [.st [.s, .l (cs [.s]), .l Zc1]], Zc10⟩⟩]
def Yd1 (lo : Lo) : Zp38 -> Option (Zp38 ⊕ (Int ⊕ (ByteArray × Zt2 × Zt3))) := fun x => match x with
  | (v23, v24, v25, t1_0, t1_1, t1_2) => bif (decide (v25 < v24)) then (chk (0 <= v25 /\ v25 < (v23.length : Int)) (Option.bind (q3 lo (v23.getD v25.toNat (ByteArray.mk #[]))) fun y11 => bif (!y11) then (some (.inr (.inl (1 : Int)))) else (chk (0 <= (0 : Int) /\ (0 : Int) <= v25 /\ v25 <= (t1_1.length : Int)) (Option.bind (q5 lo ((t1_1.take v25.toNat).drop 0) (v23.getD v25.toNat (ByteArray.mk #[]))) fun y16 => bif y16 then (some (.inr (.inl (1 : Int)))) else (some (.inl (v23, v24, (IntKind.wrap .i64 (v25 + (1 : Int))), t1_0, t1_1, t1_2))))))) else (some (.inr (.inr (t1_0, t1_1, t1_2))))
theorem YtU (lo : Lo) : ∀ x : Zp38, stepL (⟨pf, fs11 lo, [], 0⟩ : Tabs) [] Ymz YmA q11_L20_b x = Yd1 lo x := fun x => by kernel_rfl
def Ygs (lo : Lo) : Zp38 -> Option (Int ⊕ (ByteArray × Zt2 × Zt3)) := lo.run (Yd1 lo)
def YcS (lo : Lo) : LpE := ⟨20, [], Ymz, YmA, Ygs lo⟩
theorem YtV {lo : Lo} (hlo : LoOK lo) (C : Ctx) (hT : TOK (⟨pf, fs11 lo, [], 0⟩ : Tabs) C) : LpSound (fun _ => False) [] 0 C (.loop q11_L20_b.er) (YcS lo) :=
  Yak hT frNo (show LK C _ q11_L20_b from ⟨tv, ⟨⟨tv, tv⟩, ⟨⟨tv, ⟨tv, ⟨⟨tv, tv⟩, tv⟩⟩⟩, tv⟩⟩⟩) (fun x y h => Yal (YtU lo) (hlo _ _ _ h))
def q11_L3_b : VCode :=
 (.seq (.reg [o 46 (.bin .lss (t 45) (t 44))])
 (.seq (.cond (t 46) .skip
 (.exit 2))
 (.seq (.blk 3 (.seq (.reg [o 47 (.iad 2 (t 43) (t 45)), o 48 (.load true 2 (t 47)), o 7 (.alloc [.i .i64 0, .e Zc4]), on (.store 2 (t 7) (t 48))])
 (.seq (.blk 4 (.seq (.reg [fD 50 0 7, lD 51 50, mV 52 5, o 53 (.bin .leq (t 51) (t 52)), mV 49 53])
 (.cond (t 49) (.seq (.reg [o 2 (.mv (k 1))])
 (.fz [2] .ret))
 (.seq (.reg [fD 55 1 7, lD 56 55, lN 57 56, fD 58 1 1, lD 59 58, lN 60 59, o 61 (.bin .neq (t 57) (t 60)), mV 54 61])
 (.cond (t 54) (.seq (.reg [o 2 (.mv (k 6))])
 (.fz [2] .ret))
 (.seq (.reg [fD 63 1 7, lD 64 63, o 65 (.call 257 [(t 64)]), o 66 (.not (t 65)), mV 62 66])
 (.cond (t 62) (.seq (.reg [o 2 (.mv (k 1))])
 (.fz [2] .ret))
 .skip)))))))
 (.reg [fD 67 0 7, lD 68 67, mV 5 68]))))
 (.reg [o 69 (.bin .add (t 45) (k 1)), mV 45 69]))))
def YmB : Sg := ⟨[1, 5, 43, 44, 45], [.ptr 0 0 0, .i .i64, .l Zc1, .i .i64, .i .i64], [.st [.s, .l (cs [.s]), .l Zc1]], (cs [I, .l Zc1, I, I, .s, .l (cs [.s]), .l Zc1])⟩
def YmC : List Out1 := [⟨.ret, ⟨[2], [.i .i64], [], (cs [I])⟩⟩, ⟨.exit 2, ⟨[], [], [], (cs [])⟩⟩]
def Yd2 (lo : Lo) : Zp34 -> Option (Zp34 ⊕ (Int ⊕ Unit)) := fun x => match x with
  | (last5, v43, v44, v45, t1_0, t1_1, t1_2) => bif (decide (v45 < v44)) then (chk (0 <= v45 /\ v45 < (v43.length : Int)) (bif (decide ((v43.getD v45.toNat ((0 : Int), [])).1 <= last5)) then (some (.inr (.inl (1 : Int)))) else (bif (!decide ((((v43.getD v45.toNat ((0 : Int), [])).2).length : Int) = (t1_1.length : Int))) then (some (.inr (.inl (6 : Int)))) else (Option.bind (q10 lo ((v43.getD v45.toNat ((0 : Int), [])).2)) fun y27 => bif (!y27) then (some (.inr (.inl (1 : Int)))) else (some (.inl ((v43.getD v45.toNat ((0 : Int), [])).1, v43, v44, (IntKind.wrap .i64 (v45 + (1 : Int))), t1_0, t1_1, t1_2))))))) else (some (.inr (.inr ())))
theorem YtW (lo : Lo) : ∀ x : Zp34, stepL (⟨pf, fs11 lo, [YcS lo], 0⟩ : Tabs) [] YmB YmC q11_L3_b x = Yd2 lo x := fun x => by kernel_rfl
def Ygt (lo : Lo) : Zp34 -> Option (Int ⊕ Unit) := lo.run (Yd2 lo)
def Ygu (lo : Lo) : LpE := ⟨3, [], YmB, YmC, Ygt lo⟩
theorem YtX {lo : Lo} (hlo : LoOK lo) (C : Ctx) (hT : TOK (⟨pf, fs11 lo, [YcS lo], 0⟩ : Tabs) C) : LpSound (fun _ => False) [] 0 C (.loop q11_L3_b.er) (Ygu lo) :=
  Yak hT frNo (show LK C _ q11_L3_b from ⟨tv, ⟨⟨tv, tv⟩, ⟨⟨tv, ⟨⟨tv, ⟨⟨tv, tv⟩, ⟨tv, ⟨⟨tv, tv⟩, ⟨tv, ⟨⟨tv, tv⟩, tv⟩⟩⟩⟩⟩⟩, tv⟩⟩, tv⟩⟩⟩) (fun x y h => Yal (YtW lo) (hlo _ _ _ h))
def q11 (lo : Lo) (t0_0 : ByteArray) (t0_1 : List ByteArray) (t0_2 : List (Int × Zt0)) : Option Int :=
  Option.bind (q3 lo t0_0) fun y10 => bif (!y10) then (some (1 : Int)) else (bif (decide ((16 : Int) < (t0_1.length : Int))) then (some (3 : Int)) else (bif (decide ((1000 : Int) < (t0_2.length : Int))) then (some (3 : Int)) else (Option.bind (Ygs lo (t0_1, (t0_1.length : Int), (0 : Int), t0_0, t0_1, t0_2)) fun y17 => alt2 y17 (fun y18 => some y18) (fun y19 => Option.bind (Ygt lo ((0 : Int), y19.2.2, (y19.2.2.length : Int), (0 : Int), y19.1, y19.2.1, y19.2.2)) fun y28 => alt2 y28 (fun y29 => some y29) (fun y30 => some (0 : Int))))))
def YmD : VCode :=
 (.seq (.reg [o 1 (.box (t 0)), o 2 (.mv (k 0))])
 (.seq (.seq (.reg [fD 8 0 1, lD 9 8, o 10 (.call 255 [(t 9)]), o 11 (.not (t 10))])
 (.cond (t 11) (.seq (.reg [o 2 (.mv (k 1))])
 (.fz [2] .ret))
 .skip))
 (.seq (.seq (.reg [fD 12 1 1, lD 13 12, lN 14 13, o 15 (.bin .gtr (t 14) (k 16)), mV 16 15, og 17 16 false (.fad 2 (t 1)), og 18 16 false (.load false 1 (t 17)), og 19 16 false (.len (t 18)), og 20 16 false (.bin .gtr (t 19) (k 1000)), o 21 (.pick (t 16) (kb true) (t 20))])
 (.cond (t 21) (.seq (.reg [o 2 (.mv (k 3))])
 (.fz [2] .ret))
 .skip))
 (.seq (.seq (.reg [fD 22 1 1, lD 23 22, lN 24 23, o 25 (.mv (k 0))])
 (.blk 0 (.loop 20 q11_L20_b)))
 (.seq (.reg [o 5 (.mv (k 0))])
 (.seq (.seq (.reg [fD 42 2 1, lD 43 42, lN 44 43, o 45 (.mv (k 0))])
 (.blk 2 (.loop 3 q11_L3_b)))
 (.seq (.reg [o 2 (.mv (k 0))])
 (.fz [2] .ret))))))))
def Ygv : VFn := ⟨true, 70, [.t 2], YmD⟩
def Ygw (lo : Lo) : FnE := ⟨230, true, ⟨[0], [.ag [.s, .l (cs [.s]), .l Zc1]], [], Zc10⟩, .i .i64, [], (cs [I]), (fun x => q11 lo x.1 x.2.1 x.2.2 : ByteArray × Zt2 × Zt3 -> Option Int)⟩
theorem YtY (lo : Lo) : ∀ x : ByteArray × Zt2 × Zt3, evP (⟨pf, fs11 lo, [Ygu lo, YcS lo], 0⟩ : Tabs) Ygv ⟨[0], [.ag [.s, .l (cs [.s]), .l Zc1]], [], Zc10⟩ (.i .i64) (cs [I]) x = q11 lo x.1 x.2.1 x.2.2 := fun x => by kernel_rfl
theorem YtZ {P : Program} {fm : FM} {lo : Lo} (hlo : LoOK lo) (hS : Sound P fm ⟨pf, fs11 lo, [], 0⟩) (hm : P.follows .mixedOrders = true) (htie : Ti P fm 230 Ygv) : Sound P fm ⟨pf, Ygw lo :: fs11 lo, [], 0⟩ :=
  Yaf hS hm [Ygu lo, YcS lo] (Ygw lo) rfl Ygv htie (by decide) rfl (Nat.le_of_ble_eq_true (by kernel_rfl)) (fun C hT => show LK C _ YmD from ⟨tv, ⟨⟨tv, ⟨⟨tv, tv⟩, tv⟩⟩, ⟨⟨tv, ⟨⟨tv, tv⟩, tv⟩⟩, ⟨⟨tv, (lsGet (by kernel_rfl) (YtV hlo C (Yai hT)))⟩, ⟨tv, ⟨⟨tv, (lsGet (by kernel_rfl) (YtX hlo C (Yai hT)))⟩, ⟨tv, tv⟩⟩⟩⟩⟩⟩⟩) (fun x y h => (YtY lo x).trans h)
def fs12 (lo : Lo) : List FnE := Ygw lo :: fs11 lo
def q12_L3_b : VCode :=
 (.seq (.seq (.reg [mV 10 6, o 11 (.bin .geq (t 10) (k 0))])
 (.cond (t 11) .skip
 (.exit 0)))
 (.seq (.blk 1 (.reg [mV 14 0, mV 15 5, mV 16 6, o 17 (.bin .shr (t 15) (t 16)), o 18 (.conv .u8 (t 17)), o 19 (.bsl (cs [.i .u8]) 1 [(0, (t 18))]), o 20 (.appb (t 14) (t 19)), mV 0 20]))
 (.reg [mV 12 6, o 13 (.bin .sub (t 12) (k 8)), mV 6 13])))
def YmE : Sg := ⟨[0, 5, 6], [.ref 1, .i .u64, .i .i64], [.dd, .sb], (cs [.i .u64, I, .s])⟩
def YmF : List Out1 := [⟨.exit 0, ⟨[0], [.ref 1], [.dd, .sb], (cs [.s])⟩⟩]
def Yd3 (lo : Lo) : Int × Int × ByteArray -> Option ((Int × Int × ByteArray) ⊕ ByteArray) := fun x => match x with
  | (u5, shift6, out0) => bif (decide ((0 : Int) <= shift6)) then (chk (0 <= shift6) (bif inB ([(IntKind.wrap .u8 (u5.fdiv (2 ^ (min shift6.toNat (IntKind.bits .u64)))))]) then (chk (out0.size + ([(IntKind.wrap .u8 (u5.fdiv (2 ^ (min shift6.toNat (IntKind.bits .u64)))))]).length <= maxEl) (some (.inl (u5, (IntKind.wrap .i64 (shift6 - (8 : Int))), (out0 ++ bytesB ([(IntKind.wrap .u8 (u5.fdiv (2 ^ (min shift6.toNat (IntKind.bits .u64)))))])))))) else none)) else (some (.inr out0))
theorem Yt0 (lo : Lo) : ∀ x : Int × Int × ByteArray, stepL (⟨pf, fs12 lo, [], 1⟩ : Tabs) [(0, some 0, false)] YmE YmF q12_L3_b x = Yd3 lo x := fun x => by kernel_rfl
def Ygx (lo : Lo) : Int × Int × ByteArray -> Option ByteArray := lo.run (Yd3 lo)
def Yd4 (lo : Lo) : LpE := ⟨3, [(0, some 0, false)], YmE, YmF, Ygx lo⟩
theorem Yt1 {lo : Lo} (hlo : LoOK lo) (C : Ctx) (hT : TOK (⟨pf, fs12 lo, [], 1⟩ : Tabs) C) {Fr : Nat -> Prop} {H0 : Heap} (hf : FrOK Fr H0) : LpSound Fr H0 1 C (.loop q12_L3_b.er) (Yd4 lo) :=
  Yak hT hf (show LsOK Fr H0 C (⟨pf, fs12 lo, [], 1⟩ : Tabs) q12_L3_b from ⟨⟨tv, ⟨tv, tv⟩⟩, ⟨tv, tv⟩⟩) (fun x y h => Yal (Yt0 lo) (hlo _ _ _ h))
def q12 (lo : Lo) (n1 : Int) (out0 : ByteArray) : Option ByteArray :=
  Option.bind (Ygx lo ((bits .xor .u64 (IntKind.wrap .u64 n1) (9223372036854775808 : Int)), (56 : Int), out0)) fun y35 => some y35
def YmG : VCode :=
 (.seq (.reg [o 4 (.mv (ke (cs [.i .u8])))])
 (.seq (.reg [mV 7 1, o 8 (.conv .u64 (t 7)), o 9 (.bin .xor (t 8) (ki .u64 9223372036854775808)), mV 5 9])
 (.seq (.seq (.reg [o 6 (.mv (k 56))])
 (.blk 0 (.loop 3 q12_L3_b)))
 (.seq (.reg [mV 21 0, mV 4 21])
 .ret))))
def Ygy : VFn := ⟨true, 22, [.t 4], YmG⟩
def Ygz (lo : Lo) : FnE := ⟨310, false, ⟨[0, 1], [.ref 0, .i .i64], [.sb], (cs [I, .s])⟩, .ref 1, [.dd, .sb], (cs [.s]), (fun x => q12 lo x.1 x.2 : Int × ByteArray -> Option ByteArray)⟩
theorem Yt2 (lo : Lo) : ∀ x : Int × ByteArray, evI (⟨pf, fs12 lo, [Yd4 lo], 1⟩ : Tabs) Ygy ⟨[0, 1], [.ref 0, .i .i64], [.sb], (cs [I, .s])⟩ (.ref 1) [.dd, .sb] (cs [.s]) x = q12 lo x.1 x.2 := fun x => by kernel_rfl
theorem Yt3 {P : Program} {fm : FM} {lo : Lo} (hlo : LoOK lo) (hS : Sound P fm ⟨pf, fs12 lo, [], 0⟩) (hm : P.follows .mixedOrders = true) (htie : Ti P fm 310 Ygy) : Sound P fm ⟨pf, Ygz lo :: fs12 lo, [], 0⟩ :=
  Ybg hS hm [Yd4 lo] (Ygz lo) rfl Ygy htie (by decide) rfl (Nat.le_of_ble_eq_true (by kernel_rfl)) (fun C hT Fr H0 hf => show LsOK Fr H0 C (⟨pf, fs12 lo, [Yd4 lo], 1⟩ : Tabs) YmG from ⟨tv, ⟨tv, ⟨⟨tv, (lsGet (by kernel_rfl) (Yt1 hlo C (Yai hT) hf))⟩, ⟨tv, tv⟩⟩⟩⟩) (fun x y h => (Yt2 lo x).trans h)
def fs13 (lo : Lo) : List FnE := Ygz lo :: fs12 lo
def q13_L5_b : VCode :=
 (.seq (.reg [o 28 (.bin .lss (t 27) (t 26))])
 (.seq (.cond (t 28) .skip
 (.exit 1))
 (.seq (.blk 2 (.seq (.reg [mV 29 27, mV 5 29])
 (.seq (.reg [mV 30 4, fD 31 2 1, lD 32 31, mV 33 5, o 34 (.idx (t 32) (t 33)), o 35 (.bsl (cs [.i .u8]) 1 [(0, (t 34))]), o 36 (.appb (t 30) (t 35)), mV 4 36])
 (.seq (.reg [fD 37 2 1, lD 38 37, mV 39 5, o 40 (.idx (t 38) (t 39)), o 41 (.bin .eql (t 40) (ki .u8 0))])
 (.cond (t 41) (.reg [mV 42 4, o 43 (.bsl (cs [.i .u8]) 1 [(0, (ki .u8 255))]), o 44 (.appb (t 42) (t 43)), mV 4 44])
 .skip)))))
 (.reg [o 45 (.bin .add (t 27) (k 1)), mV 27 45]))))
def YmH : Sg := ⟨[1, 4, 26, 27], [.ptr 0 0 0, .ref 1, .i .i64, .i .i64], [.st [.i .i64, .i .i64, .s], .sb], (cs [I, I, I, I, .s, .s])⟩
def YmI : List Out1 := [⟨.exit 1, ⟨[4], [.ref 0], [.sb], (cs [.s])⟩⟩]
def Yd5 (lo : Lo) : Zp35 -> Option (Zp35 ⊕ ByteArray) := fun x => match x with
  | (v26, v27, v1_0, v1_1, v1_2, out4) => bif (decide (v27 < v26)) then (chk (0 <= v27 /\ v27 < (v1_2.size : Int)) (bif inB ([(byteI v1_2 v27)]) then (chk (out4.size + ([(byteI v1_2 v27)]).length <= maxEl) (chk (0 <= v27 /\ v27 < (v1_2.size : Int)) (bif (decide ((byteI v1_2 v27) = (0 : Int))) then (bif inB ([(255 : Int)]) then (chk ((out4 ++ bytesB ([(byteI v1_2 v27)])).size + ([(255 : Int)]).length <= maxEl) (some (.inl (v26, (IntKind.wrap .i64 (v27 + (1 : Int))), v1_0, v1_1, v1_2, ((out4 ++ bytesB ([(byteI v1_2 v27)])) ++ bytesB ([(255 : Int)])))))) else none) else (some (.inl (v26, (IntKind.wrap .i64 (v27 + (1 : Int))), v1_0, v1_1, v1_2, (out4 ++ bytesB ([(byteI v1_2 v27)])))))))) else none)) else (some (.inr out4))
theorem Yt4 (lo : Lo) : ∀ x : Zp35, stepL (⟨pf, fs13 lo, [], 0⟩ : Tabs) [] YmH YmI q13_L5_b x = Yd5 lo x := fun x => by kernel_rfl
def YgA (lo : Lo) : Zp35 -> Option ByteArray := lo.run (Yd5 lo)
def YcT (lo : Lo) : LpE := ⟨5, [], YmH, YmI, YgA lo⟩
theorem Yt5 {lo : Lo} (hlo : LoOK lo) (C : Ctx) (hT : TOK (⟨pf, fs13 lo, [], 0⟩ : Tabs) C) : LpSound (fun _ => False) [] 0 C (.loop q13_L5_b.er) (YcT lo) :=
  Yak hT frNo (show LK C _ q13_L5_b from ⟨tv, ⟨⟨tv, tv⟩, ⟨⟨tv, ⟨tv, ⟨tv, ⟨tv, tv⟩⟩⟩⟩, tv⟩⟩⟩) (fun x y h => Yal (Yt4 lo) (hlo _ _ _ h))
def q13_J17_b : VCode :=
 (.cond (t 15) (.reg [mV 18 4, fD 19 1 1, lD 20 19, o 21 (.call 310 [(t 18), (t 20)]), mV 4 21])
 (.seq (.reg [o 23 (.bin .eql (t 14) (k 2)), mV 22 23])
 (.cond (t 22) (.seq (.seq (.reg [fD 24 2 1, lD 25 24, o 26 (.lenS (t 25)), o 27 (.mv (k 0))])
 (.blk 1 (.loop 5 q13_L5_b)))
 (.reg [mV 46 4, o 47 (.bsl (cs [.i .u8]) 2 [(0, (ki .u8 0)), (1, (ki .u8 1))]), o 48 (.appb (t 46) (t 47)), mV 4 48]))
 .skip)))
def YmJ : Sg := ⟨[1, 4, 14, 15], [.ptr 0 0 0, .ref 1, .i .i64, .b], [.st [.i .i64, .i .i64, .s], .sb], (cs [I, .b, I, I, .s, .s])⟩
def YmK : List Out1 := [⟨.nor, ⟨[4], [.ref 0], [.sb], (cs [.s])⟩⟩]
def Ybs (lo : Lo) : Int × Bool × Int × Int × ByteArray × ByteArray -> Option ByteArray := fun x => match x with
  | (v14, v15, v1_0, v1_1, v1_2, out4) => bif v15 then (Option.bind (q12 lo v1_1 out4) fun y36 => some y36) else (bif (decide (v14 = (2 : Int))) then (Option.bind (YgA lo ((v1_2.size : Int), (0 : Int), v1_0, v1_1, v1_2, out4)) fun y37 => bif inB ([(0 : Int), (1 : Int)]) then (chk (y37.size + ([(0 : Int), (1 : Int)]).length <= maxEl) (some (y37 ++ bytesB ([(0 : Int), (1 : Int)])))) else none) else (some out4))
theorem Yt6 (lo : Lo) : ∀ x : Int × Bool × Int × Int × ByteArray × ByteArray, stepJ (⟨pf, fs13 lo, [YcT lo], 0⟩ : Tabs) YmJ YmK q13_J17_b x = Ybs lo x := fun x => by kernel_rfl
def YgB (lo : Lo) : LpE := ⟨17, [], YmJ, YmK, Ybs lo⟩
theorem Yt7 {lo : Lo} (hlo : LoOK lo) (C : Ctx) (hT : TOK (⟨pf, fs13 lo, [YcT lo], 0⟩ : Tabs) C) : LpSound (fun _ => False) [] 0 C q13_J17_b.er (YgB lo) :=
  YcO hT frNo (show LK C _ q13_J17_b from ⟨tv, ⟨tv, ⟨⟨⟨tv, (lsGet (by kernel_rfl) (Yt5 hlo C (Yai hT)))⟩, tv⟩, tv⟩⟩⟩) (fun x y h => (Yt6 lo x).trans h)
def q13 (lo : Lo) (v0_0 : Int) (v0_1 : Int) (v0_2 : ByteArray) : Option (ByteArray × Int) :=
  Option.bind (q6 lo v0_0 v0_1 v0_2) fun y34 => bif (!y34) then (some ((ByteArray.mk #[]), (1 : Int))) else (bif inB [(IntKind.wrap .u8 v0_0)] then (bif (decide (v0_0 = (1 : Int))) then (Option.bind (Ybs lo (v0_0, true, v0_0, v0_1, v0_2, (bytesB [(IntKind.wrap .u8 v0_0)]))) fun y38 => some (y38, (0 : Int))) else (Option.bind (Ybs lo (v0_0, (decide (v0_0 = (3 : Int))), v0_0, v0_1, v0_2, (bytesB [(IntKind.wrap .u8 v0_0)]))) fun y39 => some (y39, (0 : Int)))) else none)
def YmL : VCode :=
 (.seq (.reg [o 1 (.box (t 0)), o 2 (.mv (ks (⟨#[]⟩))), o 3 (.mv (k 0))])
 (.seq (.seq (.reg [o 6 (.load true 3 (t 1)), o 7 (.call 283 [(t 6)]), o 8 (.not (t 7))])
 (.cond (t 8) (.seq (.reg [o 2 (.mv (ks (⟨#[]⟩))), o 3 (.mv (k 1))])
 (.fz [2, 3] .ret))
 .skip))
 (.seq (.reg [fD 9 0 1, lD 10 9, o 11 (.conv .u8 (t 10)), o 12 (.litb [(t 11)]), mV 4 12])
 (.seq (.seq (.reg [fD 13 0 1, lD 14 13])
 (.blk 0 (.seq (.seq (.reg [o 16 (.bin .eql (t 14) (k 1)), mV 15 16])
 (.cond (t 15) .skip
 (.reg [o 17 (.bin .eql (t 14) (k 3)), mV 15 17])))
 (.jn 17 q13_J17_b))))
 (.seq (.reg [mV 49 4, o 50 (.bstr (t 49)), mV 2 50, o 3 (.mv (k 0))])
 (.fz [2, 3] .ret))))))
def YgC : VFn := ⟨true, 51, [.t 2, .t 3], YmL⟩
def YgD (lo : Lo) : FnE := ⟨296, true, ⟨[0], [.ag [.i .i64, .i .i64, .s]], [], Zc4⟩, .tp [.s, .i .i64], [], (cs [.s, I]), (fun x => q13 lo x.1 x.2.1 x.2.2 : Int × Int × ByteArray -> Option (ByteArray × Int))⟩
theorem Yt8 (lo : Lo) : ∀ x : Int × Int × ByteArray, evP (⟨pf, fs13 lo, [YgB lo, YcT lo], 0⟩ : Tabs) YgC ⟨[0], [.ag [.i .i64, .i .i64, .s]], [], Zc4⟩ (.tp [.s, .i .i64]) (cs [.s, I]) x = q13 lo x.1 x.2.1 x.2.2 := fun x => by kernel_rfl
theorem Yt9 {P : Program} {fm : FM} {lo : Lo} (hlo : LoOK lo) (hS : Sound P fm ⟨pf, fs13 lo, [], 0⟩) (hm : P.follows .mixedOrders = true) (htie : Ti P fm 296 YgC) : Sound P fm ⟨pf, YgD lo :: fs13 lo, [], 0⟩ :=
  Yaf hS hm [YgB lo, YcT lo] (YgD lo) rfl YgC htie (by decide) rfl (Nat.le_of_ble_eq_true (by kernel_rfl)) (fun C hT => show LK C _ YmL from ⟨tv, ⟨⟨tv, ⟨⟨tv, tv⟩, tv⟩⟩, ⟨tv, ⟨⟨tv, ⟨⟨tv, ⟨tv, tv⟩⟩, (lsGet (by kernel_rfl) (Yt7 hlo C (Yai hT)))⟩⟩, ⟨tv, tv⟩⟩⟩⟩⟩) (fun x y h => (Yt8 lo x).trans h)
def fs14 (lo : Lo) : List FnE := YgD lo :: fs13 lo
def q14 (lo : Lo) (s : ByteArray) : Option ByteArray := some s
def YmM (lo : Lo) : FnE := vchkE2 164
theorem Yua {P : Program} {fm : FM} {lo : Lo} (hlo : LoOK lo) (hS : Sound P fm ⟨pf, fs14 lo, [], 0⟩) (hm : P.follows .mixedOrders = true) (hG : ∀ f, fm f = 164 -> callable P f = true /\ ∃ ρ : Go.Shelf.Ren, Go.Proofs.Lays.n240 P ρ /\ BldOK P fm ρ /\ ρ.f 240 = f) : Sound P fm ⟨pf, YmM lo :: fs14 lo, [], 0⟩ :=
  YsK hS rfl hG
def fs15 (lo : Lo) : List FnE := YmM lo :: fs14 lo
end Go.Abs.G03
namespace Go.Abs.G03
open Go Go.Abs
set_option maxRecDepth 100000
set_option maxHeartbeats 1000000
def q15 (lo : Lo) (s1 : ByteArray) (h1 : ByteArray) : Option (Int × ByteArray) :=
  Option.bind (q14 lo h1) fun y41 => chk (y41.size = h1.size) (chk (y41.size + s1.size <= maxEl) (some ((s1.size : Int), (y41 ++ s1))))
def YmN : VCode :=
 (.seq (.reg [o 4 (.mv (k 0)), o 5 (.mv (.c (.v .nilIface)))])
 (.seq (.reg [mV 6 0, o 7 (.call 164 [(t 6)])])
 (.seq (.reg [mV 8 0, mV 9 0, o 10 (.nilc (t 9)), fD 11 1 10, lD 12 11, mV 13 1, o 14 (.apps (t 12) (t 13)), o 15 (.nilc (t 8)), fD 16 1 15, on (.store 1 (t 16) (t 14))])
 (.seq (.reg [mV 17 1, o 18 (.lenS (t 17)), mV 4 18, o 5 (.mv (.c (.v .nilIface)))])
 .ret))))
def YgE : VFn := ⟨true, 19, [.t 4, .t 5], YmN⟩
def YgF (lo : Lo) : FnE := ⟨149, false, ⟨[0, 1], [.ptr 0 0 0, .s], [.st [.np 0, .ref 1], .sb], (cs [.s, .s])⟩, .tp [.i .i64, .u], [.st [.np 0, .ref 2], .dd, .sb], (cs [I, .s]), (fun x => q15 lo x.1 x.2 : ByteArray × ByteArray -> Option (Int × ByteArray))⟩
theorem Yub (lo : Lo) : ∀ x : ByteArray × ByteArray, evI (⟨pf, fs15 lo, [], 2⟩ : Tabs) YgE ⟨[0, 1], [.ptr 0 0 0, .s], [.st [.np 0, .ref 1], .sb], (cs [.s, .s])⟩ (.tp [.i .i64, .u]) [.st [.np 0, .ref 2], .dd, .sb] (cs [I, .s]) x = q15 lo x.1 x.2 := fun x => by kernel_rfl
theorem Yuc {P : Program} {fm : FM} {lo : Lo} (hlo : LoOK lo) (hS : Sound P fm ⟨pf, fs15 lo, [], 0⟩) (hm : P.follows .mixedOrders = true) (htie : Ti P fm 149 YgE) : Sound P fm ⟨pf, YgF lo :: fs15 lo, [], 0⟩ :=
  Ybg hS hm [] (YgF lo) rfl YgE htie (by decide) rfl (Nat.le_of_ble_eq_true (by kernel_rfl)) (fun C hT Fr H0 hf => show LsOK Fr H0 C (⟨pf, fs15 lo, [], 2⟩ : Tabs) YmN from ⟨tv, ⟨tv, ⟨tv, ⟨tv, tv⟩⟩⟩⟩) (fun x y h => (Yub lo x).trans h)
def fs16 (lo : Lo) : List FnE := YgF lo :: fs15 lo
def q16 (lo : Lo) (s : ByteArray) : Option ByteArray := some s
def YmO (lo : Lo) : FnE := vstrE 151
theorem Yud {P : Program} {fm : FM} {lo : Lo} (hlo : LoOK lo) (hS : Sound P fm ⟨pf, fs16 lo, [], 0⟩) (hm : P.follows .mixedOrders = true) (hG : ∀ f, fm f = 151 -> callable P f = true /\ ∃ ρ : Go.Shelf.Ren, Go.Proofs.Lays.n169 P ρ /\ BldOK P fm ρ /\ fm.bu = ρ.t 5 /\ ρ.f 169 = f) : Sound P fm ⟨pf, YmO lo :: fs16 lo, [], 0⟩ :=
  YsS hS rfl hG
def fs17 (lo : Lo) : List FnE := YmO lo :: fs16 lo
def q17_L3_b : VCode :=
 (.seq (.reg [o 11 (.bin .lss (t 10) (t 9))])
 (.seq (.cond (t 11) .skip
 (.exit 0))
 (.seq (.blk 1 (.seq (.reg [o 12 (.iad 3 (t 8) (t 10)), o 13 (.load true 3 (t 12)), o 5 (.alloc [.i .i64 0, .i .i64 0, .s (⟨#[]⟩)]), on (.store 3 (t 5) (t 13))])
 (.seq (.reg [o 15 (.load true 3 (t 5)), o 16 (.call 296 [(t 15)]), mV 14 16, eX 17 14 0, eX 18 14 1, mV 6 17, mV 7 18])
 (.reg [mV 19 6, o 20 (.call 149 [(t 3), (t 19)])]))))
 (.reg [o 21 (.bin .add (t 10) (k 1)), mV 10 21]))))
def YmP : Sg := ⟨[3, 8, 9, 10], [.ptr 0 0 0, .l Zc4, .i .i64, .i .i64], [.st [.np 0, .ref 1], .sb], (cs [.l Zc4, I, I, .s])⟩
def YmQ : List Out1 := [⟨.exit 0, ⟨[3], [.ptr 0 0 0], [.st [.np 0, .ref 1], .sb], (cs [.s])⟩⟩]
def Yd6 (lo : Lo) : Zt0 × Int × Int × ByteArray -> Option ((Zt0 × Int × Int × ByteArray) ⊕ ByteArray) := fun x => match x with
  | (v8, v9, v10, h1) => bif (decide (v10 < v9)) then (chk (0 <= v10 /\ v10 < (v8.length : Int)) (Option.bind (q13 lo ((v8.getD v10.toNat ((0 : Int), (0 : Int), (ByteArray.mk #[]))).1) ((v8.getD v10.toNat ((0 : Int), (0 : Int), (ByteArray.mk #[]))).2.1) ((v8.getD v10.toNat ((0 : Int), (0 : Int), (ByteArray.mk #[]))).2.2)) fun y40 => Option.bind (q15 lo y40.1 h1) fun y42 => some (.inl (v8, v9, (IntKind.wrap .i64 (v10 + (1 : Int))), y42.2)))) else (some (.inr h1))
theorem Yue (lo : Lo) : ∀ x : Zt0 × Int × Int × ByteArray, stepL (⟨pf, fs17 lo, [], 0⟩ : Tabs) [] YmP YmQ q17_L3_b x = Yd6 lo x := fun x => by kernel_rfl
def YgG (lo : Lo) : Zt0 × Int × Int × ByteArray -> Option ByteArray := lo.run (Yd6 lo)
def YgH (lo : Lo) : LpE := ⟨3, [], YmP, YmQ, YgG lo⟩
theorem Yuf {lo : Lo} (hlo : LoOK lo) (C : Ctx) (hT : TOK (⟨pf, fs17 lo, [], 0⟩ : Tabs) C) : LpSound (fun _ => False) [] 0 C (.loop q17_L3_b.er) (YgH lo) :=
  Yak hT frNo (show LK C _ q17_L3_b from ⟨tv, ⟨⟨tv, tv⟩, ⟨⟨tv, ⟨tv, tv⟩⟩, tv⟩⟩⟩) (fun x y h => Yal (Yue lo) (hlo _ _ _ h))
def q17 (lo : Lo) (l0 : List (Int × Int × ByteArray)) : Option ByteArray :=
  Option.bind (YgG lo (l0, (l0.length : Int), (0 : Int), (ByteArray.mk #[]))) fun y43 => Option.bind (q16 lo y43) fun y44 => some y44
def YmR : VCode :=
 (.seq (.reg [o 2 (.mv (ks (⟨#[]⟩)))])
 (.seq (.reg [o 3 (.bld)])
 (.ow [(3, some 1, false)] (.seq (.seq (.reg [mV 8 0, lN 9 8, o 10 (.mv (k 0))])
 (.blk 0 (.loop 3 q17_L3_b)))
 (.seq (.reg [o 22 (.call 151 [(t 3)]), mV 2 22])
 (.fz [2] .ret))))))
def YgI : VFn := ⟨true, 23, [.t 2], YmR⟩
def YgJ (lo : Lo) : FnE := ⟨261, true, ⟨[0], [.l Zc4], [], Zc22⟩, .s, [], (cs [.s]), (fun x => q17 lo x : Zt0 -> Option ByteArray)⟩
theorem Yug (lo : Lo) : ∀ x : Zt0, evP (⟨pf, fs17 lo, [YgH lo], 0⟩ : Tabs) YgI ⟨[0], [.l Zc4], [], Zc22⟩ (.s) (cs [.s]) x = q17 lo x := fun x => by kernel_rfl
theorem Yuh {P : Program} {fm : FM} {lo : Lo} (hlo : LoOK lo) (hS : Sound P fm ⟨pf, fs17 lo, [], 0⟩) (hm : P.follows .mixedOrders = true) (htie : Ti P fm 261 YgI) : Sound P fm ⟨pf, YgJ lo :: fs17 lo, [], 0⟩ :=
  Yaf hS hm [YgH lo] (YgJ lo) rfl YgI htie (by decide) rfl (Nat.le_of_ble_eq_true (by kernel_rfl)) (fun C hT => show LK C _ YmR from ⟨tv, ⟨tv, ⟨⟨tv, (lsGet (by kernel_rfl) (Yuf hlo C (Yai hT)))⟩, ⟨tv, tv⟩⟩⟩⟩) (fun x y h => (Yug lo x).trans h)
def fs18 (lo : Lo) : List FnE := YgJ lo :: fs17 lo
def q18_L23_b : VCode :=
 (.seq (.reg [o 37 (.bin .lss (t 36) (t 35))])
 (.seq (.cond (t 37) .skip
 (.exit 0))
 (.seq (.blk 1 (.seq (.reg [mV 38 36, o 39 (.iad 1 (t 34) (t 36)), lD 40 39, mV 8 38, mV 9 40])
 (.seq (.reg [mV 41 1, mV 42 8, o 43 (.bin .shr (t 41) (t 42)), o 44 (.bin .and (t 43) (ki .u32 1)), o 45 (.bin .eql (t 44) (ki .u32 1))])
 (.cond (t 45) (.reg [fD 46 1 7, lD 47 46, mV 48 9, o 49 (.bsl (cs [.s]) 1 [(0, (t 48))]), o 50 (.app (cs [.s]) 0 (t 47) (t 49)), fD 51 1 7, on (.store 1 (t 51) (t 50))])
 .skip))))
 (.reg [o 52 (.bin .add (t 36) (k 1)), mV 36 52]))))
def YmS : Sg := ⟨[1, 2, 4, 7, 34, 35, 36], [.i .u32, .ptr 0 0 0, .ptr 1 0 0, .ptr 2 0 0, .l (cs [.s]), .i .i64, .i .i64], [.st [.s, .l (cs [.s]), .l Zc1], .st [.s, .l (cs [.s]), .l Zc1], .st [.s, .ref 3, .ref 4], .sq (cs [.s]), .sq Zc1], (cs [.i .u32, .l (cs [.s]), I, I, .s, .l (cs [.s]), .l Zc1, .s, .l (cs [.s]), .l Zc1, .s, .l (cs [.s]), .l Zc1])⟩
def YmT : List Out1 := [⟨.exit 0, ⟨[1, 2, 4, 7], [.i .u32, .ptr 0 0 0, .ptr 1 0 0, .ptr 2 0 0], [.st [.s, .l (cs [.s]), .l Zc1], .st [.s, .l (cs [.s]), .l Zc1], .st [.s, .ref 3, .ref 4], .sq (cs [.s]), .sq Zc1], Zc16⟩⟩]
def Yd7 (lo : Lo) : Zp28 -> Option (Zp28 ⊕ ((Int × ByteArray × Zt2 × Zt3 × ByteArray × Zt2 × Zt3 × ByteArray × Zt2 × Zt3))) := fun x => match x with
  | (s1, v34, v35, v36, t2_0, t2_1, t2_2, v4_0, v4_1, v4_2, out7, h3, h4) => bif (decide (v36 < v35)) then (chk (0 <= v36 /\ v36 < (v34.length : Int)) (chk (0 <= v36) (bif (decide ((bits .and .u32 (s1.fdiv (2 ^ (min v36.toNat (IntKind.bits .u32)))) (1 : Int)) = (1 : Int))) then (chk (h3.length + ([(v34.getD v36.toNat (ByteArray.mk #[]))]).length <= maxEl) (some (.inl (s1, v34, v35, (IntKind.wrap .i64 (v36 + (1 : Int))), t2_0, t2_1, t2_2, v4_0, v4_1, v4_2, out7, (h3 ++ ([(v34.getD v36.toNat (ByteArray.mk #[]))])), h4)))) else (some (.inl (s1, v34, v35, (IntKind.wrap .i64 (v36 + (1 : Int))), t2_0, t2_1, t2_2, v4_0, v4_1, v4_2, out7, h3, h4)))))) else (some (.inr (s1, t2_0, t2_1, t2_2, v4_0, v4_1, v4_2, out7, h3, h4)))
theorem Yui (lo : Lo) : ∀ x : Zp28, stepL (⟨pf, fs18 lo, [], 0⟩ : Tabs) [(7, some 1, false), (7, some 2, false)] YmS YmT q18_L23_b x = Yd7 lo x := fun x => by kernel_rfl
def YgK (lo : Lo) : Zp28 -> Option ((Int × ByteArray × Zt2 × Zt3 × ByteArray × Zt2 × Zt3 × ByteArray × Zt2 × Zt3)) := lo.run (Yd7 lo)
def YbM (lo : Lo) : LpE := ⟨23, [(7, some 1, false), (7, some 2, false)], YmS, YmT, YgK lo⟩
theorem Yuj {lo : Lo} (hlo : LoOK lo) (C : Ctx) (hT : TOK (⟨pf, fs18 lo, [], 0⟩ : Tabs) C) : LpSound (fun _ => False) [] 0 C (.loop q18_L23_b.er) (YbM lo) :=
  Yak hT frNo (show LK C _ q18_L23_b from ⟨tv, ⟨⟨tv, tv⟩, ⟨⟨tv, ⟨tv, ⟨tv, tv⟩⟩⟩, tv⟩⟩⟩) (fun x y h => Yal (Yui lo) (hlo _ _ _ h))
def q18_L9_b : VCode :=
 (.seq (.reg [o 68 (.bin .lss (t 67) (t 66))])
 (.seq (.cond (t 68) .skip
 (.exit 4))
 (.seq (.blk 5 (.seq (.reg [mV 69 67, o 70 (.iad 3 (t 65) (t 67)), o 71 (.load true 3 (t 70)), o 15 (.alloc [.i .i64 0, .i .i64 0, .s (⟨#[]⟩)]), mV 14 69, on (.store 3 (t 15) (t 71))])
 (.seq (.reg [mV 72 1, mV 73 14, o 74 (.bin .shr (t 72) (t 73)), o 75 (.bin .and (t 74) (ki .u32 1)), o 76 (.bin .eql (t 75) (ki .u32 1))])
 (.cond (t 76) (.reg [fD 77 1 13, lD 78 77, o 79 (.load true 3 (t 15)), o 80 (.bsl Zc4 1 [(0, (t 79))]), o 81 (.app Zc4 0 (t 78) (t 80)), fD 82 1 13, on (.store 1 (t 82) (t 81))])
 .skip))))
 (.reg [o 83 (.bin .add (t 67) (k 1)), mV 67 83]))))
def YmU : Sg := ⟨[1, 4, 7, 10, 13, 55, 56, 57, 65, 66, 67], [.i .u32, .ptr 0 0 0, .ptr 1 0 0, .np 2, .ptr 3 0 0, .l Zc1, .i .i64, .i .i64, .l Zc4, .i .i64, .i .i64], [.st [.s, .l (cs [.s]), .l Zc1], .st [.s, .ref 4, .ref 5], .st [.i .i64, .l (cs [I, .s, .b]), .b], .st [.i .i64, .ref 6], .sq (cs [.s]), .sq Zc1, .sq Zc4], Zc20⟩
def YmV : List Out1 := [⟨.exit 4, ⟨[1, 4, 7, 10, 13, 55, 56, 57], [.i .u32, .ptr 0 0 0, .ptr 1 0 0, .np 2, .ptr 3 0 0, .l Zc1, .i .i64, .i .i64], [.st [.s, .l (cs [.s]), .l Zc1], .st [.s, .ref 4, .ref 5], .st [.i .i64, .l (cs [I, .s, .b]), .b], .st [.i .i64, .ref 6], .sq (cs [.s]), .sq Zc1, .sq Zc4], (cs [.i .u32, .l Zc1, I, I, .s, .l (cs [.s]), .l Zc1, .s, I, .l (cs [I, .s, .b]), .b, I, .l (cs [.s]), .l Zc1, .l Zc4])⟩⟩]
def Yd8 (lo : Lo) : Zp26 -> Option (Zp26 ⊕ ((Int × Zt3 × Int × Int × ByteArray × Zt2 × Zt3 × ByteArray × Int × Zt8 × Bool × Int × Zt2 × Zt3 × Zt0))) := fun x => match x with
  | (s1, v55, v56, v57, v65, v66, v67, v4_0, v4_1, v4_2, out7, h2_0, h2_1, h2_2, p13, h4, h5, h6) => bif (decide (v67 < v66)) then (chk (0 <= v67 /\ v67 < (v65.length : Int)) (chk (0 <= v67) (bif (decide ((bits .and .u32 (s1.fdiv (2 ^ (min v67.toNat (IntKind.bits .u32)))) (1 : Int)) = (1 : Int))) then (chk (h6.length + ([(v65.getD v67.toNat ((0 : Int), (0 : Int), (ByteArray.mk #[])))]).length <= maxEl) (some (.inl (s1, v55, v56, v57, v65, v66, (IntKind.wrap .i64 (v67 + (1 : Int))), v4_0, v4_1, v4_2, out7, h2_0, h2_1, h2_2, p13, h4, h5, (h6 ++ ([(v65.getD v67.toNat ((0 : Int), (0 : Int), (ByteArray.mk #[])))])))))) else (some (.inl (s1, v55, v56, v57, v65, v66, (IntKind.wrap .i64 (v67 + (1 : Int))), v4_0, v4_1, v4_2, out7, h2_0, h2_1, h2_2, p13, h4, h5, h6)))))) else (some (.inr (s1, v55, v56, v57, v4_0, v4_1, v4_2, out7, h2_0, h2_1, h2_2, p13, h4, h5, h6)))
theorem Yuk (lo : Lo) : ∀ x : Zp26, stepL (⟨pf, fs18 lo, [YbM lo], 0⟩ : Tabs) [(13, some 1, false)] YmU YmV q18_L9_b x = Yd8 lo x := fun x => by kernel_rfl
def Yd9 (lo : Lo) : Zp26 -> Option ((Int × Zt3 × Int × Int × ByteArray × Zt2 × Zt3 × ByteArray × Int × Zt8 × Bool × Int × Zt2 × Zt3 × Zt0)) := lo.run (Yd8 lo)
def YcU (lo : Lo) : LpE := ⟨9, [(13, some 1, false)], YmU, YmV, Yd9 lo⟩
theorem Yul {lo : Lo} (hlo : LoOK lo) (C : Ctx) (hT : TOK (⟨pf, fs18 lo, [YbM lo], 0⟩ : Tabs) C) : LpSound (fun _ => False) [] 0 C (.loop q18_L9_b.er) (YcU lo) :=
  Yak hT frNo (show LK C _ q18_L9_b from ⟨tv, ⟨⟨tv, tv⟩, ⟨⟨tv, ⟨tv, ⟨tv, tv⟩⟩⟩, tv⟩⟩⟩) (fun x y h => Yal (Yuk lo) (hlo _ _ _ h))
def q18_L3_b : VCode :=
 (.seq (.reg [o 58 (.bin .lss (t 57) (t 56))])
 (.seq (.cond (t 58) .skip
 (.exit 2))
 (.seq (.blk 3 (.seq (.reg [o 59 (.iad 2 (t 55) (t 57)), o 60 (.load true 2 (t 59)), o 12 (.alloc [.i .i64 0, .e Zc4]), on (.store 2 (t 12) (t 60))])
 (.seq (.reg [fD 61 0 12, lD 62 61, o 63 (.build [.i .i64 0, .e Zc4] [(0, 1, (t 62))]), o 13 (.alloc [.i .i64 0, .e Zc4]), on (.store 2 (t 13) (t 63))])
 (.seq (.seq (.reg [fD 64 1 12, lD 65 64, lN 66 65, o 67 (.mv (k 0))])
 (.blk 4 (.loop 9 q18_L9_b)))
 (.seq (.reg [fD 84 1 13, lD 85 84, o 86 (.call 261 [(t 85)]), mV 16 86])
 (.seq (.reg [mV 87 10, mV 88 16, o 89 (.mget none .b (cs []) false false (t 87) (t 88)), o 90 (.not (t 89))])
 (.cond (t 90) (.seq (.reg [mV 91 10, mV 92 16, on (.mput none .b (cs []) false (t 91) (t 92) (kb true))])
 (.fz [85] (.reg [fD 93 2 7, lD 94 93, o 95 (.load true 2 (t 13)), o 96 (.bsl Zc1 1 [(0, (t 95))]), o 97 (.app Zc1 0 (t 94) (t 96)), fD 98 2 7, on (.store 1 (t 98) (t 97))])))
 .skip)))))))
 (.reg [o 99 (.bin .add (t 57) (k 1)), mV 57 99]))))
def YmW : Sg := ⟨[1, 4, 7, 10, 55, 56, 57], [.i .u32, .ptr 0 0 0, .ptr 1 0 0, .np 2, .l Zc1, .i .i64, .i .i64], [.st [.s, .l (cs [.s]), .l Zc1], .st [.s, .ref 3, .ref 4], .st [.i .i64, .l (cs [I, .s, .b]), .b], .sq (cs [.s]), .sq Zc1], (cs [.i .u32, .l Zc1, I, I, .s, .l (cs [.s]), .l Zc1, .s, I, .l (cs [I, .s, .b]), .b, .l (cs [.s]), .l Zc1])⟩
def YmX : List Out1 := [⟨.exit 2, ⟨[4, 7], [.ptr 0 0 0, .ptr 1 0 0], [.st [.s, .l (cs [.s]), .l Zc1], .st [.s, .ref 2, .ref 3], .sq (cs [.s]), .sq Zc1], Zc6⟩⟩]
def Yea (lo : Lo) : Zp29 -> Option (Zp29 ⊕ (Zp36)) := fun x => match x with
  | (s1, v55, v56, v57, v4_0, v4_1, v4_2, out7, h2_0, h2_1, h2_2, h3, h4) => bif (decide (v57 < v56)) then (chk (0 <= v57 /\ v57 < (v55.length : Int)) (Option.bind (Yd9 lo (s1, v55, v56, v57, (v55.getD v57.toNat ((0 : Int), [])).2, (((v55.getD v57.toNat ((0 : Int), [])).2).length : Int), (0 : Int), v4_0, v4_1, v4_2, out7, h2_0, h2_1, h2_2, (v55.getD v57.toNat ((0 : Int), [])).1, h3, h4, [])) fun y48 => Option.bind (q17 lo y48.2.2.2.2.2.2.2.2.2.2.2.2.2.2) fun y49 => bif (!(mgt eqS y49 y48.2.2.2.2.2.2.2.2.2.1 false)) then (chk (y48.2.2.2.2.2.2.2.2.2.2.2.2.2.1.length + ([(y48.2.2.2.2.2.2.2.2.2.2.2.1, y48.2.2.2.2.2.2.2.2.2.2.2.2.2.2)]).length <= maxEl) (some (.inl (y48.1, y48.2.1, y48.2.2.1, (IntKind.wrap .i64 (y48.2.2.2.1 + (1 : Int))), y48.2.2.2.2.1, y48.2.2.2.2.2.1, y48.2.2.2.2.2.2.1, y48.2.2.2.2.2.2.2.1, (mck eqS y48.2.2.2.2.2.2.2.2.1 y49 y48.2.2.2.2.2.2.2.2.2.1), (mpt eqS y48.2.2.2.2.2.2.2.2.1 y49 true y48.2.2.2.2.2.2.2.2.2.1), y48.2.2.2.2.2.2.2.2.2.2.1, y48.2.2.2.2.2.2.2.2.2.2.2.2.1, (y48.2.2.2.2.2.2.2.2.2.2.2.2.2.1 ++ ([(y48.2.2.2.2.2.2.2.2.2.2.2.1, y48.2.2.2.2.2.2.2.2.2.2.2.2.2.2)])))))) else (some (.inl (y48.1, y48.2.1, y48.2.2.1, (IntKind.wrap .i64 (y48.2.2.2.1 + (1 : Int))), y48.2.2.2.2.1, y48.2.2.2.2.2.1, y48.2.2.2.2.2.2.1, y48.2.2.2.2.2.2.2.1, y48.2.2.2.2.2.2.2.2.1, y48.2.2.2.2.2.2.2.2.2.1, y48.2.2.2.2.2.2.2.2.2.2.1, y48.2.2.2.2.2.2.2.2.2.2.2.2.1, y48.2.2.2.2.2.2.2.2.2.2.2.2.2.1))))) else (some (.inr (v4_0, v4_1, v4_2, out7, h3, h4)))
theorem Yum (lo : Lo) : ∀ x : Zp29, stepL (⟨pf, fs18 lo, [YcU lo, YbM lo], 0⟩ : Tabs) [] YmW YmX q18_L3_b x = Yea lo x := fun x => by kernel_rfl
def YgL (lo : Lo) : Zp29 -> Option (Zp36) := lo.run (Yea lo)
def YgM (lo : Lo) : LpE := ⟨3, [], YmW, YmX, YgL lo⟩
theorem Yun {lo : Lo} (hlo : LoOK lo) (C : Ctx) (hT : TOK (⟨pf, fs18 lo, [YcU lo, YbM lo], 0⟩ : Tabs) C) : LpSound (fun _ => False) [] 0 C (.loop q18_L3_b.er) (YgM lo) :=
  Yak hT frNo (show LK C _ q18_L3_b from ⟨tv, ⟨⟨tv, tv⟩, ⟨⟨tv, ⟨tv, ⟨⟨tv, (lsGet (by kernel_rfl) (Yul hlo C (Yai hT)))⟩, ⟨tv, ⟨tv, ⟨⟨tv, tv⟩, tv⟩⟩⟩⟩⟩⟩, tv⟩⟩⟩) (fun x y h => Yal (Yum lo) (hlo _ _ _ h))
def q18 (lo : Lo) (t0_0 : ByteArray) (t0_1 : List ByteArray) (t0_2 : List (Int × Zt0)) (s1 : Int) : Option (ByteArray × Zt2 × Zt3 × Int) :=
  Option.bind (q11 lo t0_0 t0_1 t0_2) fun y46 => bif (!decide (y46 = (0 : Int))) then (some ((ByteArray.mk #[]), ([] : List ByteArray), ([] : List (Int × Zt0)), y46)) else (chk (0 <= (t0_1.length : Int)) (bif (!decide ((s1.fdiv (2 ^ (min (t0_1.length : Int).toNat (IntKind.bits .u32)))) = (0 : Int))) then (some ((ByteArray.mk #[]), ([] : List ByteArray), ([] : List (Int × Zt0)), (6 : Int))) else (Option.bind (YgK lo (s1, t0_1, (t0_1.length : Int), (0 : Int), t0_0, t0_1, t0_2, (ByteArray.mk #[]), ([] : List ByteArray), ([] : List (Int × Zt0)), t0_0, [], [])) fun y47 => Option.bind (YgL lo (y47.1, y47.2.2.2.1, (y47.2.2.2.1.length : Int), (0 : Int), y47.2.2.2.2.1, y47.2.2.2.2.2.1, y47.2.2.2.2.2.2.1, y47.2.2.2.2.2.2.2.1, (0 : Int), ([] : List (Int × ByteArray × Bool)), false, y47.2.2.2.2.2.2.2.2.1, y47.2.2.2.2.2.2.2.2.2)) fun y50 => some (y50.2.2.2.1, y50.2.2.2.2.1, y50.2.2.2.2.2, (0 : Int)))))
def YmY : VCode :=
 (.seq (.reg [o 2 (.box (t 0)), o 4 (.alloc [.s (⟨#[]⟩), .e (cs [.s]), .e Zc1]), o 5 (.mv (k 0))])
 (.seq (.seq (.reg [o 17 (.load true 3 (t 2)), o 18 (.call 230 [(t 17)]), mV 6 18])
 (.seq (.reg [mV 19 6, o 20 (.bin .neq (t 19) (k 0))])
 (.cond (t 20) (.seq (.reg [o 21 (.build [.s (⟨#[]⟩), .e (cs [.s]), .e Zc1] []), mV 22 6, on (.store 3 (t 4) (t 21)), mV 5 22])
 (.fz [4, 5] .ret))
 .skip)))
 (.seq (.seq (.reg [mV 23 1, fD 24 1 2, lD 25 24, lN 26 25, o 27 (.bin .shr (t 23) (t 26)), o 28 (.bin .neq (t 27) (ki .u32 0))])
 (.cond (t 28) (.seq (.reg [o 29 (.build [.s (⟨#[]⟩), .e (cs [.s]), .e Zc1] []), on (.store 3 (t 4) (t 29)), o 5 (.mv (k 6))])
 (.fz [4, 5] .ret))
 .skip))
 (.seq (.reg [fD 30 0 2, lD 31 30, o 32 (.build [.s (⟨#[]⟩), .e (cs [.s]), .e Zc1] [(0, 1, (t 31))]), o 7 (.alloc [.s (⟨#[]⟩), .e (cs [.s]), .e Zc1]), on (.store 3 (t 7) (t 32))])
 (.seq (.seq (.reg [fD 33 1 2, lD 34 33, lN 35 34, o 36 (.mv (k 0))])
 (.blk 0 (.loop 23 q18_L23_b)))
 (.seq (.reg [o 53 (.mkm none .b (cs []) false), mV 10 53])
 (.seq (.seq (.reg [fD 54 2 2, lD 55 54, lN 56 55, o 57 (.mv (k 0))])
 (.blk 2 (.loop 3 q18_L3_b)))
 (.seq (.reg [o 100 (.load true 3 (t 7)), on (.store 3 (t 4) (t 100)), o 5 (.mv (k 0))])
 (.fz [4, 5] .ret)))))))))
def YgN : VFn := ⟨true, 101, [.c 4 true 3, .t 5], YmY⟩
def YgO (lo : Lo) : FnE := ⟨233, true, ⟨[0, 1], [.ag [.s, .l (cs [.s]), .l Zc1], .i .u32], [], Zc12⟩, .tp [.ag [.s, .l (cs [.s]), .l Zc1], .i .i64], [], Zc15, (fun x => q18 lo x.1 x.2.1 x.2.2.1 x.2.2.2 : ByteArray × Zt2 × Zt3 × Int -> Option (ByteArray × Zt2 × Zt3 × Int))⟩
theorem Yuo (lo : Lo) : ∀ x : ByteArray × Zt2 × Zt3 × Int, evP (⟨pf, fs18 lo, [YgM lo, YcU lo, YbM lo], 0⟩ : Tabs) YgN ⟨[0, 1], [.ag [.s, .l (cs [.s]), .l Zc1], .i .u32], [], Zc12⟩ (.tp [.ag [.s, .l (cs [.s]), .l Zc1], .i .i64]) Zc15 x = q18 lo x.1 x.2.1 x.2.2.1 x.2.2.2 := fun x => by kernel_rfl
theorem Yup {P : Program} {fm : FM} {lo : Lo} (hlo : LoOK lo) (hS : Sound P fm ⟨pf, fs18 lo, [], 0⟩) (hm : P.follows .mixedOrders = true) (htie : Ti P fm 233 YgN) : Sound P fm ⟨pf, YgO lo :: fs18 lo, [], 0⟩ :=
  Yaf hS hm [YgM lo, YcU lo, YbM lo] (YgO lo) rfl YgN htie (by decide) rfl (Nat.le_of_ble_eq_true (by kernel_rfl)) (fun C hT => show LK C _ YmY from ⟨tv, ⟨⟨tv, ⟨tv, ⟨⟨tv, tv⟩, tv⟩⟩⟩, ⟨⟨tv, ⟨⟨tv, tv⟩, tv⟩⟩, ⟨tv, ⟨⟨tv, (lsGet (by kernel_rfl) (Yuj hlo C (Yai hT)))⟩, ⟨tv, ⟨⟨tv, (lsGet (by kernel_rfl) (Yun hlo C (Yai hT)))⟩, ⟨tv, tv⟩⟩⟩⟩⟩⟩⟩⟩) (fun x y h => (Yuo lo x).trans h)
def fs19 (lo : Lo) : List FnE := YgO lo :: fs18 lo
def q19 (lo : Lo) (l : List ByteArray) : Option Zt2 := bif Nat.ble l.length maxEl && Nat.ble 1 1 then some l else none
def YmZ (lo : Lo) : FnE := vcloneE 269 (cs [.s])
theorem Yuq {P : Program} {fm : FM} {lo : Lo} (hlo : LoOK lo) (hS : Sound P fm ⟨pf, fs19 lo, [], 0⟩) (hm : P.follows .mixedOrders = true) (htie : ∀ f, fm f = 269 -> fnTr P fm pf f = some (8, [.t 2], vcloneC 1 [(.string (⟨#[]⟩))])) : Sound P fm ⟨pf, YmZ lo :: fs19 lo, [], 0⟩ :=
  YsD hS hm (cs [.s]) rfl [(.string (⟨#[]⟩))] 8 (by decide) htie
def fs20 (lo : Lo) : List FnE := YmZ lo :: fs19 lo
def q20_L3_b : VCode :=
 (.seq (.reg [o 21 (.bin .lss (t 20) (t 19))])
 (.seq (.cond (t 21) .skip
 (.exit 0))
 (.seq (.blk 1 (.seq (.reg [mV 22 20, o 23 (.iad 1 (t 18) (t 20)), lD 24 23, mV 11 22, mV 12 24])
 (.seq (.seq (.reg [mV 25 12, mV 26 0, lN 27 26, o 28 (.bin .lss (t 25) (t 27)), mV 29 28, og 30 29 true (.mv (t 0)), og 31 29 true (.mv (t 12)), og 32 29 true (.iad 3 (t 30) (t 31)), og 33 29 true (.load true 3 (t 32)), og 34 29 true (.mv (t 1)), og 35 29 true (.mv (t 11)), og 36 29 true (.iad 3 (t 34) (t 35)), og 37 29 true (.load true 3 (t 36)), og 38 29 true (.eqa true [1, 1, 2] (t 33) (t 37)), o 39 (.pick (t 29) (t 38) (kb false))])
 (.cond (t 39) (.seq (.reg [o 8 (.mv (ke Zc4)), o 9 (.mv (kb false))])
 (.fz [8, 9] .ret))
 .skip))
 (.reg [mV 40 10, mV 41 12, mV 42 1, mV 43 11, o 44 (.iad 3 (t 42) (t 43)), o 45 (.load true 3 (t 44)), o 46 (.iad 3 (t 40) (t 41)), on (.store 3 (t 46) (t 45))]))))
 (.reg [o 47 (.bin .add (t 20) (k 1)), mV 20 47]))))
def Ym0 : Sg := ⟨[0, 1, 10, 18, 19, 20], [.l Zc4, .l Zc4, .ref 0, .l (cs [I]), .i .i64, .i .i64], [.sq Zc4], (cs [.l Zc4, .l Zc4, .l (cs [I]), I, I, .l Zc4])⟩
def Ym1 : List Out1 := [⟨.ret, ⟨[8, 9], [.l Zc4, .b], [], (cs [.l Zc4, .b])⟩⟩, ⟨.exit 0, ⟨[10], [.ref 0], [.sq Zc4], Zc22⟩⟩]
def Ym2 (lo : Lo) : Zp37 -> Option (Zp37 ⊕ ((Zt0 × Bool) ⊕ (Zt0))) := fun x => match x with
  | (a0, b1, v18, v19, v20, out10) => bif (decide (v20 < v19)) then (chk (0 <= v20 /\ v20 < (v18.length : Int)) (bif (decide ((v18.getD v20.toNat (0 : Int)) < (a0.length : Int))) then (chk (0 <= (v18.getD v20.toNat (0 : Int)) /\ (v18.getD v20.toNat (0 : Int)) < (a0.length : Int)) (chk (0 <= v20 /\ v20 < (b1.length : Int)) (bif (!((decide ((a0.getD ((v18.getD v20.toNat (0 : Int)).toNat) ((0 : Int), (0 : Int), (ByteArray.mk #[]))).1 = (b1.getD v20.toNat ((0 : Int), (0 : Int), (ByteArray.mk #[]))).1)) && ((decide ((a0.getD ((v18.getD v20.toNat (0 : Int)).toNat) ((0 : Int), (0 : Int), (ByteArray.mk #[]))).2.1 = (b1.getD v20.toNat ((0 : Int), (0 : Int), (ByteArray.mk #[]))).2.1)) && ((decide ((a0.getD ((v18.getD v20.toNat (0 : Int)).toNat) ((0 : Int), (0 : Int), (ByteArray.mk #[]))).2.2 = (b1.getD v20.toNat ((0 : Int), (0 : Int), (ByteArray.mk #[]))).2.2)) && true)))) then (some (.inr (.inl (([] : List (Int × Int × ByteArray)), false)))) else (chk (0 <= v20 /\ v20 < (b1.length : Int)) (chk (0 <= (v18.getD v20.toNat (0 : Int)) /\ (v18.getD v20.toNat (0 : Int)) < (out10.length : Int)) (some (.inl (a0, b1, v18, v19, (IntKind.wrap .i64 (v20 + (1 : Int))), (out10.set ((v18.getD v20.toNat (0 : Int)).toNat) (b1.getD v20.toNat ((0 : Int), (0 : Int), (ByteArray.mk #[])))))))))))) else (chk (0 <= v20 /\ v20 < (b1.length : Int)) (chk (0 <= (v18.getD v20.toNat (0 : Int)) /\ (v18.getD v20.toNat (0 : Int)) < (out10.length : Int)) (some (.inl (a0, b1, v18, v19, (IntKind.wrap .i64 (v20 + (1 : Int))), (out10.set ((v18.getD v20.toNat (0 : Int)).toNat) (b1.getD v20.toNat ((0 : Int), (0 : Int), (ByteArray.mk #[]))))))))))) else (some (.inr (.inr out10)))
theorem Yur (lo : Lo) : ∀ x : Zp37, stepL (⟨pf, fs20 lo, [], 0⟩ : Tabs) [] Ym0 Ym1 q20_L3_b x = Ym2 lo x := fun x => by kernel_rfl
def Ym3 (lo : Lo) : Zp37 -> Option ((Zt0 × Bool) ⊕ (Zt0)) := lo.run (Ym2 lo)
def YgP (lo : Lo) : LpE := ⟨3, [], Ym0, Ym1, Ym3 lo⟩
theorem Yus {lo : Lo} (hlo : LoOK lo) (C : Ctx) (hT : TOK (⟨pf, fs20 lo, [], 0⟩ : Tabs) C) : LpSound (fun _ => False) [] 0 C (.loop q20_L3_b.er) (YgP lo) :=
  Yak hT frNo (show LK C _ q20_L3_b from ⟨tv, ⟨⟨tv, tv⟩, ⟨⟨tv, ⟨⟨tv, ⟨⟨tv, tv⟩, tv⟩⟩, tv⟩⟩, tv⟩⟩⟩) (fun x y h => Yal (Yur lo) (hlo _ _ _ h))
def q20 (lo : Lo) (a0 : List (Int × Int × ByteArray)) (b1 : List (Int × Int × ByteArray)) (place2 : List Int) (n3 : Int) : Option (Zt0 × Bool) :=
  chk (0 <= n3 /\ n3 <= n3 /\ n3 <= (maxEl : Nat)) (Option.bind (Ym3 lo (a0, b1, place2, (place2.length : Int), (0 : Int), (a0.take (min a0.length (List.replicate n3.toNat ((0 : Int), (0 : Int), (ByteArray.mk #[]))).length) ++ (List.replicate n3.toNat ((0 : Int), (0 : Int), (ByteArray.mk #[]))).drop (min a0.length (List.replicate n3.toNat ((0 : Int), (0 : Int), (ByteArray.mk #[]))).length)))) fun y58 => alt2 y58 (fun y59 => some (y59.1, y59.2)) (fun y60 => some (y60, true)))
def Ym4 : VCode :=
 (.seq (.reg [o 8 (.mv (ke Zc4)), o 9 (.mv (kb false))])
 (.seq (.reg [mV 13 3, o 14 (.mksl Zc4 0 (t 13) (t 13)), mV 10 14])
 (.seq (.reg [mV 15 10, mV 16 0, o 17 (.cpy Zc4 (t 15) (t 16))])
 (.seq (.seq (.reg [mV 18 2, lN 19 18, o 20 (.mv (k 0))])
 (.blk 0 (.loop 3 q20_L3_b)))
 (.seq (.reg [mV 48 10, mV 8 48, o 9 (.mv (kb true))])
 (.fz [8, 9] .ret))))))
def YgQ : VFn := ⟨true, 49, [.t 8, .t 9], Ym4⟩
def YgR (lo : Lo) : FnE := ⟨270, true, ⟨[0, 1, 2, 3], [.l Zc4, .l Zc4, .l (cs [I]), .i .i64], [], (cs [.l Zc4, .l Zc4, .l (cs [I]), I])⟩, .tp [.l Zc4, .b], [], (cs [.l Zc4, .b]), (fun x => q20 lo x.1 x.2.1 x.2.2.1 x.2.2.2 : Zt0 × Zt0 × (List Int) × Int -> Option (Zt0 × Bool))⟩
theorem Yut (lo : Lo) : ∀ x : Zt0 × Zt0 × (List Int) × Int, evP (⟨pf, fs20 lo, [YgP lo], 0⟩ : Tabs) YgQ ⟨[0, 1, 2, 3], [.l Zc4, .l Zc4, .l (cs [I]), .i .i64], [], (cs [.l Zc4, .l Zc4, .l (cs [I]), I])⟩ (.tp [.l Zc4, .b]) (cs [.l Zc4, .b]) x = q20 lo x.1 x.2.1 x.2.2.1 x.2.2.2 := fun x => by kernel_rfl
theorem Yuu {P : Program} {fm : FM} {lo : Lo} (hlo : LoOK lo) (hS : Sound P fm ⟨pf, fs20 lo, [], 0⟩) (hm : P.follows .mixedOrders = true) (htie : Ti P fm 270 YgQ) : Sound P fm ⟨pf, YgR lo :: fs20 lo, [], 0⟩ :=
  Yaf hS hm [YgP lo] (YgR lo) rfl YgQ htie (by decide) rfl (Nat.le_of_ble_eq_true (by kernel_rfl)) (fun C hT => show LK C _ Ym4 from ⟨tv, ⟨tv, ⟨tv, ⟨⟨tv, (lsGet (by kernel_rfl) (Yus hlo C (Yai hT)))⟩, ⟨tv, tv⟩⟩⟩⟩⟩) (fun x y h => (Yut lo x).trans h)
def fs21 (lo : Lo) : List FnE := YgR lo :: fs20 lo
def q21_J9_b : VCode :=
 (.seq (.seq (.reg [mV 13 0, o 14 (.bin .geq (t 13) (ki .u64 256))])
 (.cond (t 14) (.seq (.reg [mV 15 0, o 16 (.bin .shr (t 15) (ki .u64 8)), mV 0 16])
 (.reg [mV 17 2, o 18 (.bin .add (t 17) (k 8)), mV 2 18]))
 .skip))
 (.seq (.reg [mV 19 2, mV 20 0, o 21 (.conv .u8 (t 20)), o 22 (.idx (ks (⟨#[0, 1, 2, 2, 3, 3, 3, 3, 4, 4, 4, 4, 4, 4, 4, 4, 5, 5, 5, 5, 5, 5, 5, 5, 5, 5, 5, 5, 5, 5, 5, 5, 6, 6, 6, 6, 6, 6, 6, 6, 6, 6, 6, 6, 6, 6, 6, 6, 6, 6, 6, 6, 6, 6, 6, 6, 6, 6, 6, 6, 6, 6, 6, 6, 7, 7, 7, 7, 7, 7, 7, 7, 7, 7, 7, 7, 7, 7, 7, 7, 7, 7, 7, 7, 7, 7, 7, 7, 7, 7, 7, 7, 7, 7, 7, 7, 7, 7, 7, 7, 7, 7, 7, 7, 7, 7, 7, 7, 7, 7, 7, 7, 7, 7, 7, 7, 7, 7, 7, 7, 7, 7, 7, 7, 7, 7, 7, 7, 8, 8, 8, 8, 8, 8, 8, 8, 8, 8, 8, 8, 8, 8, 8, 8, 8, 8, 8, 8, 8, 8, 8, 8, 8, 8, 8, 8, 8, 8, 8, 8, 8, 8, 8, 8, 8, 8, 8, 8, 8, 8, 8, 8, 8, 8, 8, 8, 8, 8, 8, 8, 8, 8, 8, 8, 8, 8, 8, 8, 8, 8, 8, 8, 8, 8, 8, 8, 8, 8, 8, 8, 8, 8, 8, 8, 8, 8, 8, 8, 8, 8, 8, 8, 8, 8, 8, 8, 8, 8, 8, 8, 8, 8, 8, 8, 8, 8, 8, 8, 8, 8, 8, 8, 8, 8, 8, 8, 8, 8, 8, 8, 8, 8, 8, 8, 8, 8, 8, 8, 8, 8, 8, 8, 8, 8, 8, 8]⟩)) (t 21)), o 23 (.conv .i64 (t 22)), o 24 (.bin .add (t 19) (t 23)), mV 2 24])
 (.fz [2] .ret)))
def Ym5 : Sg := ⟨[0, 2], [.i .u64, .i .i64], [], (cs [.i .u64, I])⟩
def Ym6 : List Out1 := [⟨.ret, ⟨[2], [.i .i64], [], (cs [I])⟩⟩]
def Yb6 (lo : Lo) : Int × Int -> Option Int := fun x => match x with
  | (x0, n2) => bif (decide ((256 : Int) <= x0)) then (chk (0 <= (8 : Int)) (chk (0 <= (IntKind.wrap .u8 (x0.fdiv (2 ^ (min (8 : Int).toNat (IntKind.bits .u64))))) /\ (IntKind.wrap .u8 (x0.fdiv (2 ^ (min (8 : Int).toNat (IntKind.bits .u64))))) < ((ByteArray.mk #[0, 1, 2, 2, 3, 3, 3, 3, 4, 4, 4, 4, 4, 4, 4, 4, 5, 5, 5, 5, 5, 5, 5, 5, 5, 5, 5, 5, 5, 5, 5, 5, 6, 6, 6, 6, 6, 6, 6, 6, 6, 6, 6, 6, 6, 6, 6, 6, 6, 6, 6, 6, 6, 6, 6, 6, 6, 6, 6, 6, 6, 6, 6, 6, 7, 7, 7, 7, 7, 7, 7, 7, 7, 7, 7, 7, 7, 7, 7, 7, 7, 7, 7, 7, 7, 7, 7, 7, 7, 7, 7, 7, 7, 7, 7, 7, 7, 7, 7, 7, 7, 7, 7, 7, 7, 7, 7, 7, 7, 7, 7, 7, 7, 7, 7, 7, 7, 7, 7, 7, 7, 7, 7, 7, 7, 7, 7, 7, 8, 8, 8, 8, 8, 8, 8, 8, 8, 8, 8, 8, 8, 8, 8, 8, 8, 8, 8, 8, 8, 8, 8, 8, 8, 8, 8, 8, 8, 8, 8, 8, 8, 8, 8, 8, 8, 8, 8, 8, 8, 8, 8, 8, 8, 8, 8, 8, 8, 8, 8, 8, 8, 8, 8, 8, 8, 8, 8, 8, 8, 8, 8, 8, 8, 8, 8, 8, 8, 8, 8, 8, 8, 8, 8, 8, 8, 8, 8, 8, 8, 8, 8, 8, 8, 8, 8, 8, 8, 8, 8, 8, 8, 8, 8, 8, 8, 8, 8, 8, 8, 8, 8, 8, 8, 8, 8, 8, 8, 8, 8, 8, 8, 8, 8, 8, 8, 8, 8, 8, 8, 8, 8, 8, 8, 8, 8, 8]).size : Int)) (some (IntKind.wrap .i64 ((IntKind.wrap .i64 (n2 + (8 : Int))) + (IntKind.wrap .i64 (byteI (ByteArray.mk #[0, 1, 2, 2, 3, 3, 3, 3, 4, 4, 4, 4, 4, 4, 4, 4, 5, 5, 5, 5, 5, 5, 5, 5, 5, 5, 5, 5, 5, 5, 5, 5, 6, 6, 6, 6, 6, 6, 6, 6, 6, 6, 6, 6, 6, 6, 6, 6, 6, 6, 6, 6, 6, 6, 6, 6, 6, 6, 6, 6, 6, 6, 6, 6, 7, 7, 7, 7, 7, 7, 7, 7, 7, 7, 7, 7, 7, 7, 7, 7, 7, 7, 7, 7, 7, 7, 7, 7, 7, 7, 7, 7, 7, 7, 7, 7, 7, 7, 7, 7, 7, 7, 7, 7, 7, 7, 7, 7, 7, 7, 7, 7, 7, 7, 7, 7, 7, 7, 7, 7, 7, 7, 7, 7, 7, 7, 7, 7, 8, 8, 8, 8, 8, 8, 8, 8, 8, 8, 8, 8, 8, 8, 8, 8, 8, 8, 8, 8, 8, 8, 8, 8, 8, 8, 8, 8, 8, 8, 8, 8, 8, 8, 8, 8, 8, 8, 8, 8, 8, 8, 8, 8, 8, 8, 8, 8, 8, 8, 8, 8, 8, 8, 8, 8, 8, 8, 8, 8, 8, 8, 8, 8, 8, 8, 8, 8, 8, 8, 8, 8, 8, 8, 8, 8, 8, 8, 8, 8, 8, 8, 8, 8, 8, 8, 8, 8, 8, 8, 8, 8, 8, 8, 8, 8, 8, 8, 8, 8, 8, 8, 8, 8, 8, 8, 8, 8, 8, 8, 8, 8, 8, 8, 8, 8, 8, 8, 8, 8, 8, 8, 8, 8, 8, 8, 8, 8]) (IntKind.wrap .u8 (x0.fdiv (2 ^ (min (8 : Int).toNat (IntKind.bits .u64)))))))))))) else (chk (0 <= (IntKind.wrap .u8 x0) /\ (IntKind.wrap .u8 x0) < ((ByteArray.mk #[0, 1, 2, 2, 3, 3, 3, 3, 4, 4, 4, 4, 4, 4, 4, 4, 5, 5, 5, 5, 5, 5, 5, 5, 5, 5, 5, 5, 5, 5, 5, 5, 6, 6, 6, 6, 6, 6, 6, 6, 6, 6, 6, 6, 6, 6, 6, 6, 6, 6, 6, 6, 6, 6, 6, 6, 6, 6, 6, 6, 6, 6, 6, 6, 7, 7, 7, 7, 7, 7, 7, 7, 7, 7, 7, 7, 7, 7, 7, 7, 7, 7, 7, 7, 7, 7, 7, 7, 7, 7, 7, 7, 7, 7, 7, 7, 7, 7, 7, 7, 7, 7, 7, 7, 7, 7, 7, 7, 7, 7, 7, 7, 7, 7, 7, 7, 7, 7, 7, 7, 7, 7, 7, 7, 7, 7, 7, 7, 8, 8, 8, 8, 8, 8, 8, 8, 8, 8, 8, 8, 8, 8, 8, 8, 8, 8, 8, 8, 8, 8, 8, 8, 8, 8, 8, 8, 8, 8, 8, 8, 8, 8, 8, 8, 8, 8, 8, 8, 8, 8, 8, 8, 8, 8, 8, 8, 8, 8, 8, 8, 8, 8, 8, 8, 8, 8, 8, 8, 8, 8, 8, 8, 8, 8, 8, 8, 8, 8, 8, 8, 8, 8, 8, 8, 8, 8, 8, 8, 8, 8, 8, 8, 8, 8, 8, 8, 8, 8, 8, 8, 8, 8, 8, 8, 8, 8, 8, 8, 8, 8, 8, 8, 8, 8, 8, 8, 8, 8, 8, 8, 8, 8, 8, 8, 8, 8, 8, 8, 8, 8, 8, 8, 8, 8, 8, 8]).size : Int)) (some (IntKind.wrap .i64 (n2 + (IntKind.wrap .i64 (byteI (ByteArray.mk #[0, 1, 2, 2, 3, 3, 3, 3, 4, 4, 4, 4, 4, 4, 4, 4, 5, 5, 5, 5, 5, 5, 5, 5, 5, 5, 5, 5, 5, 5, 5, 5, 6, 6, 6, 6, 6, 6, 6, 6, 6, 6, 6, 6, 6, 6, 6, 6, 6, 6, 6, 6, 6, 6, 6, 6, 6, 6, 6, 6, 6, 6, 6, 6, 7, 7, 7, 7, 7, 7, 7, 7, 7, 7, 7, 7, 7, 7, 7, 7, 7, 7, 7, 7, 7, 7, 7, 7, 7, 7, 7, 7, 7, 7, 7, 7, 7, 7, 7, 7, 7, 7, 7, 7, 7, 7, 7, 7, 7, 7, 7, 7, 7, 7, 7, 7, 7, 7, 7, 7, 7, 7, 7, 7, 7, 7, 7, 7, 8, 8, 8, 8, 8, 8, 8, 8, 8, 8, 8, 8, 8, 8, 8, 8, 8, 8, 8, 8, 8, 8, 8, 8, 8, 8, 8, 8, 8, 8, 8, 8, 8, 8, 8, 8, 8, 8, 8, 8, 8, 8, 8, 8, 8, 8, 8, 8, 8, 8, 8, 8, 8, 8, 8, 8, 8, 8, 8, 8, 8, 8, 8, 8, 8, 8, 8, 8, 8, 8, 8, 8, 8, 8, 8, 8, 8, 8, 8, 8, 8, 8, 8, 8, 8, 8, 8, 8, 8, 8, 8, 8, 8, 8, 8, 8, 8, 8, 8, 8, 8, 8, 8, 8, 8, 8, 8, 8, 8, 8, 8, 8, 8, 8, 8, 8, 8, 8, 8, 8, 8, 8, 8, 8, 8, 8, 8, 8]) (IntKind.wrap .u8 x0)))))))
theorem Yuv (lo : Lo) : ∀ x : Int × Int, stepJ (⟨pf, fs21 lo, [], 0⟩ : Tabs) Ym5 Ym6 q21_J9_b x = Yb6 lo x := fun x => by kernel_rfl
def YgS (lo : Lo) : LpE := ⟨9, [], Ym5, Ym6, Yb6 lo⟩
theorem Yuw {lo : Lo} (hlo : LoOK lo) (C : Ctx) (hT : TOK (⟨pf, fs21 lo, [], 0⟩ : Tabs) C) : LpSound (fun _ => False) [] 0 C q21_J9_b.er (YgS lo) :=
  YcO hT frNo (show LK C _ q21_J9_b from ⟨⟨tv, ⟨⟨tv, tv⟩, tv⟩⟩, ⟨tv, tv⟩⟩) (fun x y h => (Yuv lo x).trans h)
def q21 (lo : Lo) (x0 : Int) : Option Int :=
  bif (decide ((4294967296 : Int) <= x0)) then (chk (0 <= (32 : Int)) (bif (decide ((65536 : Int) <= (x0.fdiv (2 ^ (min (32 : Int).toNat (IntKind.bits .u64)))))) then (chk (0 <= (16 : Int)) (Option.bind (Yb6 lo (((x0.fdiv (2 ^ (min (32 : Int).toNat (IntKind.bits .u64)))).fdiv (2 ^ (min (16 : Int).toNat (IntKind.bits .u64)))), (IntKind.wrap .i64 ((32 : Int) + (16 : Int))))) fun y93 => some y93)) else (Option.bind (Yb6 lo ((x0.fdiv (2 ^ (min (32 : Int).toNat (IntKind.bits .u64)))), (32 : Int))) fun y94 => some y94))) else (bif (decide ((65536 : Int) <= x0)) then (chk (0 <= (16 : Int)) (Option.bind (Yb6 lo ((x0.fdiv (2 ^ (min (16 : Int).toNat (IntKind.bits .u64)))), (IntKind.wrap .i64 ((0 : Int) + (16 : Int))))) fun y95 => some y95)) else (Option.bind (Yb6 lo (x0, (0 : Int))) fun y96 => some y96))
def Ym7 : VCode :=
 (.seq (.reg [o 2 (.mv (k 0))])
 (.seq (.seq (.reg [mV 3 0, o 4 (.bin .geq (t 3) (ki .u64 4294967296))])
 (.cond (t 4) (.seq (.reg [mV 5 0, o 6 (.bin .shr (t 5) (ki .u64 32)), mV 0 6])
 (.reg [o 2 (.mv (k 32))]))
 .skip))
 (.seq (.seq (.reg [mV 7 0, o 8 (.bin .geq (t 7) (ki .u64 65536))])
 (.cond (t 8) (.seq (.reg [mV 9 0, o 10 (.bin .shr (t 9) (ki .u64 16)), mV 0 10])
 (.reg [mV 11 2, o 12 (.bin .add (t 11) (k 16)), mV 2 12]))
 .skip))
 (.jn 9 q21_J9_b))))
def YgT : VFn := ⟨true, 25, [.t 2], Ym7⟩
def YgU (lo : Lo) : FnE := ⟨187, true, ⟨[0], [.i .u64], [], (cs [.i .u64])⟩, .i .i64, [], (cs [I]), (fun x => q21 lo x : Int -> Option Int)⟩
theorem Yux (lo : Lo) : ∀ x : Int, evP (⟨pf, fs21 lo, [YgS lo], 0⟩ : Tabs) YgT ⟨[0], [.i .u64], [], (cs [.i .u64])⟩ (.i .i64) (cs [I]) x = q21 lo x := fun x => by kernel_rfl
theorem Yuy {P : Program} {fm : FM} {lo : Lo} (hlo : LoOK lo) (hS : Sound P fm ⟨pf, fs21 lo, [], 0⟩) (hm : P.follows .mixedOrders = true) (htie : Ti P fm 187 YgT) : Sound P fm ⟨pf, YgU lo :: fs21 lo, [], 0⟩ :=
  Yaf hS hm [YgS lo] (YgU lo) rfl YgT htie (by decide) rfl (Nat.le_of_ble_eq_true (by kernel_rfl)) (fun C hT => show LK C _ Ym7 from ⟨tv, ⟨⟨tv, ⟨⟨tv, tv⟩, tv⟩⟩, ⟨⟨tv, ⟨⟨tv, tv⟩, tv⟩⟩, (lsGet (by kernel_rfl) (Yuw hlo C (Yai hT)))⟩⟩⟩) (fun x y h => (Yux lo x).trans h)
def fs22 (lo : Lo) : List FnE := YgU lo :: fs21 lo
def q22 (lo : Lo) (x0 : Int) : Option Int :=
  Option.bind (q21 lo x0) fun y97 => some y97
def Ym8 : VCode :=
 (.seq (.reg [o 2 (.mv (k 0))])
 (.seq (.cond (kb false) (.seq (.reg [mV 3 0, o 4 (.conv .u32 (t 3)), o 5 (.call 186 [(t 4)]), mV 2 5])
 (.fz [2] .ret))
 .skip)
 (.seq (.reg [mV 6 0, o 7 (.call 187 [(t 6)]), mV 2 7])
 (.fz [2] .ret))))
def YgV : VFn := ⟨true, 8, [.t 2], Ym8⟩
def YgW (lo : Lo) : FnE := ⟨163, true, ⟨[0], [.i .u64], [], (cs [.i .u64])⟩, .i .i64, [], (cs [I]), (fun x => q22 lo x : Int -> Option Int)⟩
theorem Yuz (lo : Lo) : ∀ x : Int, evP (⟨pf, fs22 lo, [], 0⟩ : Tabs) YgV ⟨[0], [.i .u64], [], (cs [.i .u64])⟩ (.i .i64) (cs [I]) x = q22 lo x := fun x => by kernel_rfl
theorem YuA {P : Program} {fm : FM} {lo : Lo} (hlo : LoOK lo) (hS : Sound P fm ⟨pf, fs22 lo, [], 0⟩) (hm : P.follows .mixedOrders = true) (htie : Ti P fm 163 YgV) : Sound P fm ⟨pf, YgW lo :: fs22 lo, [], 0⟩ :=
  Yaf hS hm [] (YgW lo) rfl YgV htie (by decide) rfl (Nat.le_of_ble_eq_true (by kernel_rfl)) (fun C hT => show LK C _ Ym8 from ⟨tv, ⟨⟨⟨tv, tv⟩, tv⟩, ⟨tv, tv⟩⟩⟩) (fun x y h => (Yuz lo x).trans h)
def fs23 (lo : Lo) : List FnE := YgW lo :: fs22 lo
def q23 (lo : Lo) (x0 : ByteArray) : Option Bool :=
  some (!decide (x0 = x0))
def Ym9 : VCode :=
 (.seq (.reg [o 2 (.mv (kb false))])
 (.seq (.reg [mV 3 0, mV 4 0, o 5 (.bin .neq (t 3) (t 4)), mV 2 5])
 (.fz [2] .ret)))
def YgX : VFn := ⟨true, 6, [.t 2], Ym9⟩
def YgY (lo : Lo) : FnE := ⟨325, true, ⟨[0], [.s], [], (cs [.s])⟩, .b, [], (cs [.b]), (fun x => q23 lo x : ByteArray -> Option Bool)⟩
theorem YuB (lo : Lo) : ∀ x : ByteArray, evP (⟨pf, fs23 lo, [], 0⟩ : Tabs) YgX ⟨[0], [.s], [], (cs [.s])⟩ (.b) (cs [.b]) x = q23 lo x := fun x => by kernel_rfl
theorem YuC {P : Program} {fm : FM} {lo : Lo} (hlo : LoOK lo) (hS : Sound P fm ⟨pf, fs23 lo, [], 0⟩) (hm : P.follows .mixedOrders = true) (htie : Ti P fm 325 YgX) : Sound P fm ⟨pf, YgY lo :: fs23 lo, [], 0⟩ :=
  Yaf hS hm [] (YgY lo) rfl YgX htie (by decide) rfl (Nat.le_of_ble_eq_true (by kernel_rfl)) (fun C hT => show LK C _ Ym9 from ⟨tv, ⟨tv, tv⟩⟩) (fun x y h => (YuB lo x).trans h)
def fs24 (lo : Lo) : List FnE := YgY lo :: fs23 lo
def q24 (lo : Lo) (x0 : ByteArray) (y1 : ByteArray) : Option Bool :=
  Option.bind (q23 lo x0) fun y99 => bif y99 then (Option.bind (q23 lo y1) fun y100 => bif (!y100) then (some true) else (some (Op.bytesLess x0.toList y1.toList))) else (some (Op.bytesLess x0.toList y1.toList))
def Yna : VCode :=
 (.seq (.reg [o 4 (.mv (kb false))])
 (.seq (.reg [mV 5 0, o 6 (.call 325 [(t 5)]), mV 7 6, og 8 7 true (.mv (t 1)), og 9 7 true (.call 325 [(t 8)]), og 10 7 true (.not (t 9)), o 11 (.pick (t 7) (t 10) (kb false)), mV 12 11, og 13 12 false (.mv (t 0)), og 14 12 false (.mv (t 1)), og 15 12 false (.bin .lss (t 13) (t 14)), o 16 (.pick (t 12) (kb true) (t 15)), mV 4 16])
 (.fz [4] .ret)))
def YgZ : VFn := ⟨true, 17, [.t 4], Yna⟩
def Yg0 (lo : Lo) : FnE := ⟨317, true, ⟨[0, 1], [.s, .s], [], (cs [.s, .s])⟩, .b, [], (cs [.b]), (fun x => q24 lo x.1 x.2 : ByteArray × ByteArray -> Option Bool)⟩
theorem YuD (lo : Lo) : ∀ x : ByteArray × ByteArray, evP (⟨pf, fs24 lo, [], 0⟩ : Tabs) YgZ ⟨[0, 1], [.s, .s], [], (cs [.s, .s])⟩ (.b) (cs [.b]) x = q24 lo x.1 x.2 := fun x => by kernel_rfl
theorem YuE {P : Program} {fm : FM} {lo : Lo} (hlo : LoOK lo) (hS : Sound P fm ⟨pf, fs24 lo, [], 0⟩) (hm : P.follows .mixedOrders = true) (htie : Ti P fm 317 YgZ) : Sound P fm ⟨pf, Yg0 lo :: fs24 lo, [], 0⟩ :=
  Yaf hS hm [] (Yg0 lo) rfl YgZ htie (by decide) rfl (Nat.le_of_ble_eq_true (by kernel_rfl)) (fun C hT => show LK C _ Yna from ⟨tv, ⟨tv, tv⟩⟩) (fun x y h => (YuD lo x).trans h)
def fs25 (lo : Lo) : List FnE := Yg0 lo :: fs24 lo
end Go.Abs.G03
namespace Go.Abs.G03
open Go Go.Abs
set_option maxRecDepth 100000
set_option maxHeartbeats 1000000
def q25_L3_b : VCode :=
 (.seq (.seq (.reg [mV 16 7, mV 17 1, o 18 (.bin .gtr (t 16) (t 17)), mV 19 18, og 20 19 true (.mv (t 0)), og 21 19 true (.mv (t 7)), og 22 19 true (.iad 1 (t 20) (t 21)), og 23 19 true (.load false 1 (t 22)), og 24 19 true (.mv (t 0)), og 25 19 true (.mv (t 7)), og 26 19 true (.bin .sub (t 25) (k 1)), og 27 19 true (.iad 1 (t 24) (t 26)), og 28 19 true (.load false 1 (t 27)), og 29 19 true (.call 317 [(t 23), (t 28)]), o 30 (.pick (t 19) (t 29) (kb false))])
 (.cond (t 30) .skip
 (.exit 2)))
 (.seq (.blk 3 (.reg [mV 33 0, mV 34 7, mV 35 0, mV 36 7, o 37 (.bin .sub (t 36) (k 1)), mV 38 0, mV 39 7, o 40 (.bin .sub (t 39) (k 1)), o 41 (.iad 1 (t 38) (t 40)), lD 42 41, mV 43 0, mV 44 7, o 45 (.iad 1 (t 43) (t 44)), lD 46 45, o 47 (.iad 1 (t 33) (t 34)), on (.store 1 (t 47) (t 42)), o 48 (.iad 1 (t 35) (t 37)), on (.store 1 (t 48) (t 46))]))
 (.reg [mV 31 7, o 32 (.bin .sub (t 31) (k 1)), mV 7 32])))
def Ynb : Sg := ⟨[0, 1, 2, 6, 7], [.ref 0, .i .i64, .i .i64, .i .i64, .i .i64], [.sq (cs [.s])], (cs [I, I, I, I, .l (cs [.s])])⟩
def Ync : List Out1 := [⟨.exit 2, ⟨[0, 1, 2, 6], [.ref 0, .i .i64, .i .i64, .i .i64], [.sq (cs [.s])], Zc17⟩⟩]
def Ynd (lo : Lo) : Int × Int × Int × Int × Zt2 -> Option ((Int × Int × Int × Int × Zt2) ⊕ ((Int × Int × Int × Zt2))) := fun x => match x with
  | (a1, b2, i6, j7, data0) => bif (decide (a1 < j7)) then (chk (0 <= j7 /\ j7 < (data0.length : Int)) (chk (0 <= (IntKind.wrap .i64 (j7 - (1 : Int))) /\ (IntKind.wrap .i64 (j7 - (1 : Int))) < (data0.length : Int)) (Option.bind (q24 lo (data0.getD j7.toNat (ByteArray.mk #[])) (data0.getD ((IntKind.wrap .i64 (j7 - (1 : Int))).toNat) (ByteArray.mk #[]))) fun y101 => bif y101 then (chk (0 <= (IntKind.wrap .i64 (j7 - (1 : Int))) /\ (IntKind.wrap .i64 (j7 - (1 : Int))) < (data0.length : Int)) (chk (0 <= j7 /\ j7 < (data0.length : Int)) (chk (0 <= j7 /\ j7 < (data0.length : Int)) (chk (0 <= (IntKind.wrap .i64 (j7 - (1 : Int))) /\ (IntKind.wrap .i64 (j7 - (1 : Int))) < ((data0.set j7.toNat (data0.getD ((IntKind.wrap .i64 (j7 - (1 : Int))).toNat) (ByteArray.mk #[]))).length : Int)) (some (.inl (a1, b2, i6, (IntKind.wrap .i64 (j7 - (1 : Int))), ((data0.set j7.toNat (data0.getD ((IntKind.wrap .i64 (j7 - (1 : Int))).toNat) (ByteArray.mk #[]))).set ((IntKind.wrap .i64 (j7 - (1 : Int))).toNat) (data0.getD j7.toNat (ByteArray.mk #[])))))))))) else (some (.inr (a1, b2, i6, data0)))))) else (some (.inr (a1, b2, i6, data0)))
theorem YuF (lo : Lo) : ∀ x : Int × Int × Int × Int × Zt2, stepL (⟨pf, fs25 lo, [], 1⟩ : Tabs) [] Ynb Ync q25_L3_b x = Ynd lo x := fun x => by kernel_rfl
def Yne (lo : Lo) : Int × Int × Int × Int × Zt2 -> Option ((Int × Int × Int × Zt2)) := lo.run (Ynd lo)
def YbN (lo : Lo) : LpE := ⟨3, [], Ynb, Ync, Yne lo⟩
theorem YuG {lo : Lo} (hlo : LoOK lo) (C : Ctx) (hT : TOK (⟨pf, fs25 lo, [], 1⟩ : Tabs) C) {Fr : Nat -> Prop} {H0 : Heap} (hf : FrOK Fr H0) : LpSound Fr H0 1 C (.loop q25_L3_b.er) (YbN lo) :=
  Yak hT hf (show LsOK Fr H0 C (⟨pf, fs25 lo, [], 1⟩ : Tabs) q25_L3_b from ⟨⟨tv, ⟨tv, tv⟩⟩, ⟨tv, tv⟩⟩) (fun x y h => Yal (YuF lo) (hlo _ _ _ h))
def q25_L1_b : VCode :=
 (.seq (.seq (.reg [mV 10 6, mV 11 2, o 12 (.bin .lss (t 10) (t 11))])
 (.cond (t 12) .skip
 (.exit 0)))
 (.seq (.blk 1 (.seq (.reg [mV 15 6, mV 7 15])
 (.blk 2 (.loop 3 q25_L3_b))))
 (.reg [mV 13 6, o 14 (.bin .add (t 13) (k 1)), mV 6 14])))
def Ynf : Sg := ⟨[0, 1, 2, 6], [.ref 0, .i .i64, .i .i64, .i .i64], [.sq (cs [.s])], Zc17⟩
def Yng : List Out1 := [⟨.exit 0, ⟨[], [], [.sq (cs [.s])], Zc9⟩⟩]
def Ynh (lo : Lo) : Int × Int × Int × Zt2 -> Option ((Int × Int × Int × Zt2) ⊕ ((Zt2))) := fun x => match x with
  | (a1, b2, i6, data0) => bif (decide (i6 < b2)) then (Option.bind (Yne lo (a1, b2, i6, i6, data0)) fun y102 => some (.inl (y102.1, y102.2.1, (IntKind.wrap .i64 (y102.2.2.1 + (1 : Int))), y102.2.2.2))) else (some (.inr data0))
theorem YuH (lo : Lo) : ∀ x : Int × Int × Int × Zt2, stepL (⟨pf, fs25 lo, [YbN lo], 1⟩ : Tabs) [] Ynf Yng q25_L1_b x = Ynh lo x := fun x => by kernel_rfl
def Yni (lo : Lo) : Int × Int × Int × Zt2 -> Option ((Zt2)) := lo.run (Ynh lo)
def Yeb (lo : Lo) : LpE := ⟨1, [], Ynf, Yng, Yni lo⟩
theorem YuI {lo : Lo} (hlo : LoOK lo) (C : Ctx) (hT : TOK (⟨pf, fs25 lo, [YbN lo], 1⟩ : Tabs) C) {Fr : Nat -> Prop} {H0 : Heap} (hf : FrOK Fr H0) : LpSound Fr H0 1 C (.loop q25_L1_b.er) (Yeb lo) :=
  Yak hT hf (show LsOK Fr H0 C (⟨pf, fs25 lo, [YbN lo], 1⟩ : Tabs) q25_L1_b from ⟨⟨tv, ⟨tv, tv⟩⟩, ⟨⟨tv, (lsGet (by kernel_rfl) (YuG hlo C (Yai hT) hf))⟩, tv⟩⟩) (fun x y h => Yal (YuH lo) (hlo _ _ _ h))
def q25 (lo : Lo) (a1 : Int) (b2 : Int) (data0 : List ByteArray) : Option (Zt2) :=
  Option.bind (Yni lo (a1, b2, (IntKind.wrap .i64 (a1 + (1 : Int))), data0)) fun y103 => some y103
def Ynj : VCode :=
 (.seq (.reg [mV 8 1, o 9 (.bin .add (t 8) (k 1)), mV 6 9])
 (.blk 0 (.loop 1 q25_L1_b)))
def Yg1 : VFn := ⟨true, 49, [], Ynj⟩
def Yg2 (lo : Lo) : FnE := ⟨311, false, ⟨[0, 1, 2], [.ref 0, .i .i64, .i .i64], [.sq (cs [.s])], Zc21⟩, .tp [], [.sq (cs [.s])], Zc9, (fun x => q25 lo x.1 x.2.1 x.2.2 : Int × Int × Zt2 -> Option (Zt2))⟩
theorem YuJ (lo : Lo) : ∀ x : Int × Int × Zt2, evI (⟨pf, fs25 lo, [Yeb lo, YbN lo], 1⟩ : Tabs) Yg1 ⟨[0, 1, 2], [.ref 0, .i .i64, .i .i64], [.sq (cs [.s])], Zc21⟩ (.tp []) [.sq (cs [.s])] Zc9 x = q25 lo x.1 x.2.1 x.2.2 := fun x => by kernel_rfl
theorem YuK {P : Program} {fm : FM} {lo : Lo} (hlo : LoOK lo) (hS : Sound P fm ⟨pf, fs25 lo, [], 0⟩) (hm : P.follows .mixedOrders = true) (htie : Ti P fm 311 Yg1) : Sound P fm ⟨pf, Yg2 lo :: fs25 lo, [], 0⟩ :=
  Ybg hS hm [Yeb lo, YbN lo] (Yg2 lo) rfl Yg1 htie (by decide) rfl (Nat.le_of_ble_eq_true (by kernel_rfl)) (fun C hT Fr H0 hf => show LsOK Fr H0 C (⟨pf, fs25 lo, [Yeb lo, YbN lo], 1⟩ : Tabs) Ynj from ⟨tv, (lsGet (by kernel_rfl) (YuI hlo C (Yai hT) hf))⟩) (fun x y h => (YuJ lo x).trans h)
def fs26 (lo : Lo) : List FnE := Yg2 lo :: fs25 lo
def q26 (lo : Lo) (x0 : Int) (x1 : Int) (x2 : List ByteArray) : Option (Zt2) := none
def Yg3 (lo : Lo) : FnE := ⟨312, false, ⟨[0, 1, 2], [.ref 0, .i .i64, .i .i64], [.sq (cs [.s])], Zc21⟩, .tp [], [.sq (cs [.s])], Zc9, (fun x => q26 lo x.1 x.2.1 x.2.2 : Int × Int × Zt2 -> Option (Zt2))⟩
theorem YuL {P : Program} {fm : FM} {lo : Lo} (hlo : LoOK lo) (hS : Sound P fm ⟨pf, fs26 lo, [], 0⟩) (hm : P.follows .mixedOrders = true) (hN : True) : Sound P fm ⟨pf, Yg3 lo :: fs26 lo, [], 0⟩ :=
  YbL hS (Yg3 lo) (fun _ => rfl)
def fs27 (lo : Lo) : List FnE := Yg3 lo :: fs26 lo
def q27 (lo : Lo) (x0 : Int) (x1 : Int) (x2 : List ByteArray) : Option (Zt2) := none
def Yg4 (lo : Lo) : FnE := ⟨313, false, ⟨[0, 1, 2], [.ref 0, .i .i64, .i .i64], [.sq (cs [.s])], Zc21⟩, .tp [], [.sq (cs [.s])], Zc9, (fun x => q27 lo x.1 x.2.1 x.2.2 : Int × Int × Zt2 -> Option (Zt2))⟩
theorem YuM {P : Program} {fm : FM} {lo : Lo} (hlo : LoOK lo) (hS : Sound P fm ⟨pf, fs27 lo, [], 0⟩) (hm : P.follows .mixedOrders = true) (hN : True) : Sound P fm ⟨pf, Yg4 lo :: fs27 lo, [], 0⟩ :=
  YbL hS (Yg4 lo) (fun _ => rfl)
def fs28 (lo : Lo) : List FnE := Yg4 lo :: fs27 lo
def q28 (lo : Lo) (x0 : List ByteArray) (x1 : Int) (x2 : Int) : Option (Int × Int) := none
def Yg5 (lo : Lo) : FnE := ⟨314, true, ⟨[0, 1, 2], [.l (cs [.s]), .i .i64, .i .i64], [], (cs [.l (cs [.s]), I, I])⟩, .tp [.i .i64, .i .i64], [], (cs [I, I]), (fun x => q28 lo x.1 x.2.1 x.2.2 : Zt2 × Int × Int -> Option (Int × Int))⟩
theorem YuN {P : Program} {fm : FM} {lo : Lo} (hlo : LoOK lo) (hS : Sound P fm ⟨pf, fs28 lo, [], 0⟩) (hm : P.follows .mixedOrders = true) (hN : True) : Sound P fm ⟨pf, Yg5 lo :: fs28 lo, [], 0⟩ :=
  YbL hS (Yg5 lo) (fun _ => rfl)
def fs29 (lo : Lo) : List FnE := Yg5 lo :: fs28 lo
def q29 (lo : Lo) (x0 : Int) (x1 : Int) (x2 : List ByteArray) : Option (Zt2) := none
def Yg6 (lo : Lo) : FnE := ⟨315, false, ⟨[0, 1, 2], [.ref 0, .i .i64, .i .i64], [.sq (cs [.s])], Zc21⟩, .tp [], [.sq (cs [.s])], Zc9, (fun x => q29 lo x.1 x.2.1 x.2.2 : Int × Int × Zt2 -> Option (Zt2))⟩
theorem YuO {P : Program} {fm : FM} {lo : Lo} (hlo : LoOK lo) (hS : Sound P fm ⟨pf, fs29 lo, [], 0⟩) (hm : P.follows .mixedOrders = true) (hN : True) : Sound P fm ⟨pf, Yg6 lo :: fs29 lo, [], 0⟩ :=
  YbL hS (Yg6 lo) (fun _ => rfl)
def fs30 (lo : Lo) : List FnE := Yg6 lo :: fs29 lo
def q30 (lo : Lo) (x0 : Int) (x1 : Int) (x2 : List ByteArray) : Option (Bool × Zt2) := none
def Yg7 (lo : Lo) : FnE := ⟨316, false, ⟨[0, 1, 2], [.ref 0, .i .i64, .i .i64], [.sq (cs [.s])], Zc21⟩, .b, [.sq (cs [.s])], (cs [.b, .l (cs [.s])]), (fun x => q30 lo x.1 x.2.1 x.2.2 : Int × Int × Zt2 -> Option (Bool × Zt2))⟩
theorem YuP {P : Program} {fm : FM} {lo : Lo} (hlo : LoOK lo) (hS : Sound P fm ⟨pf, fs30 lo, [], 0⟩) (hm : P.follows .mixedOrders = true) (hN : True) : Sound P fm ⟨pf, Yg7 lo :: fs30 lo, [], 0⟩ :=
  YbL hS (Yg7 lo) (fun _ => rfl)
def fs31 (lo : Lo) : List FnE := Yg7 lo :: fs30 lo
def q31 (lo : Lo) (x0 : Int) (x1 : Int) (x2 : Int) (x3 : List ByteArray) : Option (Int × Zt2) := none
def Yg8 (lo : Lo) : FnE := ⟨318, false, ⟨[0, 1, 2, 3], [.ref 0, .i .i64, .i .i64, .i .i64], [.sq (cs [.s])], Zc17⟩, .i .i64, [.sq (cs [.s])], (cs [I, .l (cs [.s])]), (fun x => q31 lo x.1 x.2.1 x.2.2.1 x.2.2.2 : Int × Int × Int × Zt2 -> Option (Int × Zt2))⟩
theorem YuQ {P : Program} {fm : FM} {lo : Lo} (hlo : LoOK lo) (hS : Sound P fm ⟨pf, fs31 lo, [], 0⟩) (hm : P.follows .mixedOrders = true) (hN : True) : Sound P fm ⟨pf, Yg8 lo :: fs31 lo, [], 0⟩ :=
  YbL hS (Yg8 lo) (fun _ => rfl)
def fs32 (lo : Lo) : List FnE := Yg8 lo :: fs31 lo
def q32 (lo : Lo) (x0 : Int) (x1 : Int) (x2 : Int) (x3 : List ByteArray) : Option (Int × Bool × Zt2) := none
def Yg9 (lo : Lo) : FnE := ⟨319, false, ⟨[0, 1, 2, 3], [.ref 0, .i .i64, .i .i64, .i .i64], [.sq (cs [.s])], Zc17⟩, .tp [.i .i64, .b], [.sq (cs [.s])], (cs [I, .b, .l (cs [.s])]), (fun x => q32 lo x.1 x.2.1 x.2.2.1 x.2.2.2 : Int × Int × Int × Zt2 -> Option (Int × Bool × Zt2))⟩
theorem YuR {P : Program} {fm : FM} {lo : Lo} (hlo : LoOK lo) (hS : Sound P fm ⟨pf, fs32 lo, [], 0⟩) (hm : P.follows .mixedOrders = true) (hN : True) : Sound P fm ⟨pf, Yg9 lo :: fs32 lo, [], 0⟩ :=
  YbL hS (Yg9 lo) (fun _ => rfl)
def fs33 (lo : Lo) : List FnE := Yg9 lo :: fs32 lo
def YaE (F : Int × Int × Int × Zt2 -> Option (Zt2)) : FnE := ⟨301, false, ⟨[0, 1, 2, 3], [.ref 0, .i .i64, .i .i64, .i .i64], [.sq (cs [.s])], Zc17⟩, .tp [], [.sq (cs [.s])], Zc9, F⟩
def q33_J20_b : VCode :=
 (.seq (.seq (.reg [mV 73 1, o 74 (.bin .gtr (t 73) (k 0)), mV 75 74, og 76 75 true (.mv (t 0)), og 77 75 true (.mv (t 1)), og 78 75 true (.bin .sub (t 77) (k 1)), og 79 75 true (.iad 1 (t 76) (t 78)), og 80 75 true (.load false 1 (t 79)), og 81 75 true (.mv (t 0)), og 82 75 true (.mv (t 11)), og 83 75 true (.iad 1 (t 81) (t 82)), og 84 75 true (.load false 1 (t 83)), og 85 75 true (.call 317 [(t 80), (t 84)]), og 86 75 true (.not (t 85)), o 87 (.pick (t 75) (t 86) (kb false))])
 (.cond (t 87) (.seq (.reg [mV 88 0, mV 89 1, mV 90 2, mV 91 11, o 92 (.call 318 [(t 88), (t 89), (t 90), (t 91)]), mV 13 92])
 (.seq (.reg [mV 93 13, mV 1 93])
 (.exit 1)))
 .skip))
 (.seq (.reg [mV 95 0, mV 96 1, mV 97 2, mV 98 11, o 99 (.call 319 [(t 95), (t 96), (t 97), (t 98)]), mV 94 99, eX 100 94 0, eX 101 94 1, mV 14 100, mV 15 101])
 (.seq (.reg [mV 102 15, mV 9 102])
 (.seq (.reg [mV 103 14, mV 104 1, o 105 (.bin .sub (t 103) (t 104)), mV 106 2, mV 107 14, o 108 (.bin .sub (t 106) (t 107)), mV 16 105, mV 17 108])
 (.seq (.reg [mV 109 10, o 110 (.bin .quo (t 109) (k 8)), mV 18 110])
 (.seq (.reg [mV 111 16, mV 112 17, o 113 (.bin .lss (t 111) (t 112))])
 (.cond (t 113) (.seq (.reg [mV 114 16, mV 115 18, o 116 (.bin .geq (t 114) (t 115)), mV 8 116])
 (.seq (.reg [mV 117 0, mV 118 1, mV 119 14, mV 120 3, o 121 (.call 301 [(t 117), (t 118), (t 119), (t 120)])])
 (.reg [mV 122 14, o 123 (.bin .add (t 122) (k 1)), mV 1 123])))
 (.seq (.reg [mV 124 17, mV 125 18, o 126 (.bin .geq (t 124) (t 125)), mV 8 126])
 (.seq (.reg [mV 127 0, mV 128 14, o 129 (.bin .add (t 128) (k 1)), mV 130 2, mV 131 3, o 132 (.call 301 [(t 127), (t 129), (t 130), (t 131)])])
 (.reg [mV 133 14, mV 2 133]))))))))))
def Ynk : Sg := ⟨[0, 1, 2, 3, 8, 9, 10, 11], [.ref 0, .i .i64, .i .i64, .i .i64, .b, .b, .i .i64, .i .i64], [.sq (cs [.s])], (cs [I, I, I, .b, .b, I, I, .l (cs [.s])])⟩
def Ynl : List Out1 := [⟨.exit 1, ⟨[0, 1, 2, 3, 8, 9], [.ref 0, .i .i64, .i .i64, .i .i64, .b, .b], [.sq (cs [.s])], Zc11⟩⟩, ⟨.nor, ⟨[0, 1, 2, 3, 8, 9], [.ref 0, .i .i64, .i .i64, .i .i64, .b, .b], [.sq (cs [.s])], Zc11⟩⟩]
def Yb7 (lo : Lo) (rec : Int × Int × Int × Zt2 -> Option (Zt2)) : Int × Int × Int × Bool × Bool × Int × Int × Zt2 -> Option (Zp39 ⊕ Zp39) := fun x => match x with
  | (a1, b2, limit3, wasBalanced8, wasPartitioned9, length10, pivot11, data0) => bif (decide ((0 : Int) < a1)) then (chk (0 <= (IntKind.wrap .i64 (a1 - (1 : Int))) /\ (IntKind.wrap .i64 (a1 - (1 : Int))) < (data0.length : Int)) (chk (0 <= pivot11 /\ pivot11 < (data0.length : Int)) (Option.bind (q24 lo (data0.getD ((IntKind.wrap .i64 (a1 - (1 : Int))).toNat) (ByteArray.mk #[])) (data0.getD pivot11.toNat (ByteArray.mk #[]))) fun y110 => bif (!y110) then (Option.bind (q31 lo a1 b2 pivot11 data0) fun y111 => chk (y111.2.length = data0.length) (some (.inl (y111.1, b2, limit3, wasBalanced8, wasPartitioned9, y111.2)))) else (Option.bind (q32 lo a1 b2 pivot11 data0) fun y112 => chk (y112.2.2.length = data0.length) (chk ((8 : Int) ≠ 0) (bif (decide ((IntKind.wrap .i64 (y112.1 - a1)) < (IntKind.wrap .i64 (b2 - y112.1)))) then (Option.bind (rec (a1, y112.1, limit3, y112.2.2)) fun y113 => chk (y113.length = y112.2.2.length) (some (.inr ((IntKind.wrap .i64 (y112.1 + (1 : Int))), b2, limit3, (decide ((IntKind.wrap .i64 (length10.tdiv (8 : Int))) <= (IntKind.wrap .i64 (y112.1 - a1)))), y112.2.1, y113)))) else (Option.bind (rec ((IntKind.wrap .i64 (y112.1 + (1 : Int))), b2, limit3, y112.2.2)) fun y114 => chk (y114.length = y112.2.2.length) (some (.inr (a1, y112.1, limit3, (decide ((IntKind.wrap .i64 (length10.tdiv (8 : Int))) <= (IntKind.wrap .i64 (b2 - y112.1)))), y112.2.1, y114)))))))))) else (Option.bind (q32 lo a1 b2 pivot11 data0) fun y115 => chk (y115.2.2.length = data0.length) (chk ((8 : Int) ≠ 0) (bif (decide ((IntKind.wrap .i64 (y115.1 - a1)) < (IntKind.wrap .i64 (b2 - y115.1)))) then (Option.bind (rec (a1, y115.1, limit3, y115.2.2)) fun y116 => chk (y116.length = y115.2.2.length) (some (.inr ((IntKind.wrap .i64 (y115.1 + (1 : Int))), b2, limit3, (decide ((IntKind.wrap .i64 (length10.tdiv (8 : Int))) <= (IntKind.wrap .i64 (y115.1 - a1)))), y115.2.1, y116)))) else (Option.bind (rec ((IntKind.wrap .i64 (y115.1 + (1 : Int))), b2, limit3, y115.2.2)) fun y117 => chk (y117.length = y115.2.2.length) (some (.inr (a1, y115.1, limit3, (decide ((IntKind.wrap .i64 (length10.tdiv (8 : Int))) <= (IntKind.wrap .i64 (b2 - y115.1)))), y115.2.1, y117)))))))
theorem YuS (lo : Lo) (rec : Int × Int × Int × Zt2 -> Option (Zt2)) : ∀ x : Int × Int × Int × Bool × Bool × Int × Int × Zt2, stepJ (⟨pf, YaE rec :: fs33 lo, [], 1⟩ : Tabs) Ynk Ynl q33_J20_b x = Yb7 lo rec x := fun x => by kernel_rfl
def YaI (lo : Lo) (rec : Int × Int × Int × Zt2 -> Option (Zt2)) : LpE := ⟨20, [], Ynk, Ynl, Yb7 lo rec⟩
theorem YuT {lo : Lo} (hlo : LoOK lo) (rec : Int × Int × Int × Zt2 -> Option (Zt2)) (C : Ctx) (hT : TOK (⟨pf, YaE rec :: fs33 lo, [], 1⟩ : Tabs) C) {Fr : Nat -> Prop} {H0 : Heap} (hf : FrOK Fr H0) : LpSound Fr H0 1 C q33_J20_b.er (YaI lo rec) :=
  YcO hT hf (show LsOK Fr H0 C (⟨pf, YaE rec :: fs33 lo, [], 1⟩ : Tabs) q33_J20_b from ⟨⟨tv, ⟨⟨tv, ⟨tv, tv⟩⟩, tv⟩⟩, ⟨tv, ⟨tv, ⟨tv, ⟨tv, ⟨tv, ⟨⟨tv, ⟨tv, tv⟩⟩, ⟨tv, ⟨tv, tv⟩⟩⟩⟩⟩⟩⟩⟩⟩) (fun x y h => (YuS lo rec x).trans h)
def q33_J25_b : VCode :=
 (.seq (.seq (.reg [mV 61 8, mV 62 61, og 63 62 true (.mv (t 9)), o 64 (.pick (t 62) (t 63) (kb false)), mV 65 64, og 66 65 true (.mv (t 12)), og 67 65 true (.bin .eql (t 66) (k 1)), o 68 (.pick (t 65) (t 67) (kb false))])
 (.cond (t 68) (.seq (.reg [mV 69 0, mV 70 1, mV 71 2, o 72 (.call 316 [(t 69), (t 70), (t 71)])])
 (.cond (t 72) .ret
 .skip))
 .skip))
 (.jn 20 q33_J20_b))
def Ynm : Sg := ⟨[0, 1, 2, 3, 8, 9, 10, 11, 12], [.ref 0, .i .i64, .i .i64, .i .i64, .b, .b, .i .i64, .i .i64, .i .i64], [.sq (cs [.s])], (cs [I, I, I, .b, .b, I, I, I, .l (cs [.s])])⟩
def Ynn : List Out1 := [⟨.ret, ⟨[], [], [.sq (cs [.s])], Zc9⟩⟩, ⟨.exit 1, ⟨[0, 1, 2, 3, 8, 9], [.ref 0, .i .i64, .i .i64, .i .i64, .b, .b], [.sq (cs [.s])], Zc11⟩⟩, ⟨.nor, ⟨[0, 1, 2, 3, 8, 9], [.ref 0, .i .i64, .i .i64, .i .i64, .b, .b], [.sq (cs [.s])], Zc11⟩⟩]
def Yec (lo : Lo) (rec : Int × Int × Int × Zt2 -> Option (Zt2)) : Int × Int × Int × Bool × Bool × Int × Int × Int × Zt2 -> Option ((Zt2) ⊕ Zp39 ⊕ Zp39) := fun x => match x with
  | (a1, b2, limit3, wasBalanced8, wasPartitioned9, length10, pivot11, hint12, data0) => bif wasBalanced8 then (bif wasPartitioned9 then (bif (decide (hint12 = (1 : Int))) then (Option.bind (q30 lo a1 b2 data0) fun y109 => chk (y109.2.length = data0.length) (bif y109.1 then (some (.inl y109.2)) else (Option.bind (Yb7 lo rec (a1, b2, limit3, wasBalanced8, wasPartitioned9, length10, pivot11, y109.2)) fun y118 => alt2 y118 (fun y119 => some (.inr (.inl (y119.1, y119.2.1, y119.2.2.1, y119.2.2.2.1, y119.2.2.2.2.1, y119.2.2.2.2.2)))) (fun y120 => some (.inr (.inr (y120.1, y120.2.1, y120.2.2.1, y120.2.2.2.1, y120.2.2.2.2.1, y120.2.2.2.2.2))))))) else (Option.bind (Yb7 lo rec (a1, b2, limit3, wasBalanced8, wasPartitioned9, length10, pivot11, data0)) fun y121 => alt2 y121 (fun y122 => some (.inr (.inl (y122.1, y122.2.1, y122.2.2.1, y122.2.2.2.1, y122.2.2.2.2.1, y122.2.2.2.2.2)))) (fun y123 => some (.inr (.inr (y123.1, y123.2.1, y123.2.2.1, y123.2.2.2.1, y123.2.2.2.2.1, y123.2.2.2.2.2)))))) else (Option.bind (Yb7 lo rec (a1, b2, limit3, wasBalanced8, wasPartitioned9, length10, pivot11, data0)) fun y124 => alt2 y124 (fun y125 => some (.inr (.inl (y125.1, y125.2.1, y125.2.2.1, y125.2.2.2.1, y125.2.2.2.2.1, y125.2.2.2.2.2)))) (fun y126 => some (.inr (.inr (y126.1, y126.2.1, y126.2.2.1, y126.2.2.2.1, y126.2.2.2.2.1, y126.2.2.2.2.2)))))) else (Option.bind (Yb7 lo rec (a1, b2, limit3, wasBalanced8, wasPartitioned9, length10, pivot11, data0)) fun y127 => alt2 y127 (fun y128 => some (.inr (.inl (y128.1, y128.2.1, y128.2.2.1, y128.2.2.2.1, y128.2.2.2.2.1, y128.2.2.2.2.2)))) (fun y129 => some (.inr (.inr (y129.1, y129.2.1, y129.2.2.1, y129.2.2.2.1, y129.2.2.2.2.1, y129.2.2.2.2.2)))))
theorem YuU (lo : Lo) (rec : Int × Int × Int × Zt2 -> Option (Zt2)) : ∀ x : Int × Int × Int × Bool × Bool × Int × Int × Int × Zt2, stepJ (⟨pf, YaE rec :: fs33 lo, [YaI lo rec], 1⟩ : Tabs) Ynm Ynn q33_J25_b x = Yec lo rec x := fun x => by kernel_rfl
def YaX (lo : Lo) (rec : Int × Int × Int × Zt2 -> Option (Zt2)) : LpE := ⟨25, [], Ynm, Ynn, Yec lo rec⟩
theorem YuV {lo : Lo} (hlo : LoOK lo) (rec : Int × Int × Int × Zt2 -> Option (Zt2)) (C : Ctx) (hT : TOK (⟨pf, YaE rec :: fs33 lo, [YaI lo rec], 1⟩ : Tabs) C) {Fr : Nat -> Prop} {H0 : Heap} (hf : FrOK Fr H0) : LpSound Fr H0 1 C q33_J25_b.er (YaX lo rec) :=
  YcO hT hf (show LsOK Fr H0 C (⟨pf, YaE rec :: fs33 lo, [YaI lo rec], 1⟩ : Tabs) q33_J25_b from ⟨⟨tv, ⟨⟨tv, ⟨tv, tv⟩⟩, tv⟩⟩, (lsGet (by kernel_rfl) (YuT hlo rec C (Yai hT) hf))⟩) (fun x y h => (YuU lo rec x).trans h)
def q33_J30_b : VCode :=
 (.seq (.reg [mV 43 0, mV 44 1, mV 45 2, o 46 (.call 314 [(t 43), (t 44), (t 45)]), mV 42 46, eX 47 42 0, eX 48 42 1, mV 11 47, mV 12 48])
 (.seq (.seq (.reg [mV 49 12, o 50 (.bin .eql (t 49) (k 2))])
 (.cond (t 50) (.seq (.reg [mV 51 0, mV 52 1, mV 53 2, o 54 (.call 315 [(t 51), (t 52), (t 53)])])
 (.seq (.reg [mV 55 2, o 56 (.bin .sub (t 55) (k 1)), mV 57 11, mV 58 1, o 59 (.bin .sub (t 57) (t 58)), o 60 (.bin .sub (t 56) (t 59)), mV 11 60])
 (.reg [o 12 (.mv (k 1))])))
 .skip))
 (.jn 25 q33_J25_b)))
def Yno : Sg := ⟨[0, 1, 2, 3, 8, 9, 10], [.ref 0, .i .i64, .i .i64, .i .i64, .b, .b, .i .i64], [.sq (cs [.s])], (cs [I, I, I, .b, .b, I, .l (cs [.s])])⟩
def Ynp : List Out1 := [⟨.ret, ⟨[], [], [.sq (cs [.s])], Zc9⟩⟩, ⟨.exit 1, ⟨[0, 1, 2, 3, 8, 9], [.ref 0, .i .i64, .i .i64, .i .i64, .b, .b], [.sq (cs [.s])], Zc11⟩⟩, ⟨.nor, ⟨[0, 1, 2, 3, 8, 9], [.ref 0, .i .i64, .i .i64, .i .i64, .b, .b], [.sq (cs [.s])], Zc11⟩⟩]
def Yed (lo : Lo) (rec : Int × Int × Int × Zt2 -> Option (Zt2)) : Int × Int × Int × Bool × Bool × Int × Zt2 -> Option ((Zt2) ⊕ Zp39 ⊕ Zp39) := fun x => match x with
  | (a1, b2, limit3, wasBalanced8, wasPartitioned9, length10, data0) => Option.bind (q28 lo data0 a1 b2) fun y107 => bif (decide (y107.2 = (2 : Int))) then (Option.bind (q29 lo a1 b2 data0) fun y108 => chk (y108.length = data0.length) (Option.bind (Yec lo rec (a1, b2, limit3, wasBalanced8, wasPartitioned9, length10, (IntKind.wrap .i64 ((IntKind.wrap .i64 (b2 - (1 : Int))) - (IntKind.wrap .i64 (y107.1 - a1)))), (1 : Int), y108)) fun y130 => alt2 y130 (fun y131 => some (.inl y131)) (fun y132 => alt2 y132 (fun y133 => some (.inr (.inl (y133.1, y133.2.1, y133.2.2.1, y133.2.2.2.1, y133.2.2.2.2.1, y133.2.2.2.2.2)))) (fun y134 => some (.inr (.inr (y134.1, y134.2.1, y134.2.2.1, y134.2.2.2.1, y134.2.2.2.2.1, y134.2.2.2.2.2))))))) else (Option.bind (Yec lo rec (a1, b2, limit3, wasBalanced8, wasPartitioned9, length10, y107.1, y107.2, data0)) fun y135 => alt2 y135 (fun y136 => some (.inl y136)) (fun y137 => alt2 y137 (fun y138 => some (.inr (.inl (y138.1, y138.2.1, y138.2.2.1, y138.2.2.2.1, y138.2.2.2.2.1, y138.2.2.2.2.2)))) (fun y139 => some (.inr (.inr (y139.1, y139.2.1, y139.2.2.1, y139.2.2.2.1, y139.2.2.2.2.1, y139.2.2.2.2.2))))))
theorem YuW (lo : Lo) (rec : Int × Int × Int × Zt2 -> Option (Zt2)) : ∀ x : Int × Int × Int × Bool × Bool × Int × Zt2, stepJ (⟨pf, YaE rec :: fs33 lo, [YaX lo rec, YaI lo rec], 1⟩ : Tabs) Yno Ynp q33_J30_b x = Yed lo rec x := fun x => by kernel_rfl
def Ybt (lo : Lo) (rec : Int × Int × Int × Zt2 -> Option (Zt2)) : LpE := ⟨30, [], Yno, Ynp, Yed lo rec⟩
theorem YuX {lo : Lo} (hlo : LoOK lo) (rec : Int × Int × Int × Zt2 -> Option (Zt2)) (C : Ctx) (hT : TOK (⟨pf, YaE rec :: fs33 lo, [YaX lo rec, YaI lo rec], 1⟩ : Tabs) C) {Fr : Nat -> Prop} {H0 : Heap} (hf : FrOK Fr H0) : LpSound Fr H0 1 C q33_J30_b.er (Ybt lo rec) :=
  YcO hT hf (show LsOK Fr H0 C (⟨pf, YaE rec :: fs33 lo, [YaX lo rec, YaI lo rec], 1⟩ : Tabs) q33_J30_b from ⟨tv, ⟨⟨tv, ⟨⟨tv, ⟨tv, tv⟩⟩, tv⟩⟩, (lsGet (by kernel_rfl) (YuV hlo rec C (Yai hT) hf))⟩⟩) (fun x y h => (YuW lo rec x).trans h)
def q33_L1_b : VCode :=
 (.blk 1 (.seq (.reg [mV 19 2, mV 20 1, o 21 (.bin .sub (t 19) (t 20)), mV 10 21])
 (.seq (.seq (.reg [mV 22 10, o 23 (.bin .leq (t 22) (k 12))])
 (.cond (t 23) (.seq (.reg [mV 24 0, mV 25 1, mV 26 2, o 27 (.call 311 [(t 24), (t 25), (t 26)])])
 .ret)
 .skip))
 (.seq (.seq (.reg [mV 28 3, o 29 (.bin .eql (t 28) (k 0))])
 (.cond (t 29) (.seq (.reg [mV 30 0, mV 31 1, mV 32 2, o 33 (.call 312 [(t 30), (t 31), (t 32)])])
 .ret)
 .skip))
 (.seq (.seq (.reg [mV 34 8, o 35 (.not (t 34))])
 (.cond (t 35) (.seq (.reg [mV 36 0, mV 37 1, mV 38 2, o 39 (.call 313 [(t 36), (t 37), (t 38)])])
 (.reg [mV 40 3, o 41 (.bin .sub (t 40) (k 1)), mV 3 41]))
 .skip))
 (.jn 30 q33_J30_b))))))
def Ynq : Sg := ⟨[0, 1, 2, 3, 8, 9], [.ref 0, .i .i64, .i .i64, .i .i64, .b, .b], [.sq (cs [.s])], Zc11⟩
def Ynr : List Out1 := [⟨.ret, ⟨[], [], [.sq (cs [.s])], Zc9⟩⟩]
def Yns (lo : Lo) (rec : Int × Int × Int × Zt2 -> Option (Zt2)) : Zp39 -> Option (Zp39 ⊕ ((Zt2))) := fun x => match x with
  | (a1, b2, limit3, wasBalanced8, wasPartitioned9, data0) => bif (decide ((IntKind.wrap .i64 (b2 - a1)) <= (12 : Int))) then (Option.bind (q25 lo a1 b2 data0) fun y104 => chk (y104.length = data0.length) (some (.inr y104))) else (bif (decide (limit3 = (0 : Int))) then (Option.bind (q26 lo a1 b2 data0) fun y105 => chk (y105.length = data0.length) (some (.inr y105))) else (bif (!wasBalanced8) then (Option.bind (q27 lo a1 b2 data0) fun y106 => chk (y106.length = data0.length) (Option.bind (Yed lo rec (a1, b2, (IntKind.wrap .i64 (limit3 - (1 : Int))), wasBalanced8, wasPartitioned9, (IntKind.wrap .i64 (b2 - a1)), y106)) fun y140 => alt2 y140 (fun y141 => some (.inr y141)) (fun y142 => alt2 y142 (fun y143 => some (.inl (y143.1, y143.2.1, y143.2.2.1, y143.2.2.2.1, y143.2.2.2.2.1, y143.2.2.2.2.2))) (fun y144 => some (.inl (y144.1, y144.2.1, y144.2.2.1, y144.2.2.2.1, y144.2.2.2.2.1, y144.2.2.2.2.2)))))) else (Option.bind (Yed lo rec (a1, b2, limit3, wasBalanced8, wasPartitioned9, (IntKind.wrap .i64 (b2 - a1)), data0)) fun y145 => alt2 y145 (fun y146 => some (.inr y146)) (fun y147 => alt2 y147 (fun y148 => some (.inl (y148.1, y148.2.1, y148.2.2.1, y148.2.2.2.1, y148.2.2.2.2.1, y148.2.2.2.2.2))) (fun y149 => some (.inl (y149.1, y149.2.1, y149.2.2.1, y149.2.2.2.1, y149.2.2.2.2.1, y149.2.2.2.2.2)))))))
theorem YuY (lo : Lo) (rec : Int × Int × Int × Zt2 -> Option (Zt2)) : ∀ x : Zp39, stepL (⟨pf, YaE rec :: fs33 lo, [Ybt lo rec, YaX lo rec, YaI lo rec], 1⟩ : Tabs) [] Ynq Ynr q33_L1_b x = Yns lo rec x := fun x => by kernel_rfl
def Ynt (lo : Lo) (rec : Int × Int × Int × Zt2 -> Option (Zt2)) : Zp39 -> Option ((Zt2)) := lo.run (Yns lo rec)
def YcV (lo : Lo) (rec : Int × Int × Int × Zt2 -> Option (Zt2)) : LpE := ⟨1, [], Ynq, Ynr, Ynt lo rec⟩
theorem YuZ {lo : Lo} (hlo : LoOK lo) (rec : Int × Int × Int × Zt2 -> Option (Zt2)) (C : Ctx) (hT : TOK (⟨pf, YaE rec :: fs33 lo, [Ybt lo rec, YaX lo rec, YaI lo rec], 1⟩ : Tabs) C) {Fr : Nat -> Prop} {H0 : Heap} (hf : FrOK Fr H0) : LpSound Fr H0 1 C (.loop q33_L1_b.er) (YcV lo rec) :=
  Yak hT hf (show LsOK Fr H0 C (⟨pf, YaE rec :: fs33 lo, [Ybt lo rec, YaX lo rec, YaI lo rec], 1⟩ : Tabs) q33_L1_b from ⟨tv, ⟨⟨tv, ⟨⟨tv, tv⟩, tv⟩⟩, ⟨⟨tv, ⟨⟨tv, tv⟩, tv⟩⟩, ⟨⟨tv, ⟨⟨tv, tv⟩, tv⟩⟩, (lsGet (by kernel_rfl) (YuX hlo rec C (Yai hT) hf))⟩⟩⟩⟩) (fun x y h => Yal (YuY lo rec) (hlo _ _ _ h))
def Ynu (lo : Lo) (rec : Int × Int × Int × Zt2 -> Option (Zt2)) (a1 : Int) (b2 : Int) (limit3 : Int) (data0 : List ByteArray) : Option (Zt2) :=
  Option.bind (Ynt lo rec (a1, b2, limit3, true, true, data0)) fun y150 => some y150
def Yb8 (lo : Lo) : Nat -> Int × Int × Int × Zt2 -> Option (Zt2)
  | 0, _ => none
  | n + 1, x => Ynu lo (Yb8 lo n) x.1 x.2.1 x.2.2.1 x.2.2.2
def q33 (lo : Lo) (a1 : Int) (b2 : Int) (limit3 : Int) (data0 : List ByteArray) : Option (Zt2) := lo.run (fixS (Yb8 lo)) (0, (a1, b2, limit3, data0))
def Ynv : VCode :=
 (.seq (.reg [o 8 (.mv (kb true))])
 (.seq (.reg [o 9 (.mv (kb true))])
 (.blk 0 (.loop 1 q33_L1_b))))
def Yha : VFn := ⟨true, 134, [], Ynv⟩
def Yhb (lo : Lo) : FnE := ⟨301, false, ⟨[0, 1, 2, 3], [.ref 0, .i .i64, .i .i64, .i .i64], [.sq (cs [.s])], Zc17⟩, .tp [], [.sq (cs [.s])], Zc9, (fun x => q33 lo x.1 x.2.1 x.2.2.1 x.2.2.2 : Int × Int × Int × Zt2 -> Option (Zt2))⟩
theorem Yu0 (lo : Lo) (rec : Int × Int × Int × Zt2 -> Option (Zt2)) : ∀ x : Int × Int × Int × Zt2, evI (⟨pf, YaE rec :: fs33 lo, [YcV lo rec, Ybt lo rec, YaX lo rec, YaI lo rec], 1⟩ : Tabs) Yha ⟨[0, 1, 2, 3], [.ref 0, .i .i64, .i .i64, .i .i64], [.sq (cs [.s])], Zc17⟩ (.tp []) [.sq (cs [.s])] Zc9 x = Ynu lo rec x.1 x.2.1 x.2.2.1 x.2.2.2 := fun x => by kernel_rfl
theorem Yu1 {P : Program} {fm : FM} {lo : Lo} (hlo : LoOK lo) (hS : Sound P fm ⟨pf, fs33 lo, [], 0⟩) (hm : P.follows .mixedOrders = true) (htie : Ti P fm 301 Yha) : Sound P fm ⟨pf, Yhb lo :: fs33 lo, [], 0⟩ :=
  Ysw hS hm (Yhb lo) rfl (Yb8 lo) (fun n => (fun (rec : Int × Int × Int × Zt2 -> Option (Zt2)) => ([YcV lo rec, Ybt lo rec, YaX lo rec, YaI lo rec] : List LpE)) (Yb8 lo n)) Yha htie (by decide) rfl (Nat.le_of_ble_eq_true (by kernel_rfl)) (fun _ => rfl) (fun x y h => Ysy (hlo _ _ _ h))
    (fun n C hT Fr H0 hf => (fun (rec : Int × Int × Int × Zt2 -> Option (Zt2)) (hT : TOK (⟨pf, YaE rec :: fs33 lo, [YcV lo rec, Ybt lo rec, YaX lo rec, YaI lo rec], 1⟩ : Tabs) C) => show LsOK Fr H0 C (⟨pf, YaE rec :: fs33 lo, [YcV lo rec, Ybt lo rec, YaX lo rec, YaI lo rec], 1⟩ : Tabs) Ynv from ⟨tv, ⟨tv, (lsGet (by kernel_rfl) (YuZ hlo rec C (Yai hT) hf))⟩⟩) (Yb8 lo n) hT) (fun n x y h => (Yu0 lo (Yb8 lo n) x).trans h)
def fs34 (lo : Lo) : List FnE := Yhb lo :: fs33 lo
def q34 (lo : Lo) (x0 : List ByteArray) : Option (Zt2) :=
  Option.bind (q22 lo (IntKind.wrap .u64 (x0.length : Int))) fun y98 => Option.bind (q33 lo (0 : Int) (x0.length : Int) y98 x0) fun y151 => chk (y151.length = x0.length) (some y151)
def Ynw : VCode :=
 (.seq (.reg [mV 3 0, lN 4 3, mV 2 4])
 (.reg [mV 5 0, mV 6 2, mV 7 2, o 8 (.conv .u64 (t 7)), o 9 (.call 163 [(t 8)]), o 10 (.call 301 [(t 5), (k 0), (t 6), (t 9)])]))
def Yhc : VFn := ⟨true, 11, [], Ynw⟩
def Yhd (lo : Lo) : FnE := ⟨271, false, ⟨[0], [.ref 0], [.sq (cs [.s])], Zc9⟩, .tp [], [.sq (cs [.s])], Zc9, (fun x => q34 lo x : Zt2 -> Option (Zt2))⟩
theorem Yu2 (lo : Lo) : ∀ x : Zt2, evI (⟨pf, fs34 lo, [], 1⟩ : Tabs) Yhc ⟨[0], [.ref 0], [.sq (cs [.s])], Zc9⟩ (.tp []) [.sq (cs [.s])] Zc9 x = q34 lo x := fun x => by kernel_rfl
theorem Yu3 {P : Program} {fm : FM} {lo : Lo} (hlo : LoOK lo) (hS : Sound P fm ⟨pf, fs34 lo, [], 0⟩) (hm : P.follows .mixedOrders = true) (htie : Ti P fm 271 Yhc) : Sound P fm ⟨pf, Yhd lo :: fs34 lo, [], 0⟩ :=
  Ybg hS hm [] (Yhd lo) rfl Yhc htie (by decide) rfl (Nat.le_of_ble_eq_true (by kernel_rfl)) (fun C hT Fr H0 hf => show LsOK Fr H0 C (⟨pf, fs34 lo, [], 1⟩ : Tabs) Ynw from ⟨tv, tv⟩) (fun x y h => (Yu2 lo x).trans h)
def fs35 (lo : Lo) : List FnE := Yhd lo :: fs34 lo
def q35 (lo : Lo) (l : List ByteArray) : Option Zt2 := vsortS (q34 lo) l
def Ynx (lo : Lo) : FnE := vsortE 271 (.cons (.s) .nil) (q35 lo)
theorem Yu4 {P : Program} {fm : FM} {lo : Lo} (hlo : LoOK lo) (hS : Sound P fm ⟨pf, fs35 lo, [], 0⟩) (hm : P.follows .mixedOrders = true) (hG : ∀ f, fm f = 271 -> callable P f = true /\ ∃ ρ : Go.Shelf.Ren, Go.Proofs.Lays.n190 P ρ /\ ρ.f 190 = f) : Sound P fm ⟨pf, Ynx lo :: fs35 lo, [], 0⟩ :=
  Ytb hS rfl (F0 := q34 lo) (Yx4 ..) hG
def fs36 (lo : Lo) : List FnE := Ynx lo :: fs35 lo
end Go.Abs.G03
namespace Go.Abs.G03
open Go Go.Abs
set_option maxRecDepth 100000
set_option maxHeartbeats 1000000
def q36_L42_b : VCode :=
 (.seq (.reg [o 46 (.bin .lss (t 45) (t 44))])
 (.seq (.cond (t 46) .skip
 (.exit 0))
 (.seq (.blk 1 (.seq (.reg [o 47 (.iad 1 (t 43) (t 45)), lD 48 47, mV 11 48])
 (.seq (.reg [fD 49 1 8, lD 50 49, mV 51 11, o 52 (.call 173 [(t 50), (t 51)]), mV 12 52])
 (.seq (.seq (.reg [mV 53 12, o 54 (.bin .lss (t 53) (k 0))])
 (.cond (t 54) (.seq (.reg [fD 55 1 8, lD 56 55, lN 57 56, mV 12 57])
 (.reg [fD 58 1 8, lD 59 58, mV 60 11, o 61 (.bsl (cs [.s]) 1 [(0, (t 60))]), o 62 (.app (cs [.s]) 0 (t 59) (t 61)), fD 63 1 8, on (.store 1 (t 63) (t 62))]))
 .skip))
 (.reg [mV 64 9, mV 65 12, o 66 (.bsl (cs [I]) 1 [(0, (t 65))]), o 67 (.app (cs [I]) 0 (t 64) (t 66)), mV 9 67])))))
 (.reg [o 68 (.bin .add (t 45) (k 1)), mV 45 68]))))
def Yny : Sg := ⟨[2, 3, 4, 8, 9, 43, 44, 45], [.ptr 0 0 0, .ptr 1 0 0, .ptr 2 0 0, .ptr 3 0 0, .ref 4, .l (cs [.s]), .i .i64, .i .i64], [.st [.s, .l (cs [.s]), .l Zc1], .st [.s, .l (cs [.s]), .l Zc1], .st [.s, .l (cs [.s]), .l Zc1], .st [.s, .ref 5, .ref 6], .sq (cs [I]), .sq (cs [.s]), .sq Zc1], Zc19⟩
def Ynz : List Out1 := [⟨.exit 0, ⟨[2, 3, 4, 8, 9], [.ptr 0 0 0, .ptr 1 0 0, .ptr 2 0 0, .ptr 3 0 0, .ref 4], [.st [.s, .l (cs [.s]), .l Zc1], .st [.s, .l (cs [.s]), .l Zc1], .st [.s, .l (cs [.s]), .l Zc1], .st [.s, .ref 5, .ref 6], .sq (cs [I]), .sq (cs [.s]), .sq Zc1], (cs [.s, .l (cs [.s]), .l Zc1, .s, .l (cs [.s]), .l Zc1, .s, .l (cs [.s]), .l Zc1, .s, .l (cs [I]), .l (cs [.s]), .l Zc1])⟩⟩]
def YnA (lo : Lo) : Zp24 -> Option (Zp24 ⊕ ((ByteArray × Zt2 × Zt3 × ByteArray × Zt2 × Zt3 × ByteArray × Zt2 × Zt3 × ByteArray × (List Int) × Zt2 × Zt3))) := fun x => match x with
  | (v43, v44, v45, a2_0, a2_1, a2_2, b3_0, b3_1, b3_2, v4_0, v4_1, v4_2, out8, place9, h5, h6) => bif (decide (v45 < v44)) then (chk (0 <= v45 /\ v45 < (v43.length : Int)) (Option.bind (q4 lo h5 (v43.getD v45.toNat (ByteArray.mk #[]))) fun y80 => bif (decide (y80 < (0 : Int))) then (chk (h5.length + ([(v43.getD v45.toNat (ByteArray.mk #[]))]).length <= maxEl) (chk (place9.length + ([(h5.length : Int)]).length <= maxEl) (some (.inl (v43, v44, (IntKind.wrap .i64 (v45 + (1 : Int))), a2_0, a2_1, a2_2, b3_0, b3_1, b3_2, v4_0, v4_1, v4_2, out8, (place9 ++ ([(h5.length : Int)])), (h5 ++ ([(v43.getD v45.toNat (ByteArray.mk #[]))])), h6))))) else (chk (place9.length + [y80].length <= maxEl) (some (.inl (v43, v44, (IntKind.wrap .i64 (v45 + (1 : Int))), a2_0, a2_1, a2_2, b3_0, b3_1, b3_2, v4_0, v4_1, v4_2, out8, (place9 ++ [y80]), h5, h6)))))) else (some (.inr (a2_0, a2_1, a2_2, b3_0, b3_1, b3_2, v4_0, v4_1, v4_2, out8, place9, h5, h6)))
theorem Yu5 (lo : Lo) : ∀ x : Zp24, stepL (⟨pf, fs36 lo, [], 0⟩ : Tabs) [(8, some 2, false), (9, none, false)] Yny Ynz q36_L42_b x = YnA lo x := fun x => by kernel_rfl
def Yhe (lo : Lo) : Zp24 -> Option ((ByteArray × Zt2 × Zt3 × ByteArray × Zt2 × Zt3 × ByteArray × Zt2 × Zt3 × ByteArray × (List Int) × Zt2 × Zt3)) := lo.run (YnA lo)
def YaF (lo : Lo) : LpE := ⟨42, [(8, some 2, false), (9, none, false)], Yny, Ynz, Yhe lo⟩
theorem Yu6 {lo : Lo} (hlo : LoOK lo) (C : Ctx) (hT : TOK (⟨pf, fs36 lo, [], 0⟩ : Tabs) C) : LpSound (fun _ => False) [] 0 C (.loop q36_L42_b.er) (YaF lo) :=
  Yak hT frNo (show LK C _ q36_L42_b from ⟨tv, ⟨⟨tv, tv⟩, ⟨⟨tv, ⟨tv, ⟨⟨tv, ⟨⟨tv, tv⟩, tv⟩⟩, tv⟩⟩⟩, tv⟩⟩⟩) (fun x y h => Yal (Yu5 lo) (hlo _ _ _ h))
def q36_L21_b : VCode :=
 (.seq (.reg [o 86 (.bin .lss (t 85) (t 84))])
 (.seq (.cond (t 86) .skip
 (.exit 4))
 (.seq (.blk 5 (.seq (.reg [o 87 (.iad 2 (t 83) (t 85)), o 88 (.load true 2 (t 87)), o 17 (.alloc [.i .i64 0, .e Zc4]), on (.store 2 (t 17) (t 88))])
 (.seq (.fz [9] (.reg [fD 90 1 15, lD 91 90, fD 92 1 17, lD 93 92, mV 94 9, fD 95 1 8, lD 96 95, lN 97 96, o 98 (.call 270 [(t 91), (t 93), (t 94), (t 97)]), mV 89 98, eX 99 89 0, eX 100 89 1, mV 18 99, mV 19 100]))
 (.seq (.seq (.reg [mV 101 19, o 102 (.not (t 101))])
 (.cond (t 102) (.exit 5)
 .skip))
 (.seq (.reg [mV 103 13, mV 104 18, o 105 (.call 261 [(t 104)]), mV 106 18, on (.mput none (.l Zc4) (cs []) false (t 103) (t 105) (t 106))])
 (.seq (.reg [mV 107 13, o 108 (.mlen (t 107)), o 109 (.bin .gtr (t 108) (k 1000))])
 (.cond (t 109) (.seq (.reg [o 110 (.build [.s (⟨#[]⟩), .e (cs [.s]), .e Zc1] []), on (.store 3 (t 4) (t 110)), o 5 (.mv (k 3))])
 (.fz [4, 5] .ret))
 .skip)))))))
 (.reg [o 111 (.bin .add (t 85) (k 1)), mV 85 111]))))
def YnB : Sg := ⟨[3, 4, 8, 9, 13, 15, 76, 77, 78, 83, 84, 85], [.ptr 0 0 0, .ptr 1 0 0, .ptr 2 0 0, .l (cs [I]), .np 3, .ptr 4 0 0, .l Zc1, .i .i64, .i .i64, .l Zc1, .i .i64, .i .i64], [.st [.s, .l (cs [.s]), .l Zc1], .st [.s, .l (cs [.s]), .l Zc1], .st [.s, .ref 5, .ref 6], .st [.i .i64, .l Zc13, .b], .st [.i .i64, .l Zc4], .sq (cs [.s]), .sq Zc1], Zc18⟩
def YnC : List Out1 := [⟨.ret, ⟨[4, 5], [.ptr 0 0 0, .i .i64], [.st [.s, .l (cs [.s]), .l Zc1]], (cs [I, .s, .l (cs [.s]), .l Zc1])⟩⟩, ⟨.exit 4, ⟨[3, 4, 8, 9, 13, 76, 77, 78], [.ptr 0 0 0, .ptr 1 0 0, .ptr 2 0 0, .l (cs [I]), .np 3, .l Zc1, .i .i64, .i .i64], [.st [.s, .l (cs [.s]), .l Zc1], .st [.s, .l (cs [.s]), .l Zc1], .st [.s, .ref 4, .ref 5], .st [.i .i64, .l Zc13, .b], .sq (cs [.s]), .sq Zc1], Zc7⟩⟩]
def YnD (lo : Lo) : Zp23 -> Option (Zp23 ⊕ ((Int × ByteArray × Zt2 × Zt3) ⊕ Zp25)) := fun x => match x with
  | (place9, v76, v77, v78, v83, v84, v85, b3_0, b3_1, b3_2, v4_0, v4_1, v4_2, out8, h3_0, h3_1, h3_2, r15_0, r15_1, h5, h6) => bif (decide (v85 < v84)) then (chk (0 <= v85 /\ v85 < (v83.length : Int)) (Option.bind (q20 lo r15_1 ((v83.getD v85.toNat ((0 : Int), [])).2) place9 (h5.length : Int)) fun y82 => bif (!y82.2) then (some (.inl (place9, v76, v77, v78, v83, v84, (IntKind.wrap .i64 (v85 + (1 : Int))), b3_0, b3_1, b3_2, v4_0, v4_1, v4_2, out8, h3_0, h3_1, h3_2, r15_0, r15_1, h5, h6))) else (Option.bind (q17 lo y82.1) fun y83 => bif (decide ((1000 : Int) < ((mpt eqS h3_0 y83 y82.1 h3_1).length : Int))) then (some (.inr (.inl ((3 : Int), (ByteArray.mk #[]), ([] : List ByteArray), ([] : List (Int × Zt0)))))) else (some (.inl (place9, v76, v77, v78, v83, v84, (IntKind.wrap .i64 (v85 + (1 : Int))), b3_0, b3_1, b3_2, v4_0, v4_1, v4_2, out8, (mck eqS h3_0 y83 h3_1), (mpt eqS h3_0 y83 y82.1 h3_1), h3_2, r15_0, r15_1, h5, h6)))))) else (some (.inr (.inr (place9, v76, v77, v78, b3_0, b3_1, b3_2, v4_0, v4_1, v4_2, out8, h3_0, h3_1, h3_2, h5, h6))))
theorem Yu7 (lo : Lo) : ∀ x : Zp23, stepL (⟨pf, fs36 lo, [YaF lo], 0⟩ : Tabs) [] YnB YnC q36_L21_b x = YnD lo x := fun x => by kernel_rfl
def YnE (lo : Lo) : Zp23 -> Option ((Int × ByteArray × Zt2 × Zt3) ⊕ Zp25) := lo.run (YnD lo)
def YaL (lo : Lo) : LpE := ⟨21, [], YnB, YnC, YnE lo⟩
theorem Yu8 {lo : Lo} (hlo : LoOK lo) (C : Ctx) (hT : TOK (⟨pf, fs36 lo, [YaF lo], 0⟩ : Tabs) C) : LpSound (fun _ => False) [] 0 C (.loop q36_L21_b.er) (YaL lo) :=
  Yak hT frNo (show LK C _ q36_L21_b from ⟨tv, ⟨⟨tv, tv⟩, ⟨⟨tv, ⟨tv, ⟨⟨tv, ⟨tv, tv⟩⟩, ⟨tv, ⟨tv, ⟨⟨tv, tv⟩, tv⟩⟩⟩⟩⟩⟩, tv⟩⟩⟩) (fun x y h => Yal (Yu7 lo) (hlo _ _ _ h))
def q36_L19_b : VCode :=
 (.seq (.reg [o 79 (.bin .lss (t 78) (t 77))])
 (.seq (.cond (t 79) .skip
 (.exit 2))
 (.seq (.blk 3 (.seq (.reg [o 80 (.iad 2 (t 76) (t 78)), o 81 (.load true 2 (t 80)), o 15 (.alloc [.i .i64 0, .e Zc4]), on (.store 2 (t 15) (t 81))])
 (.seq (.reg [fD 82 2 3, lD 83 82, lN 84 83, o 85 (.mv (k 0))])
 (.blk 4 (.fz [9] (.loop 21 q36_L21_b))))))
 (.reg [o 112 (.bin .add (t 78) (k 1)), mV 78 112]))))
def YnF : Sg := ⟨[3, 4, 8, 9, 13, 76, 77, 78], [.ptr 0 0 0, .ptr 1 0 0, .ptr 2 0 0, .l (cs [I]), .np 3, .l Zc1, .i .i64, .i .i64], [.st [.s, .l (cs [.s]), .l Zc1], .st [.s, .l (cs [.s]), .l Zc1], .st [.s, .ref 4, .ref 5], .st [.i .i64, .l Zc13, .b], .sq (cs [.s]), .sq Zc1], Zc7⟩
def YnG : List Out1 := [⟨.ret, ⟨[4, 5], [.ptr 0 0 0, .i .i64], [.st [.s, .l (cs [.s]), .l Zc1]], (cs [I, .s, .l (cs [.s]), .l Zc1])⟩⟩, ⟨.exit 2, ⟨[4, 8, 13], [.ptr 0 0 0, .ptr 1 0 0, .np 2], [.st [.s, .l (cs [.s]), .l Zc1], .st [.s, .ref 3, .ref 4], .st [.i .i64, .l Zc13, .b], .sq (cs [.s]), .sq Zc1], (cs [.s, .l (cs [.s]), .l Zc1, .s, I, .l Zc13, .b, .l (cs [.s]), .l Zc1])⟩⟩]
def YnH (lo : Lo) : Zp25 -> Option (Zp25 ⊕ ((Int × ByteArray × Zt2 × Zt3) ⊕ (ByteArray × Zt2 × Zt3 × ByteArray × Int × Zt5 × Bool × Zt2 × Zt3))) := fun x => match x with
  | (place9, v76, v77, v78, b3_0, b3_1, b3_2, v4_0, v4_1, v4_2, out8, h3_0, h3_1, h3_2, h4, h5) => bif (decide (v78 < v77)) then (chk (0 <= v78 /\ v78 < (v76.length : Int)) (Option.bind (YnE lo (place9, v76, v77, v78, b3_2, (b3_2.length : Int), (0 : Int), b3_0, b3_1, b3_2, v4_0, v4_1, v4_2, out8, h3_0, h3_1, h3_2, (v76.getD v78.toNat ((0 : Int), [])).1, (v76.getD v78.toNat ((0 : Int), [])).2, h4, h5)) fun y84 => alt2 y84 (fun y85 => some (.inr (.inl (y85.1, y85.2.1, y85.2.2.1, y85.2.2.2)))) (fun y86 => some (.inl (y86.1, y86.2.1, y86.2.2.1, (IntKind.wrap .i64 (y86.2.2.2.1 + (1 : Int))), y86.2.2.2.2.1, y86.2.2.2.2.2.1, y86.2.2.2.2.2.2.1, y86.2.2.2.2.2.2.2.1, y86.2.2.2.2.2.2.2.2.1, y86.2.2.2.2.2.2.2.2.2.1, y86.2.2.2.2.2.2.2.2.2.2.1, y86.2.2.2.2.2.2.2.2.2.2.2.1, y86.2.2.2.2.2.2.2.2.2.2.2.2.1, y86.2.2.2.2.2.2.2.2.2.2.2.2.2.1, y86.2.2.2.2.2.2.2.2.2.2.2.2.2.2.1, y86.2.2.2.2.2.2.2.2.2.2.2.2.2.2.2))))) else (some (.inr (.inr (v4_0, v4_1, v4_2, out8, h3_0, h3_1, h3_2, h4, h5))))
theorem Yu9 (lo : Lo) : ∀ x : Zp25, stepL (⟨pf, fs36 lo, [YaL lo, YaF lo], 0⟩ : Tabs) [] YnF YnG q36_L19_b x = YnH lo x := fun x => by kernel_rfl
def Yhf (lo : Lo) : Zp25 -> Option ((Int × ByteArray × Zt2 × Zt3) ⊕ (ByteArray × Zt2 × Zt3 × ByteArray × Int × Zt5 × Bool × Zt2 × Zt3)) := lo.run (YnH lo)
def YaY (lo : Lo) : LpE := ⟨19, [], YnF, YnG, Yhf lo⟩
theorem Yva {lo : Lo} (hlo : LoOK lo) (C : Ctx) (hT : TOK (⟨pf, fs36 lo, [YaL lo, YaF lo], 0⟩ : Tabs) C) : LpSound (fun _ => False) [] 0 C (.loop q36_L19_b.er) (YaY lo) :=
  Yak hT frNo (show LK C _ q36_L19_b from ⟨tv, ⟨⟨tv, tv⟩, ⟨⟨tv, ⟨tv, (lsGet (by kernel_rfl) (Yu8 hlo C (Yai hT)))⟩⟩, tv⟩⟩⟩) (fun x y h => Yal (Yu9 lo) (hlo _ _ _ h))
def q36_L3_b : VCode :=
 (.seq (.reg [o 128 (.bin .lss (t 127) (t 126))])
 (.seq (.cond (t 128) .skip
 (.exit 8))
 (.seq (.blk 9 (.seq (.reg [mV 129 127, o 130 (.iad 1 (t 125) (t 127)), lD 131 130, mV 22 129, mV 23 131])
 (.reg [fD 132 2 8, lD 133 132, mV 134 22, o 135 (.bin .add (t 134) (k 1)), mV 136 13, mV 137 23, o 138 (.mget none (.l Zc4) (cs []) false false (t 136) (t 137)), o 139 (.build [.i .i64 0, .e Zc4] [(0, 1, (t 135)), (1, 1, (t 138))]), o 140 (.bsl Zc1 1 [(0, (t 139))]), o 141 (.app Zc1 0 (t 133) (t 140)), fD 142 2 8, on (.store 1 (t 142) (t 141))])))
 (.reg [o 143 (.bin .add (t 127) (k 1)), mV 127 143]))))
def YnI : Sg := ⟨[4, 8, 13, 125, 126, 127], [.ptr 0 0 0, .ptr 1 0 0, .np 2, .ref 3, .i .i64, .i .i64], [.st [.s, .l (cs [.s]), .l Zc1], .st [.s, .ref 4, .ref 5], .st [.i .i64, .l Zc13, .b], .sq (cs [.s]), .sq (cs [.s]), .sq Zc1], (cs [I, I, .s, .l (cs [.s]), .l Zc1, .s, I, .l Zc13, .b, .l (cs [.s]), .l (cs [.s]), .l Zc1])⟩
def YnJ : List Out1 := [⟨.exit 8, ⟨[4, 8], [.ptr 0 0 0, .ptr 1 0 0], [.st [.s, .l (cs [.s]), .l Zc1], .st [.s, .ref 2, .ref 3], .sq (cs [.s]), .sq Zc1], Zc6⟩⟩]
def YnK (lo : Lo) : Zp30 -> Option (Zp30 ⊕ (Zp36)) := fun x => match x with
  | (v126, v127, v4_0, v4_1, v4_2, out8, h2_0, h2_1, h2_2, v125, h4, h5) => bif (decide (v127 < v126)) then (chk (0 <= v127 /\ v127 < (v125.length : Int)) (chk (h5.length + ([((IntKind.wrap .i64 (v127 + (1 : Int))), (mgt eqS (v125.getD v127.toNat (ByteArray.mk #[])) h2_1 []))]).length <= maxEl) (some (.inl (v126, (IntKind.wrap .i64 (v127 + (1 : Int))), v4_0, v4_1, v4_2, out8, h2_0, h2_1, h2_2, v125, h4, (h5 ++ ([((IntKind.wrap .i64 (v127 + (1 : Int))), (mgt eqS (v125.getD v127.toNat (ByteArray.mk #[])) h2_1 []))]))))))) else (some (.inr (v4_0, v4_1, v4_2, out8, h4, h5)))
theorem Yvb (lo : Lo) : ∀ x : Zp30, stepL (⟨pf, fs36 lo, [YaY lo, YaL lo, YaF lo], 0⟩ : Tabs) [] YnI YnJ q36_L3_b x = YnK lo x := fun x => by kernel_rfl
def YnL (lo : Lo) : Zp30 -> Option (Zp36) := lo.run (YnK lo)
def Ybh (lo : Lo) : LpE := ⟨3, [], YnI, YnJ, YnL lo⟩
theorem Yvc {lo : Lo} (hlo : LoOK lo) (C : Ctx) (hT : TOK (⟨pf, fs36 lo, [YaY lo, YaL lo, YaF lo], 0⟩ : Tabs) C) : LpSound (fun _ => False) [] 0 C (.loop q36_L3_b.er) (Ybh lo) :=
  Yak hT frNo (show LK C _ q36_L3_b from ⟨tv, ⟨⟨tv, tv⟩, ⟨⟨tv, tv⟩, tv⟩⟩⟩) (fun x y h => Yal (Yvb lo) (hlo _ _ _ h))
def Yee : VCode :=
 (.reg [mV 113 13, o 114 (.mrng (t 113))])
def YcW : VCode :=
 (.blk 7 (.seq (.reg [o 117 (.ment none (.l Zc4) (cs []) false (t 114)), eX 118 117 0, mV 21 118])
 (.reg [mV 119 20, mV 120 21, o 121 (.bsl (cs [.s]) 1 [(0, (t 120))]), o 122 (.app (cs [.s]) 0 (t 119) (t 121)), mV 20 122])))
def Yef : VCode :=
 (.seq (.reg [mV 123 20, o 124 (.call 271 [(t 123)])])
 (.seq (.seq (.reg [mV 125 20, lN 126 125, o 127 (.mv (k 0))])
 (.blk 8 (.loop 3 q36_L3_b)))
 (.seq (.reg [o 144 (.load true 3 (t 8)), on (.store 3 (t 4) (t 144)), o 5 (.mv (k 0))])
 (.fz [4, 5] .ret))))
def q36_J17_b : VCode := .seq (.seq Yee (.blk 6 (.loop 11 (.seq (.reg [o 115 (.mnxt (t 114)), eX 116 115 0]) (rcode 116 6 YcW))))) Yef
def Yhg : Sg := ⟨[4, 8, 13, 20], [.ptr 0 0 0, .ptr 1 0 0, .np 2, .ref 3], [.st [.s, .l (cs [.s]), .l Zc1], .st [.s, .ref 4, .ref 5], .st [.i .i64, .l Zc13, .b], .sq (cs [.s]), .sq (cs [.s]), .sq Zc1], (cs [.s, .l (cs [.s]), .l Zc1, .s, I, .l Zc13, .b, .l (cs [.s]), .l (cs [.s]), .l Zc1])⟩
def YcX : Sg := ⟨[4, 8, 13, 20, 114], [.ptr 0 0 0, .ptr 1 0 0, .np 2, .ref 3, .np 4], [.st [.s, .l (cs [.s]), .l Zc1], .st [.s, .ref 5, .ref 6], .st [.i .i64, .l Zc13, .b], .sq (cs [.s]), .st [.np 2, .i .i64, .i .i64, .l (cs [I]), .b], .sq (cs [.s]), .sq Zc1], (cs [.s, .l (cs [.s]), .l Zc1, .s, I, .l Zc13, .b, .l (cs [.s]), I, I, .l (cs [I]), .b, .l (cs [.s]), .l Zc1])⟩
def Yhh : List Out1 := [⟨.ret, ⟨[4, 5], [.ptr 0 0 0, .i .i64], [.st [.s, .l (cs [.s]), .l Zc1]], (cs [I, .s, .l (cs [.s]), .l Zc1])⟩⟩]
def YnM (lo : Lo) : Zp32 -> Option (ByteArray × Zt2 × Zt3 × ByteArray × Int × Zt5 × Bool × Zt2 × Int × Int × (List Int) × Bool × Zt2 × Zt3) := fun x => match x with
  | (v4_0, v4_1, v4_2, out8, rows13_0, rows13_1, rows13_2, keys20, h4, h5) => some (v4_0, v4_1, v4_2, out8, rows13_0, rows13_1, rows13_2, keys20, rows13_0, rows13_0, ([] : List Int), false, h4, h5)
def Yeg : Zp27 -> ItP := fun x => match x with
  | (v4_0, v4_1, v4_2, out8, rows13_0, rows13_1, rows13_2, keys20, v114_0, v114_1, v114_2, v114_3, h5, h6) => (rows13_1.map (fun e => e.1), v114_2, rows13_0, v114_0, v114_1)
def YcY (lo : Lo) : Zp27 -> Int -> Option (ByteArray × Zt2 × Zt3 × ByteArray × Int × Zt5 × Bool × Zt2 × Int × Int × (List Int) × Bool × Zt2 × Zt3) := fun x b => match x with
  | (v4_0, v4_1, v4_2, out8, rows13_0, rows13_1, rows13_2, keys20, v114_0, v114_1, v114_2, v114_3, h5, h6) => chk (v114_1 = rows13_0) (Option.bind (addI v114_2 b).getLast? fun y91 => Option.bind (mbf y91 rows13_1) fun y92 => chk (keys20.length + [y92.1].length <= maxEl) (some (v4_0, v4_1, v4_2, out8, rows13_0, rows13_1, rows13_2, (keys20 ++ [y92.1]), v114_0, v114_1, (addI v114_2 b), v114_3, h5, h6)))
def Yb9 (lo : Lo) : Zp27 -> Option ((Int × ByteArray × Zt2 × Zt3)) := fun x => match x with
  | (v4_0, v4_1, v4_2, out8, rows13_0, rows13_1, rows13_2, keys20, v114_0, v114_1, v114_2, v114_3, h5, h6) => Option.bind (q35 lo keys20) fun y152 => chk (y152.length = keys20.length) (Option.bind (YnL lo ((y152.length : Int), (0 : Int), v4_0, v4_1, v4_2, out8, rows13_0, rows13_1, rows13_2, y152, h5, h6)) fun y153 => some ((0 : Int), y153.2.2.2.1, y153.2.2.2.2.1, y153.2.2.2.2.2))
noncomputable def Yeh (lo : Lo) : Zp32 -> Option ((Int × ByteArray × Zt2 × Zt3)) := fun x => Option.bind (YnM lo x) (rngF Yeg (YcY lo) (Yb9 lo))
theorem Yvd (lo : Lo) : ∀ x : Zp32, preR (⟨pf, fs36 lo, [Ybh lo, YaY lo, YaL lo, YaF lo], 0⟩ : Tabs) Yee [(20, none, false)] Yhg YcX x = YnM lo x := fun x => by kernel_rfl
theorem Yve : ∀ x : Zp27, itR YcX 114 x = some (Yeg x) := fun x => by kernel_rfl
theorem Yvf (lo : Lo) : ∀ (x : (ByteArray × Zt2 × Zt3 × ByteArray × Int × Zt5 × Bool × Zt2 × Int × Int × (List Int) × Bool × Zt2 × Zt3)) (b : Int), stepR (⟨pf, fs36 lo, [Ybh lo, YaY lo, YaL lo, YaF lo], 0⟩ : Tabs) [(20, none, false)] YcX 114 115 116 6 YcW x b = YcY lo x b := fun x b => by kernel_rfl
theorem Yvg (lo : Lo) : ∀ x : Zp27, endR (⟨pf, fs36 lo, [Ybh lo, YaY lo, YaL lo, YaF lo], 0⟩ : Tabs) YcX 115 116 6 YcW Yef Yhh x = Yb9 lo x := fun x => by kernel_rfl
noncomputable def Yhi (lo : Lo) : LpE := ⟨17, [(20, none, false)], Yhg, Yhh, Yeh lo⟩
theorem Yvh {lo : Lo} (hlo : LoOK lo) (C : Ctx) (hT : TOK (⟨pf, fs36 lo, [Ybh lo, YaY lo, YaL lo, YaF lo], 0⟩ : Tabs) C) : LpSound (fun _ => False) [] 0 C q36_J17_b.er (Yhi lo) :=
  Ytq (T := (⟨pf, fs36 lo, [Ybh lo, YaY lo, YaL lo, YaF lo], 0⟩ : Tabs)) hT frNo (id := 17) (own0 := [(20, none, false)]) (own := [(20, none, false)]) (g0 := Yhg) (g := YcX) (outs := Yhh) (pre := Yee) (bb := YcW) (rest := Yef) (show LK C _ Yee from tv) (show LK C (⟨pf, fs36 lo, [Ybh lo, YaY lo, YaL lo, YaF lo], 0⟩ : Tabs) (rcode 116 6 YcW) from ⟨⟨tv, tv⟩, ⟨tv, tv⟩⟩) (show LK C _ Yef from ⟨tv, ⟨⟨tv, (lsGet (by kernel_rfl) (Yvc hlo C (Yai hT)))⟩, ⟨tv, tv⟩⟩⟩) Yve (Yvf lo) (Yvg lo) (Yvd lo) (fun x y h => Ytr h)
noncomputable def q36 (lo : Lo) (a0_0 : ByteArray) (a0_1 : List ByteArray) (a0_2 : List (Int × Zt0)) (b1_0 : ByteArray) (b1_1 : List ByteArray) (b1_2 : List (Int × Zt0)) : Option (ByteArray × Zt2 × Zt3 × Int) :=
  Option.bind (q11 lo a0_0 a0_1 a0_2) fun y77 => bif (!decide (y77 = (0 : Int))) then (some ((ByteArray.mk #[]), ([] : List ByteArray), ([] : List (Int × Zt0)), y77)) else (Option.bind (q11 lo b1_0 b1_1 b1_2) fun y78 => bif (!decide (y78 = (0 : Int))) then (some ((ByteArray.mk #[]), ([] : List ByteArray), ([] : List (Int × Zt0)), y78)) else (Option.bind (q19 lo a0_1) fun y79 => Option.bind (Yhe lo (b1_1, (b1_1.length : Int), (0 : Int), a0_0, a0_1, a0_2, b1_0, b1_1, b1_2, (ByteArray.mk #[]), ([] : List ByteArray), ([] : List (Int × Zt0)), a0_0, [], y79, [])) fun y81 => bif (decide ((16 : Int) < (y81.2.2.2.2.2.2.2.2.2.2.2.1.length : Int))) then (some ((ByteArray.mk #[]), ([] : List ByteArray), ([] : List (Int × Zt0)), (3 : Int))) else (Option.bind (Yhf lo (y81.2.2.2.2.2.2.2.2.2.2.1, y81.2.2.1, (y81.2.2.1.length : Int), (0 : Int), y81.2.2.2.1, y81.2.2.2.2.1, y81.2.2.2.2.2.1, y81.2.2.2.2.2.2.1, y81.2.2.2.2.2.2.2.1, y81.2.2.2.2.2.2.2.2.1, y81.2.2.2.2.2.2.2.2.2.1, (0 : Int), ([] : List (Int × ByteArray × Zt0)), false, y81.2.2.2.2.2.2.2.2.2.2.2.1, y81.2.2.2.2.2.2.2.2.2.2.2.2)) fun y87 => alt2 y87 (fun y88 => some (y88.2.1, y88.2.2.1, y88.2.2.2, y88.1)) (fun y89 => Option.bind (Yeh lo (y89.1, y89.2.1, y89.2.2.1, y89.2.2.2.1, y89.2.2.2.2.1, y89.2.2.2.2.2.1, y89.2.2.2.2.2.2.1, [], y89.2.2.2.2.2.2.2.1, y89.2.2.2.2.2.2.2.2)) fun y154 => some (y154.2.1, y154.2.2.1, y154.2.2.2, y154.1)))))
def YnN : VCode :=
 (.seq (.reg [o 2 (.box (t 0)), o 3 (.box (t 1)), o 4 (.alloc [.s (⟨#[]⟩), .e (cs [.s]), .e Zc1]), o 5 (.mv (k 0))])
 (.seq (.seq (.reg [o 24 (.load true 3 (t 2)), o 25 (.call 230 [(t 24)]), mV 6 25])
 (.seq (.reg [mV 26 6, o 27 (.bin .neq (t 26) (k 0))])
 (.cond (t 27) (.seq (.reg [o 28 (.build [.s (⟨#[]⟩), .e (cs [.s]), .e Zc1] []), mV 29 6, on (.store 3 (t 4) (t 28)), mV 5 29])
 (.fz [4, 5] .ret))
 .skip)))
 (.seq (.seq (.reg [o 30 (.load true 3 (t 3)), o 31 (.call 230 [(t 30)]), mV 7 31])
 (.seq (.reg [mV 32 7, o 33 (.bin .neq (t 32) (k 0))])
 (.cond (t 33) (.seq (.reg [o 34 (.build [.s (⟨#[]⟩), .e (cs [.s]), .e Zc1] []), mV 35 7, on (.store 3 (t 4) (t 34)), mV 5 35])
 (.fz [4, 5] .ret))
 .skip)))
 (.seq (.reg [fD 36 0 2, ⟨some 37, .load false 1 (t 36), none, true, false⟩, fD 38 1 2, ⟨some 39, .load false 1 (t 38), none, true, false⟩, o 40 (.callN 269 [(t 39)]), o 41 (.build [.s (⟨#[]⟩), .e (cs [.s]), .e Zc1] [(0, 1, (t 37)), (1, 1, (t 40))]), o 8 (.alloc [.s (⟨#[]⟩), .e (cs [.s]), .e Zc1]), on (.store 3 (t 8) (t 41))])
 (.seq (.reg [o 9 (.mv (ke (cs [I])))])
 (.seq (.seq (.reg [fD 42 1 3, lD 43 42, lN 44 43, o 45 (.mv (k 0))])
 (.blk 0 (.loop 42 q36_L42_b)))
 (.seq (.seq (.reg [fD 69 1 8, lD 70 69, lN 71 70, o 72 (.bin .gtr (t 71) (k 16))])
 (.cond (t 72) (.seq (.reg [o 73 (.build [.s (⟨#[]⟩), .e (cs [.s]), .e Zc1] []), on (.store 3 (t 4) (t 73)), o 5 (.mv (k 3))])
 (.fz [4, 5] .ret))
 .skip))
 (.seq (.reg [o 74 (.mkm none (.l Zc4) (cs []) false), mV 13 74])
 (.seq (.seq (.reg [fD 75 2 2, lD 76 75, lN 77 76, o 78 (.mv (k 0))])
 (.blk 2 (.fz [9] (.loop 19 q36_L19_b))))
 (.seq (.reg [o 20 (.mv (ke (cs [.s])))])
 (.jn 17 q36_J17_b)))))))))))
def Yhj : VFn := ⟨true, 145, [.c 4 true 3, .t 5], YnN⟩
noncomputable def Yhk (lo : Lo) : FnE := ⟨237, true, ⟨[0, 1], [.ag [.s, .l (cs [.s]), .l Zc1], .ag [.s, .l (cs [.s]), .l Zc1]], [], Zc6⟩, .tp [.ag [.s, .l (cs [.s]), .l Zc1], .i .i64], [], Zc15, (fun x => q36 lo x.1 x.2.1 x.2.2.1 x.2.2.2.1 x.2.2.2.2.1 x.2.2.2.2.2 : Zp36 -> Option (ByteArray × Zt2 × Zt3 × Int))⟩
theorem Yvi (lo : Lo) : ∀ x : Zp36, evP (⟨pf, fs36 lo, [Yhi lo, Ybh lo, YaY lo, YaL lo, YaF lo], 0⟩ : Tabs) Yhj ⟨[0, 1], [.ag [.s, .l (cs [.s]), .l Zc1], .ag [.s, .l (cs [.s]), .l Zc1]], [], Zc6⟩ (.tp [.ag [.s, .l (cs [.s]), .l Zc1], .i .i64]) Zc15 x = q36 lo x.1 x.2.1 x.2.2.1 x.2.2.2.1 x.2.2.2.2.1 x.2.2.2.2.2 := fun x => by kernel_rfl
theorem Yvj {P : Program} {fm : FM} {lo : Lo} (hlo : LoOK lo) (hS : Sound P fm ⟨pf, fs36 lo, [], 0⟩) (hm : P.follows .mixedOrders = true) (htie : Ti P fm 237 Yhj) : Sound P fm ⟨pf, Yhk lo :: fs36 lo, [], 0⟩ :=
  Yaf hS hm [Yhi lo, Ybh lo, YaY lo, YaL lo, YaF lo] (Yhk lo) rfl Yhj htie (by decide) rfl (Nat.le_of_ble_eq_true (by kernel_rfl)) (fun C hT => show LK C _ YnN from ⟨tv, ⟨⟨tv, ⟨tv, ⟨⟨tv, tv⟩, tv⟩⟩⟩, ⟨⟨tv, ⟨tv, ⟨⟨tv, tv⟩, tv⟩⟩⟩, ⟨tv, ⟨tv, ⟨⟨tv, (lsGet (by kernel_rfl) (Yu6 hlo C (Yai hT)))⟩, ⟨⟨tv, ⟨⟨tv, tv⟩, tv⟩⟩, ⟨tv, ⟨⟨tv, (lsGet (by kernel_rfl) (Yva hlo C (Yai hT)))⟩, ⟨tv, (lsGet (by kernel_rfl) (Yvh hlo C (Yai hT)))⟩⟩⟩⟩⟩⟩⟩⟩⟩⟩) (fun x y h => (Yvi lo x).trans h)
noncomputable def fs37 (lo : Lo) : List FnE := Yhk lo :: fs36 lo
def q37_L3_b : VCode :=
 (.seq (.reg [o 14 (.bin .lss (t 13) (t 12))])
 (.seq (.cond (t 14) .skip
 (.exit 0))
 (.seq (.blk 1 (.seq (.reg [mV 15 13, mV 5 15])
 (.seq (.reg [mV 16 0, mV 17 5, o 18 (.iad 1 (t 16) (t 17)), lD 19 18, mV 20 1, mV 21 5, o 22 (.iad 1 (t 20) (t 21)), lD 23 22, o 24 (.bin .neq (t 19) (t 23))])
 (.cond (t 24) (.seq (.reg [o 4 (.mv (kb false))])
 (.fz [4] .ret))
 .skip))))
 (.reg [o 25 (.bin .add (t 13) (k 1)), mV 13 25]))))
def YnO : Sg := ⟨[0, 1, 12, 13], [.l (cs [.s]), .l (cs [.s]), .i .i64, .i .i64], [], (cs [.l (cs [.s]), .l (cs [.s]), I, I])⟩
def YnP : List Out1 := [⟨.ret, ⟨[4], [.b], [], (cs [.b])⟩⟩, ⟨.exit 0, ⟨[], [], [], (cs [])⟩⟩]
def Yei (lo : Lo) : Zt2 × Zt2 × Int × Int -> Option ((Zt2 × Zt2 × Int × Int) ⊕ (Bool ⊕ Unit)) := fun x => match x with
  | (s10, s21, v12, v13) => bif (decide (v13 < v12)) then (chk (0 <= v13 /\ v13 < (s10.length : Int)) (chk (0 <= v13 /\ v13 < (s21.length : Int)) (bif (!decide ((s10.getD v13.toNat (ByteArray.mk #[])) = (s21.getD v13.toNat (ByteArray.mk #[])))) then (some (.inr (.inl false))) else (some (.inl (s10, s21, v12, (IntKind.wrap .i64 (v13 + (1 : Int))))))))) else (some (.inr (.inr ())))
theorem Yvk (lo : Lo) : ∀ x : Zt2 × Zt2 × Int × Int, stepL (⟨pf, fs37 lo, [], 0⟩ : Tabs) [] YnO YnP q37_L3_b x = Yei lo x := fun x => by kernel_rfl
def Yhl (lo : Lo) : Zt2 × Zt2 × Int × Int -> Option (Bool ⊕ Unit) := lo.run (Yei lo)
def Yhm (lo : Lo) : LpE := ⟨3, [], YnO, YnP, Yhl lo⟩
theorem Yvl {lo : Lo} (hlo : LoOK lo) (C : Ctx) (hT : TOK (⟨pf, fs37 lo, [], 0⟩ : Tabs) C) : LpSound (fun _ => False) [] 0 C (.loop q37_L3_b.er) (Yhm lo) :=
  Yak hT frNo (show LK C _ q37_L3_b from ⟨tv, ⟨⟨tv, tv⟩, ⟨⟨tv, ⟨tv, ⟨⟨tv, tv⟩, tv⟩⟩⟩, tv⟩⟩⟩) (fun x y h => Yal (Yvk lo) (hlo _ _ _ h))
def q37 (lo : Lo) (s10 : List ByteArray) (s21 : List ByteArray) : Option Bool :=
  bif (!decide ((s10.length : Int) = (s21.length : Int))) then (some false) else (Option.bind (Yhl lo (s10, s21, (s10.length : Int), (0 : Int))) fun y158 => alt2 y158 (fun y159 => some y159) (fun y160 => some true))
def YnQ : VCode :=
 (.seq (.reg [o 4 (.mv (kb false))])
 (.seq (.seq (.reg [mV 6 0, lN 7 6, mV 8 1, lN 9 8, o 10 (.bin .neq (t 7) (t 9))])
 (.cond (t 10) (.seq (.reg [o 4 (.mv (kb false))])
 (.fz [4] .ret))
 .skip))
 (.seq (.seq (.reg [mV 11 0, lN 12 11, o 13 (.mv (k 0))])
 (.blk 0 (.loop 3 q37_L3_b)))
 (.seq (.reg [o 4 (.mv (kb true))])
 (.fz [4] .ret)))))
def Yhn : VFn := ⟨true, 26, [.t 4], YnQ⟩
def Yho (lo : Lo) : FnE := ⟨267, true, ⟨[0, 1], [.l (cs [.s]), .l (cs [.s])], [], (cs [.l (cs [.s]), .l (cs [.s])])⟩, .b, [], (cs [.b]), (fun x => q37 lo x.1 x.2 : Zt2 × Zt2 -> Option Bool)⟩
theorem Yvm (lo : Lo) : ∀ x : Zt2 × Zt2, evP (⟨pf, fs37 lo, [Yhm lo], 0⟩ : Tabs) Yhn ⟨[0, 1], [.l (cs [.s]), .l (cs [.s])], [], (cs [.l (cs [.s]), .l (cs [.s])])⟩ (.b) (cs [.b]) x = q37 lo x.1 x.2 := fun x => by kernel_rfl
theorem Yvn {P : Program} {fm : FM} {lo : Lo} (hlo : LoOK lo) (hS : Sound P fm ⟨pf, fs37 lo, [], 0⟩) (hm : P.follows .mixedOrders = true) (htie : Ti P fm 267 Yhn) : Sound P fm ⟨pf, Yho lo :: fs37 lo, [], 0⟩ :=
  Yaf hS hm [Yhm lo] (Yho lo) rfl Yhn htie (by decide) rfl (Nat.le_of_ble_eq_true (by kernel_rfl)) (fun C hT => show LK C _ YnQ from ⟨tv, ⟨⟨tv, ⟨⟨tv, tv⟩, tv⟩⟩, ⟨⟨tv, (lsGet (by kernel_rfl) (Yvl hlo C (Yai hT)))⟩, ⟨tv, tv⟩⟩⟩⟩) (fun x y h => (Yvm lo x).trans h)
noncomputable def fs38 (lo : Lo) : List FnE := Yho lo :: fs37 lo
def q38_L3_b : VCode :=
 (.seq (.reg [o 14 (.bin .lss (t 13) (t 12))])
 (.seq (.cond (t 14) .skip
 (.exit 0))
 (.seq (.blk 1 (.seq (.reg [mV 15 13, mV 5 15])
 (.seq (.reg [mV 16 0, mV 17 5, o 18 (.iad 3 (t 16) (t 17)), o 19 (.load true 3 (t 18)), mV 20 1, mV 21 5, o 22 (.iad 3 (t 20) (t 21)), o 23 (.load true 3 (t 22)), o 24 (.eqa true [1, 1, 2] (t 19) (t 23))])
 (.cond (t 24) (.seq (.reg [o 4 (.mv (kb false))])
 (.fz [4] .ret))
 .skip))))
 (.reg [o 25 (.bin .add (t 13) (k 1)), mV 13 25]))))
def YnR : Sg := ⟨[0, 1, 12, 13], [.l Zc4, .l Zc4, .i .i64, .i .i64], [], (cs [.l Zc4, .l Zc4, I, I])⟩
def YnS : List Out1 := [⟨.ret, ⟨[4], [.b], [], (cs [.b])⟩⟩, ⟨.exit 0, ⟨[], [], [], (cs [])⟩⟩]
def Yej (lo : Lo) : Zt0 × Zt0 × Int × Int -> Option ((Zt0 × Zt0 × Int × Int) ⊕ (Bool ⊕ Unit)) := fun x => match x with
  | (s10, s21, v12, v13) => bif (decide (v13 < v12)) then (chk (0 <= v13 /\ v13 < (s10.length : Int)) (chk (0 <= v13 /\ v13 < (s21.length : Int)) (bif (!((decide ((s10.getD v13.toNat ((0 : Int), (0 : Int), (ByteArray.mk #[]))).1 = (s21.getD v13.toNat ((0 : Int), (0 : Int), (ByteArray.mk #[]))).1)) && ((decide ((s10.getD v13.toNat ((0 : Int), (0 : Int), (ByteArray.mk #[]))).2.1 = (s21.getD v13.toNat ((0 : Int), (0 : Int), (ByteArray.mk #[]))).2.1)) && ((decide ((s10.getD v13.toNat ((0 : Int), (0 : Int), (ByteArray.mk #[]))).2.2 = (s21.getD v13.toNat ((0 : Int), (0 : Int), (ByteArray.mk #[]))).2.2)) && true)))) then (some (.inr (.inl false))) else (some (.inl (s10, s21, v12, (IntKind.wrap .i64 (v13 + (1 : Int))))))))) else (some (.inr (.inr ())))
theorem Yvo (lo : Lo) : ∀ x : Zt0 × Zt0 × Int × Int, stepL (⟨pf, fs38 lo, [], 0⟩ : Tabs) [] YnR YnS q38_L3_b x = Yej lo x := fun x => by kernel_rfl
def Yhp (lo : Lo) : Zt0 × Zt0 × Int × Int -> Option (Bool ⊕ Unit) := lo.run (Yej lo)
def Yhq (lo : Lo) : LpE := ⟨3, [], YnR, YnS, Yhp lo⟩
theorem Yvp {lo : Lo} (hlo : LoOK lo) (C : Ctx) (hT : TOK (⟨pf, fs38 lo, [], 0⟩ : Tabs) C) : LpSound (fun _ => False) [] 0 C (.loop q38_L3_b.er) (Yhq lo) :=
  Yak hT frNo (show LK C _ q38_L3_b from ⟨tv, ⟨⟨tv, tv⟩, ⟨⟨tv, ⟨tv, ⟨⟨tv, tv⟩, tv⟩⟩⟩, tv⟩⟩⟩) (fun x y h => Yal (Yvo lo) (hlo _ _ _ h))
def q38 (lo : Lo) (s10 : List (Int × Int × ByteArray)) (s21 : List (Int × Int × ByteArray)) : Option Bool :=
  bif (!decide ((s10.length : Int) = (s21.length : Int))) then (some false) else (Option.bind (Yhp lo (s10, s21, (s10.length : Int), (0 : Int))) fun y162 => alt2 y162 (fun y163 => some y163) (fun y164 => some true))
def YnT : VCode :=
 (.seq (.reg [o 4 (.mv (kb false))])
 (.seq (.seq (.reg [mV 6 0, lN 7 6, mV 8 1, lN 9 8, o 10 (.bin .neq (t 7) (t 9))])
 (.cond (t 10) (.seq (.reg [o 4 (.mv (kb false))])
 (.fz [4] .ret))
 .skip))
 (.seq (.seq (.reg [mV 11 0, lN 12 11, o 13 (.mv (k 0))])
 (.blk 0 (.loop 3 q38_L3_b)))
 (.seq (.reg [o 4 (.mv (kb true))])
 (.fz [4] .ret)))))
def Yhr : VFn := ⟨true, 26, [.t 4], YnT⟩
def Yhs (lo : Lo) : FnE := ⟨300, true, ⟨[0, 1], [.l Zc4, .l Zc4], [], (cs [.l Zc4, .l Zc4])⟩, .b, [], (cs [.b]), (fun x => q38 lo x.1 x.2 : Zt0 × Zt0 -> Option Bool)⟩
theorem Yvq (lo : Lo) : ∀ x : Zt0 × Zt0, evP (⟨pf, fs38 lo, [Yhq lo], 0⟩ : Tabs) Yhr ⟨[0, 1], [.l Zc4, .l Zc4], [], (cs [.l Zc4, .l Zc4])⟩ (.b) (cs [.b]) x = q38 lo x.1 x.2 := fun x => by kernel_rfl
theorem Yvr {P : Program} {fm : FM} {lo : Lo} (hlo : LoOK lo) (hS : Sound P fm ⟨pf, fs38 lo, [], 0⟩) (hm : P.follows .mixedOrders = true) (htie : Ti P fm 300 Yhr) : Sound P fm ⟨pf, Yhs lo :: fs38 lo, [], 0⟩ :=
  Yaf hS hm [Yhq lo] (Yhs lo) rfl Yhr htie (by decide) rfl (Nat.le_of_ble_eq_true (by kernel_rfl)) (fun C hT => show LK C _ YnT from ⟨tv, ⟨⟨tv, ⟨⟨tv, tv⟩, tv⟩⟩, ⟨⟨tv, (lsGet (by kernel_rfl) (Yvp hlo C (Yai hT)))⟩, ⟨tv, tv⟩⟩⟩⟩) (fun x y h => (Yvq lo x).trans h)
noncomputable def fs39 (lo : Lo) : List FnE := Yhs lo :: fs38 lo
def q39 (lo : Lo) (s0_0 : Int) (s0_1 : List (Int × Int × ByteArray)) (v1_0 : Int) (v1_1 : List (Int × Int × ByteArray)) : Option (Bool × Int × Zt0) :=
  Option.bind (q38 lo v1_1 s0_1) fun y165 => some (y165, v1_0, v1_1)
def YnU : VCode :=
 (.seq (.reg [o 2 (.box (t 0)), o 3 (.mv (kb false))])
 (.seq (.reg [fD 4 1 1, lD 5 4, fD 6 1 2, lD 7 6, o 8 (.call 300 [(t 5), (t 7)]), mV 3 8])
 .ret))
def Yht : VFn := ⟨true, 9, [.t 3], YnU⟩
def Yhu (lo : Lo) : FnE := ⟨299, false, ⟨[0, 1], [.ag [.i .i64, .l Zc4], .ptr 0 0 0], [.st [.i .i64, .l Zc4]], (cs [I, .l Zc4, I, .l Zc4])⟩, .b, [.st [.i .i64, .l Zc4]], (cs [.b, I, .l Zc4]), (fun x => q39 lo x.1 x.2.1 x.2.2.1 x.2.2.2 : Int × Zt0 × Int × Zt0 -> Option (Bool × Int × Zt0))⟩
theorem Yvs (lo : Lo) : ∀ x : Int × Zt0 × Int × Zt0, evI (⟨pf, fs39 lo, [], 1⟩ : Tabs) Yht ⟨[0, 1], [.ag [.i .i64, .l Zc4], .ptr 0 0 0], [.st [.i .i64, .l Zc4]], (cs [I, .l Zc4, I, .l Zc4])⟩ (.b) [.st [.i .i64, .l Zc4]] (cs [.b, I, .l Zc4]) x = q39 lo x.1 x.2.1 x.2.2.1 x.2.2.2 := fun x => by kernel_rfl
theorem Yvt {P : Program} {fm : FM} {lo : Lo} (hlo : LoOK lo) (hS : Sound P fm ⟨pf, fs39 lo, [], 0⟩) (hm : P.follows .mixedOrders = true) (htie : Ti P fm 299 Yht) : Sound P fm ⟨pf, Yhu lo :: fs39 lo, [], 0⟩ :=
  Ybg hS hm [] (Yhu lo) rfl Yht htie (by decide) rfl (Nat.le_of_ble_eq_true (by kernel_rfl)) (fun C hT Fr H0 hf => show LsOK Fr H0 C (⟨pf, fs39 lo, [], 1⟩ : Tabs) YnU from ⟨tv, ⟨tv, tv⟩⟩) (fun x y h => (Yvs lo x).trans h)
noncomputable def fs40 (lo : Lo) : List FnE := Yhu lo :: fs39 lo
end Go.Abs.G03
namespace Go.Abs.G03
open Go Go.Abs
set_option maxRecDepth 100000
set_option maxHeartbeats 1000000
def q40_L3_b : VCode :=
 (.seq (.reg [o 9 (.bin .lss (t 8) (t 7))])
 (.seq (.cond (t 9) .skip
 (.exit 0))
 (.seq (.blk 1 (.seq (.reg [mV 10 8, mV 5 10])
 (.seq (.reg [mV 11 1, mV 12 0, mV 13 5, o 14 (.iad 2 (t 12) (t 13)), o 15 (.load true 2 (t 14)), o 16 (.dyn (t 11) [(t 15)])])
 (.cond (t 16) (.seq (.reg [mV 17 5, mV 4 17])
 .ret)
 .skip))))
 (.reg [o 18 (.bin .add (t 8) (k 1)), mV 8 18]))))
def YnV : Sg := ⟨[0, 1, 7, 8], [.l Zc1, .clo 299 [.ptr 0 0 0], .i .i64, .i .i64], [.st [.i .i64, .l Zc4]], (cs [.l Zc1, I, I, I, .l Zc4])⟩
def YnW : List Out1 := [⟨.ret, ⟨[4], [.i .i64], [.st [.i .i64, .l Zc4]], (cs [I, I, .l Zc4])⟩⟩, ⟨.exit 0, ⟨[], [], [.st [.i .i64, .l Zc4]], Zc1⟩⟩]
def Yek (lo : Lo) : Zt3 × Int × Int × Int × Zt0 -> Option ((Zt3 × Int × Int × Int × Zt0) ⊕ ((Int × Int × Zt0) ⊕ (Int × Zt0))) := fun x => match x with
  | (s0, v7, v8, h0_0, h0_1) => bif (decide (v8 < v7)) then (chk (0 <= v8 /\ v8 < (s0.length : Int)) (Option.bind (q39 lo ((s0.getD v8.toNat ((0 : Int), [])).1) ((s0.getD v8.toNat ((0 : Int), [])).2) h0_0 h0_1) fun y166 => bif y166.1 then (some (.inr (.inl (v8, y166.2.1, y166.2.2)))) else (some (.inl (s0, v7, (IntKind.wrap .i64 (v8 + (1 : Int))), y166.2.1, y166.2.2))))) else (some (.inr (.inr (h0_0, h0_1))))
theorem Yvu (lo : Lo) : ∀ x : Zt3 × Int × Int × Int × Zt0, stepL (⟨pf, fs40 lo, [], 1⟩ : Tabs) [] YnV YnW q40_L3_b x = Yek lo x := fun x => by kernel_rfl
def Yhv (lo : Lo) : Zt3 × Int × Int × Int × Zt0 -> Option ((Int × Int × Zt0) ⊕ (Int × Zt0)) := lo.run (Yek lo)
def Yel (lo : Lo) : LpE := ⟨3, [], YnV, YnW, Yhv lo⟩
theorem Yvv {lo : Lo} (hlo : LoOK lo) (C : Ctx) (hT : TOK (⟨pf, fs40 lo, [], 1⟩ : Tabs) C) {Fr : Nat -> Prop} {H0 : Heap} (hf : FrOK Fr H0) : LpSound Fr H0 1 C (.loop q40_L3_b.er) (Yel lo) :=
  Yak hT hf (show LsOK Fr H0 C (⟨pf, fs40 lo, [], 1⟩ : Tabs) q40_L3_b from ⟨tv, ⟨⟨tv, tv⟩, ⟨⟨tv, ⟨tv, ⟨⟨tv, tv⟩, tv⟩⟩⟩, tv⟩⟩⟩) (fun x y h => Yal (Yvu lo) (hlo _ _ _ h))
def q40 (lo : Lo) (s0 : List (Int × Zt0)) (h0_0 : Int) (h0_1 : List (Int × Int × ByteArray)) : Option (Int × Int × Zt0) :=
  Option.bind (Yhv lo (s0, (s0.length : Int), (0 : Int), h0_0, h0_1)) fun y167 => alt2 y167 (fun y168 => some (y168.1, y168.2.1, y168.2.2)) (fun y169 => some ((-1 : Int), y169.1, y169.2))
def YnX : VCode :=
 (.seq (.reg [o 4 (.mv (k 0))])
 (.seq (.seq (.reg [mV 6 0, lN 7 6, o 8 (.mv (k 0))])
 (.blk 0 (.loop 3 q40_L3_b)))
 (.seq (.reg [o 4 (.mv (k (-1)))])
 .ret)))
def Yhw : VFn := ⟨true, 19, [.t 4], YnX⟩
def Yhx (lo : Lo) : FnE := ⟨277, false, ⟨[0, 1], [.l Zc1, .clo 299 [.ptr 0 0 0]], [.st [.i .i64, .l Zc4]], (cs [.l Zc1, I, .l Zc4])⟩, .i .i64, [.st [.i .i64, .l Zc4]], (cs [I, I, .l Zc4]), (fun x => q40 lo x.1 x.2.1 x.2.2 : Zt3 × Int × Zt0 -> Option (Int × Int × Zt0))⟩
theorem Yvw (lo : Lo) : ∀ x : Zt3 × Int × Zt0, evI (⟨pf, fs40 lo, [Yel lo], 1⟩ : Tabs) Yhw ⟨[0, 1], [.l Zc1, .clo 299 [.ptr 0 0 0]], [.st [.i .i64, .l Zc4]], (cs [.l Zc1, I, .l Zc4])⟩ (.i .i64) [.st [.i .i64, .l Zc4]] (cs [I, I, .l Zc4]) x = q40 lo x.1 x.2.1 x.2.2 := fun x => by kernel_rfl
theorem Yvx {P : Program} {fm : FM} {lo : Lo} (hlo : LoOK lo) (hS : Sound P fm ⟨pf, fs40 lo, [], 0⟩) (hm : P.follows .mixedOrders = true) (htie : Ti P fm 277 Yhw) : Sound P fm ⟨pf, Yhx lo :: fs40 lo, [], 0⟩ :=
  Ybg hS hm [Yel lo] (Yhx lo) rfl Yhw htie (by decide) rfl (Nat.le_of_ble_eq_true (by kernel_rfl)) (fun C hT Fr H0 hf => show LsOK Fr H0 C (⟨pf, fs40 lo, [Yel lo], 1⟩ : Tabs) YnX from ⟨tv, ⟨⟨tv, (lsGet (by kernel_rfl) (Yvv hlo C (Yai hT) hf))⟩, ⟨tv, tv⟩⟩⟩) (fun x y h => (Yvw lo x).trans h)
noncomputable def fs41 (lo : Lo) : List FnE := Yhx lo :: fs40 lo
def q41 (lo : Lo) (s0 : List (Int × Zt0)) (h0_0 : Int) (h0_1 : List (Int × Int × ByteArray)) : Option (Bool × Int × Zt0) :=
  Option.bind (q40 lo s0 h0_0 h0_1) fun y170 => some ((decide ((0 : Int) <= y170.1)), y170.2.1, y170.2.2)
def YnY : VCode :=
 (.seq (.reg [o 4 (.mv (kb false))])
 (.seq (.reg [mV 5 0, mV 6 1, o 7 (.call 277 [(t 5), (t 6)]), o 8 (.bin .geq (t 7) (k 0)), mV 4 8])
 .ret))
def Yhy : VFn := ⟨true, 9, [.t 4], YnY⟩
def Yhz (lo : Lo) : FnE := ⟨298, false, ⟨[0, 1], [.l Zc1, .clo 299 [.ptr 0 0 0]], [.st [.i .i64, .l Zc4]], (cs [.l Zc1, I, .l Zc4])⟩, .b, [.st [.i .i64, .l Zc4]], (cs [.b, I, .l Zc4]), (fun x => q41 lo x.1 x.2.1 x.2.2 : Zt3 × Int × Zt0 -> Option (Bool × Int × Zt0))⟩
theorem Yvy (lo : Lo) : ∀ x : Zt3 × Int × Zt0, evI (⟨pf, fs41 lo, [], 1⟩ : Tabs) Yhy ⟨[0, 1], [.l Zc1, .clo 299 [.ptr 0 0 0]], [.st [.i .i64, .l Zc4]], (cs [.l Zc1, I, .l Zc4])⟩ (.b) [.st [.i .i64, .l Zc4]] (cs [.b, I, .l Zc4]) x = q41 lo x.1 x.2.1 x.2.2 := fun x => by kernel_rfl
theorem Yvz {P : Program} {fm : FM} {lo : Lo} (hlo : LoOK lo) (hS : Sound P fm ⟨pf, fs41 lo, [], 0⟩) (hm : P.follows .mixedOrders = true) (htie : Ti P fm 298 Yhy) : Sound P fm ⟨pf, Yhz lo :: fs41 lo, [], 0⟩ :=
  Ybg hS hm [] (Yhz lo) rfl Yhy htie (by decide) rfl (Nat.le_of_ble_eq_true (by kernel_rfl)) (fun C hT Fr H0 hf => show LsOK Fr H0 C (⟨pf, fs41 lo, [], 1⟩ : Tabs) YnY from ⟨tv, ⟨tv, tv⟩⟩) (fun x y h => (Yvy lo x).trans h)
noncomputable def fs42 (lo : Lo) : List FnE := Yhz lo :: fs41 lo
def q42_L3_b : VCode :=
 (.seq (.reg [o 10 (.bin .lss (t 9) (t 8))])
 (.seq (.cond (t 10) .skip
 (.exit 0))
 (.seq (.blk 1 (.seq (.reg [o 11 (.iad 2 (t 7) (t 9)), o 12 (.load true 2 (t 11)), o 6 (.alloc [.i .i64 0, .e Zc4]), on (.store 2 (t 6) (t 12))])
 (.seq (.reg [mV 13 0, o 14 (.mkf 299 [(t 6)]), o 15 (.call 298 [(t 13), (t 14)]), o 16 (.not (t 15))])
 (.cond (t 16) (.seq (.reg [o 4 (.mv (kb false))])
 (.fz [4] .ret))
 .skip))))
 (.reg [o 17 (.bin .add (t 9) (k 1)), mV 9 17]))))
def YnZ : Sg := ⟨[0, 7, 8, 9], [.l Zc1, .l Zc1, .i .i64, .i .i64], [], (cs [.l Zc1, .l Zc1, I, I])⟩
def Yn0 : List Out1 := [⟨.ret, ⟨[4], [.b], [], (cs [.b])⟩⟩, ⟨.exit 0, ⟨[], [], [], (cs [])⟩⟩]
def Yem (lo : Lo) : Zt3 × Zt3 × Int × Int -> Option ((Zt3 × Zt3 × Int × Int) ⊕ (Bool ⊕ Unit)) := fun x => match x with
  | (a0, v7, v8, v9) => bif (decide (v9 < v8)) then (chk (0 <= v9 /\ v9 < (v7.length : Int)) (Option.bind (q41 lo a0 ((v7.getD v9.toNat ((0 : Int), [])).1) ((v7.getD v9.toNat ((0 : Int), [])).2)) fun y171 => bif (!y171.1) then (some (.inr (.inl false))) else (some (.inl (a0, v7, v8, (IntKind.wrap .i64 (v9 + (1 : Int)))))))) else (some (.inr (.inr ())))
theorem YvA (lo : Lo) : ∀ x : Zt3 × Zt3 × Int × Int, stepL (⟨pf, fs42 lo, [], 0⟩ : Tabs) [] YnZ Yn0 q42_L3_b x = Yem lo x := fun x => by kernel_rfl
def YhA (lo : Lo) : Zt3 × Zt3 × Int × Int -> Option (Bool ⊕ Unit) := lo.run (Yem lo)
def YhB (lo : Lo) : LpE := ⟨3, [], YnZ, Yn0, YhA lo⟩
theorem YvB {lo : Lo} (hlo : LoOK lo) (C : Ctx) (hT : TOK (⟨pf, fs42 lo, [], 0⟩ : Tabs) C) : LpSound (fun _ => False) [] 0 C (.loop q42_L3_b.er) (YhB lo) :=
  Yak hT frNo (show LK C _ q42_L3_b from ⟨tv, ⟨⟨tv, tv⟩, ⟨⟨tv, ⟨tv, ⟨⟨tv, tv⟩, tv⟩⟩⟩, tv⟩⟩⟩) (fun x y h => Yal (YvA lo) (hlo _ _ _ h))
def q42 (lo : Lo) (a0 : List (Int × Zt0)) (b1 : List (Int × Zt0)) : Option Bool :=
  Option.bind (YhA lo (a0, b1, (b1.length : Int), (0 : Int))) fun y172 => alt2 y172 (fun y173 => some y173) (fun y174 => some true)
def Yn1 : VCode :=
 (.seq (.reg [o 4 (.mv (kb false))])
 (.seq (.seq (.reg [mV 7 1, lN 8 7, o 9 (.mv (k 0))])
 (.blk 0 (.loop 3 q42_L3_b)))
 (.seq (.reg [o 4 (.mv (kb true))])
 (.fz [4] .ret))))
def YhC : VFn := ⟨true, 18, [.t 4], Yn1⟩
def YhD (lo : Lo) : FnE := ⟨268, true, ⟨[0, 1], [.l Zc1, .l Zc1], [], (cs [.l Zc1, .l Zc1])⟩, .b, [], (cs [.b]), (fun x => q42 lo x.1 x.2 : Zt3 × Zt3 -> Option Bool)⟩
theorem YvC (lo : Lo) : ∀ x : Zt3 × Zt3, evP (⟨pf, fs42 lo, [YhB lo], 0⟩ : Tabs) YhC ⟨[0, 1], [.l Zc1, .l Zc1], [], (cs [.l Zc1, .l Zc1])⟩ (.b) (cs [.b]) x = q42 lo x.1 x.2 := fun x => by kernel_rfl
theorem YvD {P : Program} {fm : FM} {lo : Lo} (hlo : LoOK lo) (hS : Sound P fm ⟨pf, fs42 lo, [], 0⟩) (hm : P.follows .mixedOrders = true) (htie : Ti P fm 268 YhC) : Sound P fm ⟨pf, YhD lo :: fs42 lo, [], 0⟩ :=
  Yaf hS hm [YhB lo] (YhD lo) rfl YhC htie (by decide) rfl (Nat.le_of_ble_eq_true (by kernel_rfl)) (fun C hT => show LK C _ Yn1 from ⟨tv, ⟨⟨tv, (lsGet (by kernel_rfl) (YvB hlo C (Yai hT)))⟩, ⟨tv, tv⟩⟩⟩) (fun x y h => (YvC lo x).trans h)
noncomputable def fs43 (lo : Lo) : List FnE := YhD lo :: fs42 lo
def q43 (lo : Lo) (a0_0 : ByteArray) (a0_1 : List ByteArray) (a0_2 : List (Int × Zt0)) (b1_0 : ByteArray) (b1_1 : List ByteArray) (b1_2 : List (Int × Zt0)) : Option Bool :=
  Option.bind (q37 lo a0_1 b1_1) fun y161 => bif y161 then (Option.bind (q42 lo a0_2 b1_2) fun y175 => bif y175 then (Option.bind (q42 lo b1_2 a0_2) fun y176 => some y176) else (some false)) else (some false)
def Yn2 : VCode :=
 (.seq (.reg [o 2 (.box (t 0)), o 3 (.box (t 1)), o 4 (.mv (kb false))])
 (.seq (.reg [fD 5 1 2, lD 6 5, fD 7 1 3, lD 8 7, o 9 (.call 267 [(t 6), (t 8)]), mV 10 9, og 11 10 true (.fad 2 (t 2)), og 12 10 true (.load false 1 (t 11)), og 13 10 true (.fad 2 (t 3)), og 14 10 true (.load false 1 (t 13)), og 15 10 true (.call 268 [(t 12), (t 14)]), o 16 (.pick (t 10) (t 15) (kb false)), mV 17 16, og 18 17 true (.fad 2 (t 3)), og 19 17 true (.load false 1 (t 18)), og 20 17 true (.fad 2 (t 2)), og 21 17 true (.load false 1 (t 20)), og 22 17 true (.call 268 [(t 19), (t 21)]), o 23 (.pick (t 17) (t 22) (kb false)), mV 4 23])
 (.fz [4] .ret)))
def YhE : VFn := ⟨true, 24, [.t 4], Yn2⟩
def YhF (lo : Lo) : FnE := ⟨236, true, ⟨[0, 1], [.ag [.s, .l (cs [.s]), .l Zc1], .ag [.s, .l (cs [.s]), .l Zc1]], [], Zc6⟩, .b, [], (cs [.b]), (fun x => q43 lo x.1 x.2.1 x.2.2.1 x.2.2.2.1 x.2.2.2.2.1 x.2.2.2.2.2 : Zp36 -> Option Bool)⟩
theorem YvE (lo : Lo) : ∀ x : Zp36, evP (⟨pf, fs43 lo, [], 0⟩ : Tabs) YhE ⟨[0, 1], [.ag [.s, .l (cs [.s]), .l Zc1], .ag [.s, .l (cs [.s]), .l Zc1]], [], Zc6⟩ (.b) (cs [.b]) x = q43 lo x.1 x.2.1 x.2.2.1 x.2.2.2.1 x.2.2.2.2.1 x.2.2.2.2.2 := fun x => by kernel_rfl
theorem YvF {P : Program} {fm : FM} {lo : Lo} (hlo : LoOK lo) (hS : Sound P fm ⟨pf, fs43 lo, [], 0⟩) (hm : P.follows .mixedOrders = true) (htie : Ti P fm 236 YhE) : Sound P fm ⟨pf, YhF lo :: fs43 lo, [], 0⟩ :=
  Yaf hS hm [] (YhF lo) rfl YhE htie (by decide) rfl (Nat.le_of_ble_eq_true (by kernel_rfl)) (fun C hT => show LK C _ Yn2 from ⟨tv, ⟨tv, tv⟩⟩) (fun x y h => (YvE lo x).trans h)
noncomputable def fs44 (lo : Lo) : List FnE := YhF lo :: fs43 lo
noncomputable def q44 (lo : Lo) : Option Bool :=
  Option.bind (q2 lo) fun y6 => Option.bind (q18 lo y6.1 y6.2.1 y6.2.2 (1 : Int)) fun y51 => Option.bind (q18 lo y6.1 y6.2.1 y6.2.2 (2 : Int)) fun y52 => Option.bind (q36 lo y6.1 y6.2.1 y6.2.2 y52.1 y52.2.1 y52.2.2.1) fun y155 => Option.bind (q36 lo y51.1 y51.2.1 y51.2.2.1 y52.1 y52.2.1 y52.2.2.1) fun y156 => bif (decide (y51.2.2.2 = (0 : Int))) then (bif (decide (y52.2.2.2 = (0 : Int))) then (bif (decide (y155.2.2.2 = (0 : Int))) then (bif (decide (y156.2.2.2 = (0 : Int))) then (Option.bind (q11 lo y6.1 y6.2.1 y6.2.2) fun y157 => bif (decide (y157 = (0 : Int))) then (bif (decide ((y51.2.2.1.length : Int) = (2 : Int))) then (chk (0 <= (1 : Int) /\ (1 : Int) < (y51.2.2.1.length : Int)) (bif (decide ((y51.2.2.1.getD 1 ((0 : Int), [])).1 = (4 : Int))) then (Option.bind (q43 lo y155.1 y155.2.1 y155.2.2.1 y6.1 y6.2.1 y6.2.2) fun y177 => bif y177 then (bif (decide ((y156.2.2.1.length : Int) = (4 : Int))) then (chk (0 <= (1 : Int) /\ (1 : Int) < (y156.2.2.1.length : Int)) (chk (0 <= (1 : Int) /\ (1 : Int) < (((y156.2.2.1.getD 1 ((0 : Int), [])).2).length : Int)) (bif (decide ((((y156.2.2.1.getD 1 ((0 : Int), [])).2).getD 1 ((0 : Int), (0 : Int), (ByteArray.mk #[]))).2.2 = (ByteArray.mk #[121]))) then (chk (0 <= (3 : Int) /\ (3 : Int) < (y156.2.2.1.length : Int)) (some (decide ((y156.2.2.1.getD 3 ((0 : Int), [])).1 = (4 : Int))))) else (some false)))) else (some false)) else (some false)) else (some false))) else (some false)) else (some false)) else (some false)) else (some false)) else (some false)) else (some false)
def Yn3 : VCode :=
 (.seq (.reg [o 0 (.mv (kb false))])
 (.seq (.reg [o 11 (.call 254 []), o 1 (.alloc [.s (⟨#[]⟩), .e (cs [.s]), .e Zc1]), on (.store 3 (t 1) (t 11))])
 (.seq (.reg [o 13 (.load true 3 (t 1)), o 14 (.call 233 [(t 13), (ki .u32 1)]), mV 12 14, eX 15 12 0, eX 16 12 1, o 2 (.alloc [.s (⟨#[]⟩), .e (cs [.s]), .e Zc1]), on (.store 3 (t 2) (t 15)), mV 3 16])
 (.seq (.reg [o 18 (.load true 3 (t 1)), o 19 (.call 233 [(t 18), (ki .u32 2)]), mV 17 19, eX 20 17 0, eX 21 17 1, o 4 (.alloc [.s (⟨#[]⟩), .e (cs [.s]), .e Zc1]), on (.store 3 (t 4) (t 20)), mV 5 21])
 (.seq (.reg [o 23 (.load true 3 (t 1)), o 24 (.load true 3 (t 4)), o 25 (.call 237 [(t 23), (t 24)]), mV 22 25, eX 26 22 0, eX 27 22 1, o 6 (.alloc [.s (⟨#[]⟩), .e (cs [.s]), .e Zc1]), on (.store 3 (t 6) (t 26)), mV 7 27])
 (.seq (.reg [o 29 (.load true 3 (t 2)), o 30 (.load true 3 (t 4)), o 31 (.call 237 [(t 29), (t 30)]), mV 28 31, eX 32 28 0, eX 33 28 1, o 8 (.alloc [.s (⟨#[]⟩), .e (cs [.s]), .e Zc1]), on (.store 3 (t 8) (t 32)), mV 9 33])
 (.seq (.reg [mV 34 3, o 35 (.bin .eql (t 34) (k 0)), mV 36 35, og 37 36 true (.mv (t 5)), og 38 36 true (.bin .eql (t 37) (k 0)), o 39 (.pick (t 36) (t 38) (kb false)), mV 40 39, og 41 40 true (.mv (t 7)), og 42 40 true (.bin .eql (t 41) (k 0)), o 43 (.pick (t 40) (t 42) (kb false)), mV 44 43, og 45 44 true (.mv (t 9)), og 46 44 true (.bin .eql (t 45) (k 0)), o 47 (.pick (t 44) (t 46) (kb false)), mV 10 47])
 (.seq (.reg [mV 48 10, mV 49 48, og 50 49 true (.load true 3 (t 1)), og 51 49 true (.call 230 [(t 50)]), og 52 49 true (.bin .eql (t 51) (k 0)), o 53 (.pick (t 49) (t 52) (kb false)), mV 54 53, og 55 54 true (.fad 2 (t 2)), og 56 54 true (.load false 1 (t 55)), og 57 54 true (.len (t 56)), og 58 54 true (.bin .eql (t 57) (k 2)), o 59 (.pick (t 54) (t 58) (kb false)), mV 60 59, og 61 60 true (.fad 2 (t 2)), og 62 60 true (.load false 1 (t 61)), og 63 60 true (.iad 2 (t 62) (k 1)), og 64 60 true (.fad 0 (t 63)), og 65 60 true (.load false 1 (t 64)), og 66 60 true (.bin .eql (t 65) (k 4)), o 67 (.pick (t 60) (t 66) (kb false)), mV 68 67, og 69 68 true (.load true 3 (t 6)), og 70 68 true (.load true 3 (t 1)), og 71 68 true (.call 236 [(t 69), (t 70)]), o 72 (.pick (t 68) (t 71) (kb false)), mV 73 72, og 74 73 true (.fad 2 (t 8)), og 75 73 true (.load false 1 (t 74)), og 76 73 true (.len (t 75)), og 77 73 true (.bin .eql (t 76) (k 4)), o 78 (.pick (t 73) (t 77) (kb false)), mV 79 78, og 80 79 true (.fad 2 (t 8)), og 81 79 true (.load false 1 (t 80)), og 82 79 true (.iad 2 (t 81) (k 1)), og 83 79 true (.fad 1 (t 82)), og 84 79 true (.load false 1 (t 83)), og 85 79 true (.iad 3 (t 84) (k 1)), og 86 79 true (.fad 2 (t 85)), og 87 79 true (.load false 1 (t 86)), og 88 79 true (.bin .eql (t 87) (ks (⟨#[121]⟩))), o 89 (.pick (t 79) (t 88) (kb false)), mV 90 89, og 91 90 true (.fad 2 (t 8)), og 92 90 true (.load false 1 (t 91)), og 93 90 true (.iad 2 (t 92) (k 3)), og 94 90 true (.fad 0 (t 93)), og 95 90 true (.load false 1 (t 94)), og 96 90 true (.bin .eql (t 95) (k 4)), o 97 (.pick (t 90) (t 96) (kb false)), mV 0 97])
 (.fz [0] .ret)))))))))
def YhG : VFn := ⟨true, 98, [.t 0], Yn3⟩
noncomputable def YhH (lo : Lo) : FnE := ⟨229, true, ⟨[], [], [], (cs [])⟩, .b, [], (cs [.b]), (fun x => q44 lo  : Unit -> Option Bool)⟩
theorem YvG (lo : Lo) : ∀ x : Unit, evP (⟨pf, fs44 lo, [], 0⟩ : Tabs) YhG ⟨[], [], [], (cs [])⟩ (.b) (cs [.b]) x = q44 lo  := fun x => by kernel_rfl
theorem YvH {P : Program} {fm : FM} {lo : Lo} (hlo : LoOK lo) (hS : Sound P fm ⟨pf, fs44 lo, [], 0⟩) (hm : P.follows .mixedOrders = true) (htie : Ti P fm 229 YhG) : Sound P fm ⟨pf, YhH lo :: fs44 lo, [], 0⟩ :=
  Yaf hS hm [] (YhH lo) rfl YhG htie (by decide) rfl (Nat.le_of_ble_eq_true (by kernel_rfl)) (fun C hT => show LK C _ Yn3 from ⟨tv, ⟨tv, ⟨tv, ⟨tv, ⟨tv, ⟨tv, ⟨tv, ⟨tv, tv⟩⟩⟩⟩⟩⟩⟩⟩) (fun x y h => (YvG lo x).trans h)
noncomputable def fs45 (lo : Lo) : List FnE := YhH lo :: fs44 lo
def q45 (lo : Lo) (c0 : Int) : Option Bool :=
  bif (decide ((97 : Int) <= c0)) then (bif (decide (c0 <= (122 : Int))) then (some true) else (bif (decide ((65 : Int) <= c0)) then (bif (decide (c0 <= (90 : Int))) then (some true) else (some (decide (c0 = (95 : Int))))) else (some (decide (c0 = (95 : Int)))))) else (bif (decide ((65 : Int) <= c0)) then (bif (decide (c0 <= (90 : Int))) then (some true) else (some (decide (c0 = (95 : Int))))) else (some (decide (c0 = (95 : Int)))))
def Yn4 : VCode :=
 (.seq (.reg [o 2 (.mv (kb false))])
 (.seq (.reg [mV 3 0, o 4 (.bin .geq (t 3) (ki .u8 97)), mV 5 4, og 6 5 true (.mv (t 0)), og 7 5 true (.bin .leq (t 6) (ki .u8 122)), o 8 (.pick (t 5) (t 7) (kb false)), mV 9 8, og 10 9 false (.mv (t 0)), og 11 9 false (.bin .geq (t 10) (ki .u8 65)), og 12 9 false (.mv (t 11)), og 13 12 true (.mv (t 0)), og 14 12 true (.bin .leq (t 13) (ki .u8 90)), og 15 9 false (.pick (t 12) (t 14) (kb false)), o 16 (.pick (t 9) (kb true) (t 15)), mV 17 16, og 18 17 false (.mv (t 0)), og 19 17 false (.bin .eql (t 18) (ki .u8 95)), o 20 (.pick (t 17) (kb true) (t 19)), mV 2 20])
 (.fz [2] .ret)))
def YhI : VFn := ⟨true, 21, [.t 2], Yn4⟩
def YhJ (lo : Lo) : FnE := ⟨295, true, ⟨[0], [.i .u8], [], (cs [.i .u8])⟩, .b, [], (cs [.b]), (fun x => q45 lo x : Int -> Option Bool)⟩
theorem YvI (lo : Lo) : ∀ x : Int, evP (⟨pf, fs45 lo, [], 0⟩ : Tabs) YhI ⟨[0], [.i .u8], [], (cs [.i .u8])⟩ (.b) (cs [.b]) x = q45 lo x := fun x => by kernel_rfl
theorem YvJ {P : Program} {fm : FM} {lo : Lo} (hlo : LoOK lo) (hS : Sound P fm ⟨pf, fs45 lo, [], 0⟩) (hm : P.follows .mixedOrders = true) (htie : Ti P fm 295 YhI) : Sound P fm ⟨pf, YhJ lo :: fs45 lo, [], 0⟩ :=
  Yaf hS hm [] (YhJ lo) rfl YhI htie (by decide) rfl (Nat.le_of_ble_eq_true (by kernel_rfl)) (fun C hT => show LK C _ Yn4 from ⟨tv, ⟨tv, tv⟩⟩) (fun x y h => (YvI lo x).trans h)
noncomputable def fs46 (lo : Lo) : List FnE := YhJ lo :: fs45 lo
def q46_L3_b : VCode :=
 (.seq (.seq (.reg [mV 22 3, mV 23 0, o 24 (.lenS (t 23)), o 25 (.bin .lss (t 22) (t 24))])
 (.cond (t 25) .skip
 (.exit 0)))
 (.seq (.blk 1 (.seq (.reg [mV 28 0, mV 29 3, o 30 (.idx (t 28) (t 29)), o 31 (.call 295 [(t 30)]), o 32 (.not (t 31)), mV 33 32, og 34 33 true (.mv (t 0)), og 35 33 true (.mv (t 3)), og 36 33 true (.idx (t 34) (t 35)), og 37 33 true (.bin .lss (t 36) (ki .u8 48)), og 38 33 true (.mv (t 37)), og 39 38 false (.mv (t 0)), og 40 38 false (.mv (t 3)), og 41 38 false (.idx (t 39) (t 40)), og 42 38 false (.bin .gtr (t 41) (ki .u8 57)), og 43 33 true (.pick (t 38) (kb true) (t 42)), o 44 (.pick (t 33) (t 43) (kb false))])
 (.cond (t 44) (.seq (.reg [o 2 (.mv (kb false))])
 (.fz [2] .ret))
 .skip)))
 (.reg [mV 26 3, o 27 (.bin .add (t 26) (k 1)), mV 3 27])))
def Yn5 : Sg := ⟨[0, 3], [.s, .i .i64], [], (cs [.s, I])⟩
def Yn6 : List Out1 := [⟨.ret, ⟨[2], [.b], [], (cs [.b])⟩⟩, ⟨.exit 0, ⟨[], [], [], (cs [])⟩⟩]
def Yen (lo : Lo) : ByteArray × Int -> Option ((ByteArray × Int) ⊕ (Bool ⊕ Unit)) := fun x => match x with
  | (s0, i3) => bif (decide (i3 < (s0.size : Int))) then (chk (0 <= i3 /\ i3 < (s0.size : Int)) (Option.bind (q45 lo (byteI s0 i3)) fun y184 => bif (!y184) then (chk (0 <= i3 /\ i3 < (s0.size : Int)) (bif (decide ((byteI s0 i3) < (48 : Int))) then (some (.inr (.inl false))) else (chk (0 <= i3 /\ i3 < (s0.size : Int)) (bif (decide ((57 : Int) < (byteI s0 i3))) then (some (.inr (.inl false))) else (some (.inl (s0, (IntKind.wrap .i64 (i3 + (1 : Int)))))))))) else (some (.inl (s0, (IntKind.wrap .i64 (i3 + (1 : Int)))))))) else (some (.inr (.inr ())))
theorem YvK (lo : Lo) : ∀ x : ByteArray × Int, stepL (⟨pf, fs46 lo, [], 0⟩ : Tabs) [] Yn5 Yn6 q46_L3_b x = Yen lo x := fun x => by kernel_rfl
def YhK (lo : Lo) : ByteArray × Int -> Option (Bool ⊕ Unit) := lo.run (Yen lo)
def YhL (lo : Lo) : LpE := ⟨3, [], Yn5, Yn6, YhK lo⟩
theorem YvL {lo : Lo} (hlo : LoOK lo) (C : Ctx) (hT : TOK (⟨pf, fs46 lo, [], 0⟩ : Tabs) C) : LpSound (fun _ => False) [] 0 C (.loop q46_L3_b.er) (YhL lo) :=
  Yak hT frNo (show LK C _ q46_L3_b from ⟨⟨tv, ⟨tv, tv⟩⟩, ⟨⟨tv, ⟨⟨tv, tv⟩, tv⟩⟩, tv⟩⟩) (fun x y h => Yal (YvK lo) (hlo _ _ _ h))
def q46 (lo : Lo) (s0 : ByteArray) : Option Bool :=
  bif (decide ((s0.size : Int) = (0 : Int))) then (some false) else (bif (decide ((24 : Int) < (s0.size : Int))) then (some false) else (chk (0 <= (0 : Int) /\ (0 : Int) < (s0.size : Int)) (Option.bind (q45 lo (byteI s0 (0 : Int))) fun y183 => bif (!y183) then (some false) else (bif (decide (s0 = (ByteArray.mk #[110, 117, 108, 108]))) then (some false) else (Option.bind (YhK lo (s0, (0 : Int))) fun y185 => alt2 y185 (fun y186 => some y186) (fun y187 => some true))))))
def Yn7 : VCode :=
 (.seq (.reg [o 2 (.mv (kb false))])
 (.seq (.seq (.reg [mV 4 0, o 5 (.lenS (t 4)), o 6 (.bin .eql (t 5) (k 0)), mV 7 6, og 8 7 false (.mv (t 0)), og 9 7 false (.lenS (t 8)), og 10 7 false (.bin .gtr (t 9) (k 24)), o 11 (.pick (t 7) (kb true) (t 10)), mV 12 11, og 13 12 false (.mv (t 0)), og 14 12 false (.idx (t 13) (k 0)), og 15 12 false (.call 295 [(t 14)]), og 16 12 false (.not (t 15)), o 17 (.pick (t 12) (kb true) (t 16)), mV 18 17, og 19 18 false (.mv (t 0)), og 20 18 false (.bin .eql (t 19) (ks (⟨#[110, 117, 108, 108]⟩))), o 21 (.pick (t 18) (kb true) (t 20))])
 (.cond (t 21) (.seq (.reg [o 2 (.mv (kb false))])
 (.fz [2] .ret))
 .skip))
 (.seq (.seq (.reg [o 3 (.mv (k 0))])
 (.blk 0 (.loop 3 q46_L3_b)))
 (.seq (.reg [o 2 (.mv (kb true))])
 (.fz [2] .ret)))))
def YhM : VFn := ⟨true, 45, [.t 2], Yn7⟩
def YhN (lo : Lo) : FnE := ⟨258, true, ⟨[0], [.s], [], (cs [.s])⟩, .b, [], (cs [.b]), (fun x => q46 lo x : ByteArray -> Option Bool)⟩
theorem YvM (lo : Lo) : ∀ x : ByteArray, evP (⟨pf, fs46 lo, [YhL lo], 0⟩ : Tabs) YhM ⟨[0], [.s], [], (cs [.s])⟩ (.b) (cs [.b]) x = q46 lo x := fun x => by kernel_rfl
theorem YvN {P : Program} {fm : FM} {lo : Lo} (hlo : LoOK lo) (hS : Sound P fm ⟨pf, fs46 lo, [], 0⟩) (hm : P.follows .mixedOrders = true) (htie : Ti P fm 258 YhM) : Sound P fm ⟨pf, YhN lo :: fs46 lo, [], 0⟩ :=
  Yaf hS hm [YhL lo] (YhN lo) rfl YhM htie (by decide) rfl (Nat.le_of_ble_eq_true (by kernel_rfl)) (fun C hT => show LK C _ Yn7 from ⟨tv, ⟨⟨tv, ⟨⟨tv, tv⟩, tv⟩⟩, ⟨⟨tv, (lsGet (by kernel_rfl) (YvL hlo C (Yai hT)))⟩, ⟨tv, tv⟩⟩⟩⟩) (fun x y h => (YvM lo x).trans h)
noncomputable def fs47 (lo : Lo) : List FnE := YhN lo :: fs46 lo
def q47_L3_b : VCode :=
 (.seq (.seq (.reg [mV 6 5, mV 7 0, lN 8 7, o 9 (.bin .lss (t 6) (t 8))])
 (.cond (t 9) .skip
 (.exit 0)))
 (.seq (.blk 1 (.seq (.reg [mV 12 0, mV 13 5, o 14 (.iad 1 (t 12) (t 13)), lD 15 14, mV 16 1, o 17 (.bin .eql (t 15) (t 16))])
 (.cond (t 17) (.seq (.reg [mV 18 5, mV 4 18])
 (.fz [4] .ret))
 .skip)))
 (.reg [mV 10 5, o 11 (.bin .add (t 10) (k 1)), mV 5 11])))
def Yn8 : Sg := ⟨[0, 1, 5], [.l (cs [.s]), .s, .i .i64], [], (cs [.l (cs [.s]), .s, I])⟩
def Yn9 : List Out1 := [⟨.ret, ⟨[4], [.i .i64], [], (cs [I])⟩⟩, ⟨.exit 0, ⟨[], [], [], (cs [])⟩⟩]
def Yeo (lo : Lo) : Zt2 × ByteArray × Int -> Option ((Zt2 × ByteArray × Int) ⊕ (Int ⊕ Unit)) := fun x => match x with
  | (l0, name1, i5) => bif (decide (i5 < (l0.length : Int))) then (chk (0 <= i5 /\ i5 < (l0.length : Int)) (bif (decide ((l0.getD i5.toNat (ByteArray.mk #[])) = name1)) then (some (.inr (.inl i5))) else (some (.inl (l0, name1, (IntKind.wrap .i64 (i5 + (1 : Int)))))))) else (some (.inr (.inr ())))
theorem YvO (lo : Lo) : ∀ x : Zt2 × ByteArray × Int, stepL (⟨pf, fs47 lo, [], 0⟩ : Tabs) [] Yn8 Yn9 q47_L3_b x = Yeo lo x := fun x => by kernel_rfl
def YhO (lo : Lo) : Zt2 × ByteArray × Int -> Option (Int ⊕ Unit) := lo.run (Yeo lo)
def YhP (lo : Lo) : LpE := ⟨3, [], Yn8, Yn9, YhO lo⟩
theorem YvP {lo : Lo} (hlo : LoOK lo) (C : Ctx) (hT : TOK (⟨pf, fs47 lo, [], 0⟩ : Tabs) C) : LpSound (fun _ => False) [] 0 C (.loop q47_L3_b.er) (YhP lo) :=
  Yak hT frNo (show LK C _ q47_L3_b from ⟨⟨tv, ⟨tv, tv⟩⟩, ⟨⟨tv, ⟨⟨tv, tv⟩, tv⟩⟩, tv⟩⟩) (fun x y h => Yal (YvO lo) (hlo _ _ _ h))
def q47 (lo : Lo) (l0 : List ByteArray) (name1 : ByteArray) : Option Int :=
  Option.bind (YhO lo (l0, name1, (0 : Int))) fun y190 => alt2 y190 (fun y191 => some y191) (fun y192 => some (-1 : Int))
def Yoa : VCode :=
 (.seq (.reg [o 4 (.mv (k 0))])
 (.seq (.seq (.reg [o 5 (.mv (k 0))])
 (.blk 0 (.loop 3 q47_L3_b)))
 (.seq (.reg [o 4 (.mv (k (-1)))])
 (.fz [4] .ret))))
def YhQ : VFn := ⟨true, 19, [.t 4], Yoa⟩
def YhR (lo : Lo) : FnE := ⟨272, true, ⟨[0, 1], [.l (cs [.s]), .s], [], (cs [.l (cs [.s]), .s])⟩, .i .i64, [], (cs [I]), (fun x => q47 lo x.1 x.2 : Zt2 × ByteArray -> Option Int)⟩
theorem YvQ (lo : Lo) : ∀ x : Zt2 × ByteArray, evP (⟨pf, fs47 lo, [YhP lo], 0⟩ : Tabs) YhQ ⟨[0, 1], [.l (cs [.s]), .s], [], (cs [.l (cs [.s]), .s])⟩ (.i .i64) (cs [I]) x = q47 lo x.1 x.2 := fun x => by kernel_rfl
theorem YvR {P : Program} {fm : FM} {lo : Lo} (hlo : LoOK lo) (hS : Sound P fm ⟨pf, fs47 lo, [], 0⟩) (hm : P.follows .mixedOrders = true) (htie : Ti P fm 272 YhQ) : Sound P fm ⟨pf, YhR lo :: fs47 lo, [], 0⟩ :=
  Yaf hS hm [YhP lo] (YhR lo) rfl YhQ htie (by decide) rfl (Nat.le_of_ble_eq_true (by kernel_rfl)) (fun C hT => show LK C _ Yoa from ⟨tv, ⟨⟨tv, (lsGet (by kernel_rfl) (YvP hlo C (Yai hT)))⟩, ⟨tv, tv⟩⟩⟩) (fun x y h => (YvQ lo x).trans h)
noncomputable def fs48 (lo : Lo) : List FnE := YhR lo :: fs47 lo
def q48_L3_b : VCode :=
 (.seq (.seq (.reg [mV 4 3, mV 5 0, lN 6 5, o 7 (.bin .lss (t 4) (t 6))])
 (.cond (t 7) .skip
 (.exit 0)))
 (.seq (.blk 1 (.seq (.reg [mV 10 0, mV 11 3, o 12 (.iad 1 (t 10) (t 11)), lD 13 12, o 14 (.call 258 [(t 13)]), o 15 (.not (t 14)), mV 16 15, og 17 16 false (.mv (t 0)), og 18 16 false (.mv (t 3)), og 19 16 false (.slcR 1 (t 17) none (some (t 18))), og 20 16 false (.mv (t 0)), og 21 16 false (.mv (t 3)), og 22 16 false (.iad 1 (t 20) (t 21)), og 23 16 false (.load false 1 (t 22)), og 24 16 false (.call 272 [(t 19), (t 23)]), og 25 16 false (.bin .geq (t 24) (k 0)), o 26 (.pick (t 16) (kb true) (t 25))])
 (.cond (t 26) (.seq (.reg [o 2 (.mv (kb false))])
 (.fz [2] .ret))
 .skip)))
 (.reg [mV 8 3, o 9 (.bin .add (t 8) (k 1)), mV 3 9])))
def Yob : Sg := ⟨[0, 3], [.l (cs [.s]), .i .i64], [], (cs [.l (cs [.s]), I])⟩
def Yoc : List Out1 := [⟨.ret, ⟨[2], [.b], [], (cs [.b])⟩⟩, ⟨.exit 0, ⟨[], [], [], (cs [])⟩⟩]
def Yep (lo : Lo) : Zt2 × Int -> Option ((Zt2 × Int) ⊕ (Bool ⊕ Unit)) := fun x => match x with
  | (l0, i3) => bif (decide (i3 < (l0.length : Int))) then (chk (0 <= i3 /\ i3 < (l0.length : Int)) (Option.bind (q46 lo (l0.getD i3.toNat (ByteArray.mk #[]))) fun y189 => bif (!y189) then (some (.inr (.inl false))) else (chk (0 <= (0 : Int) /\ (0 : Int) <= i3 /\ i3 <= (l0.length : Int)) (chk (0 <= i3 /\ i3 < (l0.length : Int)) (Option.bind (q47 lo ((l0.take i3.toNat).drop 0) (l0.getD i3.toNat (ByteArray.mk #[]))) fun y193 => bif (decide ((0 : Int) <= y193)) then (some (.inr (.inl false))) else (some (.inl (l0, (IntKind.wrap .i64 (i3 + (1 : Int))))))))))) else (some (.inr (.inr ())))
theorem YvS (lo : Lo) : ∀ x : Zt2 × Int, stepL (⟨pf, fs48 lo, [], 0⟩ : Tabs) [] Yob Yoc q48_L3_b x = Yep lo x := fun x => by kernel_rfl
def YhS (lo : Lo) : Zt2 × Int -> Option (Bool ⊕ Unit) := lo.run (Yep lo)
def YhT (lo : Lo) : LpE := ⟨3, [], Yob, Yoc, YhS lo⟩
theorem YvT {lo : Lo} (hlo : LoOK lo) (C : Ctx) (hT : TOK (⟨pf, fs48 lo, [], 0⟩ : Tabs) C) : LpSound (fun _ => False) [] 0 C (.loop q48_L3_b.er) (YhT lo) :=
  Yak hT frNo (show LK C _ q48_L3_b from ⟨⟨tv, ⟨tv, tv⟩⟩, ⟨⟨tv, ⟨⟨tv, tv⟩, tv⟩⟩, tv⟩⟩) (fun x y h => Yal (YvS lo) (hlo _ _ _ h))
def q48 (lo : Lo) (l0 : List ByteArray) : Option Bool :=
  Option.bind (YhS lo (l0, (0 : Int))) fun y194 => alt2 y194 (fun y195 => some y195) (fun y196 => some true)
def Yod : VCode :=
 (.seq (.reg [o 2 (.mv (kb false))])
 (.seq (.seq (.reg [o 3 (.mv (k 0))])
 (.blk 0 (.loop 3 q48_L3_b)))
 (.seq (.reg [o 2 (.mv (kb true))])
 (.fz [2] .ret))))
def YhU : VFn := ⟨true, 27, [.t 2], Yod⟩
def YhV (lo : Lo) : FnE := ⟨259, true, ⟨[0], [.l (cs [.s])], [], Zc9⟩, .b, [], (cs [.b]), (fun x => q48 lo x : Zt2 -> Option Bool)⟩
theorem YvU (lo : Lo) : ∀ x : Zt2, evP (⟨pf, fs48 lo, [YhT lo], 0⟩ : Tabs) YhU ⟨[0], [.l (cs [.s])], [], Zc9⟩ (.b) (cs [.b]) x = q48 lo x := fun x => by kernel_rfl
theorem YvV {P : Program} {fm : FM} {lo : Lo} (hlo : LoOK lo) (hS : Sound P fm ⟨pf, fs48 lo, [], 0⟩) (hm : P.follows .mixedOrders = true) (htie : Ti P fm 259 YhU) : Sound P fm ⟨pf, YhV lo :: fs48 lo, [], 0⟩ :=
  Yaf hS hm [YhT lo] (YhV lo) rfl YhU htie (by decide) rfl (Nat.le_of_ble_eq_true (by kernel_rfl)) (fun C hT => show LK C _ Yod from ⟨tv, ⟨⟨tv, (lsGet (by kernel_rfl) (YvT hlo C (Yai hT)))⟩, ⟨tv, tv⟩⟩⟩) (fun x y h => (YvU lo x).trans h)
noncomputable def fs49 (lo : Lo) : List FnE := YhV lo :: fs48 lo
def q49 (lo : Lo) (v0_0 : Int) (v0_1 : Int) (v0_2 : ByteArray) : Option Bool :=
  bif (decide (v0_0 = (0 : Int))) then (bif (decide (v0_1 = (0 : Int))) then (some (decide (v0_2 = (ByteArray.mk #[])))) else (some false)) else (bif (decide (v0_0 = (1 : Int))) then (some (decide (v0_2 = (ByteArray.mk #[])))) else (bif (decide (v0_0 = (2 : Int))) then (bif (decide (v0_1 = (0 : Int))) then (some (decide ((v0_2.size : Int) <= (200 : Int)))) else (some false)) else (bif (decide (v0_0 = (3 : Int))) then (bif (decide ((1 : Int) <= v0_1)) then (some (decide (v0_2 = (ByteArray.mk #[])))) else (some false)) else (some false))))
def Yoe : VCode :=
 (.seq (.reg [o 1 (.box (t 0)), o 2 (.mv (kb false))])
 (.seq (.seq (.reg [fD 3 0 1, lD 4 3])
 (.blk 0 (.seq (.reg [o 6 (.bin .eql (t 4) (k 0)), mV 5 6])
 (.cond (t 5) (.seq (.reg [fD 7 1 1, lD 8 7, o 9 (.bin .eql (t 8) (k 0)), mV 10 9, og 11 10 true (.fad 2 (t 1)), og 12 10 true (.load false 1 (t 11)), og 13 10 true (.bin .eql (t 12) (ks (⟨#[]⟩))), o 14 (.pick (t 10) (t 13) (kb false)), mV 2 14])
 (.fz [2] .ret))
 (.seq (.reg [o 16 (.bin .eql (t 4) (k 1)), mV 15 16])
 (.cond (t 15) (.seq (.reg [fD 17 2 1, lD 18 17, o 19 (.bin .eql (t 18) (ks (⟨#[]⟩))), mV 2 19])
 (.fz [2] .ret))
 (.seq (.reg [o 21 (.bin .eql (t 4) (k 2)), mV 20 21])
 (.cond (t 20) (.seq (.reg [fD 22 1 1, lD 23 22, o 24 (.bin .eql (t 23) (k 0)), mV 25 24, og 26 25 true (.fad 2 (t 1)), og 27 25 true (.load false 1 (t 26)), og 28 25 true (.lenS (t 27)), og 29 25 true (.bin .leq (t 28) (k 200)), o 30 (.pick (t 25) (t 29) (kb false)), mV 2 30])
 (.fz [2] .ret))
 .skip))))))))
 (.seq (.reg [fD 31 0 1, lD 32 31, o 33 (.bin .eql (t 32) (k 3)), mV 34 33, og 35 34 true (.fad 1 (t 1)), og 36 34 true (.load false 1 (t 35)), og 37 34 true (.bin .geq (t 36) (k 1)), o 38 (.pick (t 34) (t 37) (kb false)), mV 39 38, og 40 39 true (.fad 2 (t 1)), og 41 39 true (.load false 1 (t 40)), og 42 39 true (.bin .eql (t 41) (ks (⟨#[]⟩))), o 43 (.pick (t 39) (t 42) (kb false)), mV 2 43])
 (.fz [2] .ret))))
def YhW : VFn := ⟨true, 44, [.t 2], Yoe⟩
def YhX (lo : Lo) : FnE := ⟨284, true, ⟨[0], [.ag [.i .i64, .i .i64, .s]], [], Zc4⟩, .b, [], (cs [.b]), (fun x => q49 lo x.1 x.2.1 x.2.2 : Int × Int × ByteArray -> Option Bool)⟩
theorem YvW (lo : Lo) : ∀ x : Int × Int × ByteArray, evP (⟨pf, fs49 lo, [], 0⟩ : Tabs) YhW ⟨[0], [.ag [.i .i64, .i .i64, .s]], [], Zc4⟩ (.b) (cs [.b]) x = q49 lo x.1 x.2.1 x.2.2 := fun x => by kernel_rfl
theorem YvX {P : Program} {fm : FM} {lo : Lo} (hlo : LoOK lo) (hS : Sound P fm ⟨pf, fs49 lo, [], 0⟩) (hm : P.follows .mixedOrders = true) (htie : Ti P fm 284 YhW) : Sound P fm ⟨pf, YhX lo :: fs49 lo, [], 0⟩ :=
  Yaf hS hm [] (YhX lo) rfl YhW htie (by decide) rfl (Nat.le_of_ble_eq_true (by kernel_rfl)) (fun C hT => show LK C _ Yoe from ⟨tv, ⟨⟨tv, ⟨tv, ⟨⟨tv, tv⟩, ⟨tv, ⟨⟨tv, tv⟩, ⟨tv, ⟨⟨tv, tv⟩, tv⟩⟩⟩⟩⟩⟩⟩, ⟨tv, tv⟩⟩⟩) (fun x y h => (YvW lo x).trans h)
noncomputable def fs50 (lo : Lo) : List FnE := YhX lo :: fs49 lo
def q50_L3_b : VCode :=
 (.seq (.seq (.reg [mV 4 3, mV 5 0, lN 6 5, o 7 (.bin .lss (t 4) (t 6))])
 (.cond (t 7) .skip
 (.exit 0)))
 (.seq (.blk 1 (.seq (.reg [mV 10 0, mV 11 3, o 12 (.iad 3 (t 10) (t 11)), o 13 (.load true 3 (t 12)), o 14 (.call 284 [(t 13)]), o 15 (.not (t 14))])
 (.cond (t 15) (.seq (.reg [o 2 (.mv (kb false))])
 (.fz [2] .ret))
 .skip)))
 (.reg [mV 8 3, o 9 (.bin .add (t 8) (k 1)), mV 3 9])))
def Yof : Sg := ⟨[0, 3], [.l Zc4, .i .i64], [], (cs [.l Zc4, I])⟩
def Yog : List Out1 := [⟨.ret, ⟨[2], [.b], [], (cs [.b])⟩⟩, ⟨.exit 0, ⟨[], [], [], (cs [])⟩⟩]
def Yeq (lo : Lo) : Zt0 × Int -> Option ((Zt0 × Int) ⊕ (Bool ⊕ Unit)) := fun x => match x with
  | (l0, i3) => bif (decide (i3 < (l0.length : Int))) then (chk (0 <= i3 /\ i3 < (l0.length : Int)) (Option.bind (q49 lo ((l0.getD i3.toNat ((0 : Int), (0 : Int), (ByteArray.mk #[]))).1) ((l0.getD i3.toNat ((0 : Int), (0 : Int), (ByteArray.mk #[]))).2.1) ((l0.getD i3.toNat ((0 : Int), (0 : Int), (ByteArray.mk #[]))).2.2)) fun y198 => bif (!y198) then (some (.inr (.inl false))) else (some (.inl (l0, (IntKind.wrap .i64 (i3 + (1 : Int)))))))) else (some (.inr (.inr ())))
theorem YvY (lo : Lo) : ∀ x : Zt0 × Int, stepL (⟨pf, fs50 lo, [], 0⟩ : Tabs) [] Yof Yog q50_L3_b x = Yeq lo x := fun x => by kernel_rfl
def YhY (lo : Lo) : Zt0 × Int -> Option (Bool ⊕ Unit) := lo.run (Yeq lo)
def YhZ (lo : Lo) : LpE := ⟨3, [], Yof, Yog, YhY lo⟩
theorem YvZ {lo : Lo} (hlo : LoOK lo) (C : Ctx) (hT : TOK (⟨pf, fs50 lo, [], 0⟩ : Tabs) C) : LpSound (fun _ => False) [] 0 C (.loop q50_L3_b.er) (YhZ lo) :=
  Yak hT frNo (show LK C _ q50_L3_b from ⟨⟨tv, ⟨tv, tv⟩⟩, ⟨⟨tv, ⟨⟨tv, tv⟩, tv⟩⟩, tv⟩⟩) (fun x y h => Yal (YvY lo) (hlo _ _ _ h))
def q50 (lo : Lo) (l0 : List (Int × Int × ByteArray)) : Option Bool :=
  Option.bind (YhY lo (l0, (0 : Int))) fun y199 => alt2 y199 (fun y200 => some y200) (fun y201 => some true)
def Yoh : VCode :=
 (.seq (.reg [o 2 (.mv (kb false))])
 (.seq (.seq (.reg [o 3 (.mv (k 0))])
 (.blk 0 (.loop 3 q50_L3_b)))
 (.seq (.reg [o 2 (.mv (kb true))])
 (.fz [2] .ret))))
def Yh0 : VFn := ⟨true, 16, [.t 2], Yoh⟩
def Yh1 (lo : Lo) : FnE := ⟨260, true, ⟨[0], [.l Zc4], [], Zc22⟩, .b, [], (cs [.b]), (fun x => q50 lo x : Zt0 -> Option Bool)⟩
theorem Yv0 (lo : Lo) : ∀ x : Zt0, evP (⟨pf, fs50 lo, [YhZ lo], 0⟩ : Tabs) Yh0 ⟨[0], [.l Zc4], [], Zc22⟩ (.b) (cs [.b]) x = q50 lo x := fun x => by kernel_rfl
theorem Yv1 {P : Program} {fm : FM} {lo : Lo} (hlo : LoOK lo) (hS : Sound P fm ⟨pf, fs50 lo, [], 0⟩) (hm : P.follows .mixedOrders = true) (htie : Ti P fm 260 Yh0) : Sound P fm ⟨pf, Yh1 lo :: fs50 lo, [], 0⟩ :=
  Yaf hS hm [YhZ lo] (Yh1 lo) rfl Yh0 htie (by decide) rfl (Nat.le_of_ble_eq_true (by kernel_rfl)) (fun C hT => show LK C _ Yoh from ⟨tv, ⟨⟨tv, (lsGet (by kernel_rfl) (YvZ hlo C (Yai hT)))⟩, ⟨tv, tv⟩⟩⟩) (fun x y h => (Yv0 lo x).trans h)
noncomputable def fs51 (lo : Lo) : List FnE := Yh1 lo :: fs50 lo
def q51_L3_b : VCode :=
 (.seq (.seq (.reg [mV 24 4, fD 25 2 1, lD 26 25, lN 27 26, o 28 (.bin .lss (t 24) (t 27))])
 (.cond (t 28) .skip
 (.exit 0)))
 (.seq (.blk 1 (.seq (.reg [fD 31 2 1, lD 32 31, mV 33 4, o 34 (.iad 2 (t 32) (t 33)), o 35 (.load true 2 (t 34)), o 5 (.alloc [.i .i64 0, .e Zc4]), on (.store 2 (t 5) (t 35))])
 (.seq (.seq (.reg [fD 36 0 5, lD 37 36, mV 38 3, o 39 (.bin .leq (t 37) (t 38))])
 (.cond (t 39) (.seq (.reg [o 2 (.mv (k 1))])
 (.fz [2] .ret))
 .skip))
 (.seq (.reg [fD 40 0 5, lD 41 40, mV 3 41])
 (.seq (.seq (.reg [fD 42 1 5, lD 43 42, lN 44 43, fD 45 1 1, lD 46 45, lN 47 46, o 48 (.bin .neq (t 44) (t 47))])
 (.cond (t 48) (.seq (.reg [o 2 (.mv (k 6))])
 (.fz [2] .ret))
 .skip))
 (.seq (.reg [fD 49 1 5, lD 50 49, o 51 (.call 260 [(t 50)]), o 52 (.not (t 51))])
 (.cond (t 52) (.seq (.reg [o 2 (.mv (k 1))])
 (.fz [2] .ret))
 .skip)))))))
 (.reg [mV 29 4, o 30 (.bin .add (t 29) (k 1)), mV 4 30])))
def Yoi : Sg := ⟨[1, 3, 4], [.ptr 0 0 0, .i .i64, .i .i64], [.st [.s, .l (cs [.s]), .l Zc1]], (cs [I, I, .s, .l (cs [.s]), .l Zc1])⟩
def Yoj : List Out1 := [⟨.ret, ⟨[2], [.i .i64], [], (cs [I])⟩⟩, ⟨.exit 0, ⟨[], [], [], (cs [])⟩⟩]
def Yer (lo : Lo) : Zp40 -> Option (Zp40 ⊕ (Int ⊕ Unit)) := fun x => match x with
  | (before3, i4, t1_0, t1_1, t1_2) => bif (decide (i4 < (t1_2.length : Int))) then (chk (0 <= i4 /\ i4 < (t1_2.length : Int)) (bif (decide ((t1_2.getD i4.toNat ((0 : Int), [])).1 <= before3)) then (some (.inr (.inl (1 : Int)))) else (bif (!decide ((((t1_2.getD i4.toNat ((0 : Int), [])).2).length : Int) = (t1_1.length : Int))) then (some (.inr (.inl (6 : Int)))) else (Option.bind (q50 lo ((t1_2.getD i4.toNat ((0 : Int), [])).2)) fun y202 => bif (!y202) then (some (.inr (.inl (1 : Int)))) else (some (.inl ((t1_2.getD i4.toNat ((0 : Int), [])).1, (IntKind.wrap .i64 (i4 + (1 : Int))), t1_0, t1_1, t1_2))))))) else (some (.inr (.inr ())))
theorem Yv2 (lo : Lo) : ∀ x : Zp40, stepL (⟨pf, fs51 lo, [], 0⟩ : Tabs) [] Yoi Yoj q51_L3_b x = Yer lo x := fun x => by kernel_rfl
def Yh2 (lo : Lo) : Zp40 -> Option (Int ⊕ Unit) := lo.run (Yer lo)
def Yh3 (lo : Lo) : LpE := ⟨3, [], Yoi, Yoj, Yh2 lo⟩
theorem Yv3 {lo : Lo} (hlo : LoOK lo) (C : Ctx) (hT : TOK (⟨pf, fs51 lo, [], 0⟩ : Tabs) C) : LpSound (fun _ => False) [] 0 C (.loop q51_L3_b.er) (Yh3 lo) :=
  Yak hT frNo (show LK C _ q51_L3_b from ⟨⟨tv, ⟨tv, tv⟩⟩, ⟨⟨tv, ⟨⟨tv, ⟨⟨tv, tv⟩, tv⟩⟩, ⟨tv, ⟨⟨tv, ⟨⟨tv, tv⟩, tv⟩⟩, ⟨tv, ⟨⟨tv, tv⟩, tv⟩⟩⟩⟩⟩⟩, tv⟩⟩) (fun x y h => Yal (Yv2 lo) (hlo _ _ _ h))
def q51 (lo : Lo) (t0_0 : ByteArray) (t0_1 : List ByteArray) (t0_2 : List (Int × Zt0)) : Option Int :=
  Option.bind (q46 lo t0_0) fun y188 => bif (!y188) then (some (1 : Int)) else (bif (decide ((16 : Int) < (t0_1.length : Int))) then (some (3 : Int)) else (bif (decide ((1000 : Int) < (t0_2.length : Int))) then (some (3 : Int)) else (Option.bind (q48 lo t0_1) fun y197 => bif (!y197) then (some (1 : Int)) else (Option.bind (Yh2 lo ((0 : Int), (0 : Int), t0_0, t0_1, t0_2)) fun y203 => alt2 y203 (fun y204 => some y204) (fun y205 => some (0 : Int))))))
def Yok : VCode :=
 (.seq (.reg [o 1 (.box (t 0)), o 2 (.mv (k 0))])
 (.seq (.seq (.reg [fD 6 0 1, lD 7 6, o 8 (.call 258 [(t 7)]), o 9 (.not (t 8))])
 (.cond (t 9) (.seq (.reg [o 2 (.mv (k 1))])
 (.fz [2] .ret))
 .skip))
 (.seq (.seq (.reg [fD 10 1 1, lD 11 10, lN 12 11, o 13 (.bin .gtr (t 12) (k 16)), mV 14 13, og 15 14 false (.fad 2 (t 1)), og 16 14 false (.load false 1 (t 15)), og 17 14 false (.len (t 16)), og 18 14 false (.bin .gtr (t 17) (k 1000)), o 19 (.pick (t 14) (kb true) (t 18))])
 (.cond (t 19) (.seq (.reg [o 2 (.mv (k 3))])
 (.fz [2] .ret))
 .skip))
 (.seq (.seq (.reg [fD 20 1 1, lD 21 20, o 22 (.call 259 [(t 21)]), o 23 (.not (t 22))])
 (.cond (t 23) (.seq (.reg [o 2 (.mv (k 1))])
 (.fz [2] .ret))
 .skip))
 (.seq (.reg [o 3 (.mv (k 0))])
 (.seq (.seq (.reg [o 4 (.mv (k 0))])
 (.blk 0 (.loop 3 q51_L3_b)))
 (.seq (.reg [o 2 (.mv (k 0))])
 (.fz [2] .ret))))))))
def Yh4 : VFn := ⟨true, 53, [.t 2], Yok⟩
def Yh5 (lo : Lo) : FnE := ⟨231, true, ⟨[0], [.ag [.s, .l (cs [.s]), .l Zc1]], [], Zc10⟩, .i .i64, [], (cs [I]), (fun x => q51 lo x.1 x.2.1 x.2.2 : ByteArray × Zt2 × Zt3 -> Option Int)⟩
theorem Yv4 (lo : Lo) : ∀ x : ByteArray × Zt2 × Zt3, evP (⟨pf, fs51 lo, [Yh3 lo], 0⟩ : Tabs) Yh4 ⟨[0], [.ag [.s, .l (cs [.s]), .l Zc1]], [], Zc10⟩ (.i .i64) (cs [I]) x = q51 lo x.1 x.2.1 x.2.2 := fun x => by kernel_rfl
theorem Yv5 {P : Program} {fm : FM} {lo : Lo} (hlo : LoOK lo) (hS : Sound P fm ⟨pf, fs51 lo, [], 0⟩) (hm : P.follows .mixedOrders = true) (htie : Ti P fm 231 Yh4) : Sound P fm ⟨pf, Yh5 lo :: fs51 lo, [], 0⟩ :=
  Yaf hS hm [Yh3 lo] (Yh5 lo) rfl Yh4 htie (by decide) rfl (Nat.le_of_ble_eq_true (by kernel_rfl)) (fun C hT => show LK C _ Yok from ⟨tv, ⟨⟨tv, ⟨⟨tv, tv⟩, tv⟩⟩, ⟨⟨tv, ⟨⟨tv, tv⟩, tv⟩⟩, ⟨⟨tv, ⟨⟨tv, tv⟩, tv⟩⟩, ⟨tv, ⟨⟨tv, (lsGet (by kernel_rfl) (Yv3 hlo C (Yai hT)))⟩, ⟨tv, tv⟩⟩⟩⟩⟩⟩⟩) (fun x y h => (Yv4 lo x).trans h)
noncomputable def fs52 (lo : Lo) : List FnE := Yh5 lo :: fs51 lo
noncomputable def fs53 (lo : Lo) : List FnE := fs52 lo
end Go.Abs.G03
namespace Go.Abs.G03
open Go Go.Abs
set_option maxRecDepth 100000
set_option maxHeartbeats 1000000
def q53 (lo : Lo) (t0_0 : ByteArray) (t0_1 : List ByteArray) (t0_2 : List (Int × Zt0)) : Option Bool :=
  bif (decide ((t0_2.length : Int) <= (12 : Int))) then (some (decide ((t0_1.length : Int) <= (20 : Int)))) else (some false)
def Yol : VCode :=
 (.seq (.reg [o 1 (.box (t 0)), o 2 (.mv (kb false))])
 (.seq (.reg [fD 3 2 1, lD 4 3, lN 5 4, o 6 (.bin .leq (t 5) (k 12)), mV 7 6, og 8 7 true (.fad 1 (t 1)), og 9 7 true (.load false 1 (t 8)), og 10 7 true (.len (t 9)), og 11 7 true (.bin .leq (t 10) (k 20)), o 12 (.pick (t 7) (t 11) (kb false)), mV 2 12])
 (.fz [2] .ret)))
def Yh6 : VFn := ⟨true, 13, [.t 2], Yol⟩
def Yh7 (lo : Lo) : FnE := ⟨232, true, ⟨[0], [.ag [.s, .l (cs [.s]), .l Zc1]], [], Zc10⟩, .b, [], (cs [.b]), (fun x => q53 lo x.1 x.2.1 x.2.2 : ByteArray × Zt2 × Zt3 -> Option Bool)⟩
theorem Yv6 (lo : Lo) : ∀ x : ByteArray × Zt2 × Zt3, evP (⟨pf, fs53 lo, [], 0⟩ : Tabs) Yh6 ⟨[0], [.ag [.s, .l (cs [.s]), .l Zc1]], [], Zc10⟩ (.b) (cs [.b]) x = q53 lo x.1 x.2.1 x.2.2 := fun x => by kernel_rfl
theorem Yv7 {P : Program} {fm : FM} {lo : Lo} (hlo : LoOK lo) (hS : Sound P fm ⟨pf, fs53 lo, [], 0⟩) (hm : P.follows .mixedOrders = true) (htie : Ti P fm 232 Yh6) : Sound P fm ⟨pf, Yh7 lo :: fs53 lo, [], 0⟩ :=
  Yaf hS hm [] (Yh7 lo) rfl Yh6 htie (by decide) rfl (Nat.le_of_ble_eq_true (by kernel_rfl)) (fun C hT => show LK C _ Yol from ⟨tv, ⟨tv, tv⟩⟩) (fun x y h => (Yv6 lo x).trans h)
noncomputable def fs54 (lo : Lo) : List FnE := Yh7 lo :: fs53 lo
def q54_L3_b : VCode :=
 (.seq (.seq (.reg [mV 5 4, mV 6 0, o 7 (.bin .lss (t 5) (t 6)), mV 8 7, og 9 8 true (.mv (t 4)), og 10 8 true (.bin .lss (t 9) (k 32)), o 11 (.pick (t 8) (t 10) (kb false))])
 (.cond (t 11) .skip
 (.exit 0)))
 (.seq (.blk 1 (.reg [mV 14 3, mV 15 4, o 16 (.bin .shl (ki .u32 1) (t 15)), o 17 (.bin .or (t 14) (t 16)), mV 3 17]))
 (.reg [mV 12 4, o 13 (.bin .add (t 12) (k 1)), mV 4 13])))
def Yom : Sg := ⟨[0, 3, 4], [.i .i64, .i .u32, .i .i64], [], (cs [I, .i .u32, I])⟩
def Yon : List Out1 := [⟨.exit 0, ⟨[3], [.i .u32], [], (cs [.i .u32])⟩⟩]
def Yes (lo : Lo) : Int × Int × Int -> Option ((Int × Int × Int) ⊕ Int) := fun x => match x with
  | (n0, s3, i4) => bif (decide (i4 < n0)) then (bif (decide (i4 < (32 : Int))) then (chk (0 <= i4) (some (.inl (n0, (bits .or .u32 s3 (IntKind.wrap .u32 ((1 : Int) * 2 ^ (min i4.toNat (IntKind.bits .u32))))), (IntKind.wrap .i64 (i4 + (1 : Int))))))) else (some (.inr s3))) else (some (.inr s3))
theorem Yv8 (lo : Lo) : ∀ x : Int × Int × Int, stepL (⟨pf, fs54 lo, [], 0⟩ : Tabs) [] Yom Yon q54_L3_b x = Yes lo x := fun x => by kernel_rfl
def Yh8 (lo : Lo) : Int × Int × Int -> Option Int := lo.run (Yes lo)
def Yh9 (lo : Lo) : LpE := ⟨3, [], Yom, Yon, Yh8 lo⟩
theorem Yv9 {lo : Lo} (hlo : LoOK lo) (C : Ctx) (hT : TOK (⟨pf, fs54 lo, [], 0⟩ : Tabs) C) : LpSound (fun _ => False) [] 0 C (.loop q54_L3_b.er) (Yh9 lo) :=
  Yak hT frNo (show LK C _ q54_L3_b from ⟨⟨tv, ⟨tv, tv⟩⟩, ⟨tv, tv⟩⟩) (fun x y h => Yal (Yv8 lo) (hlo _ _ _ h))
def q54 (lo : Lo) (n0 : Int) : Option Int :=
  Option.bind (Yh8 lo (n0, (0 : Int), (0 : Int))) fun y213 => some y213
def Yoo : VCode :=
 (.seq (.reg [o 2 (.mv (ki .u32 0))])
 (.seq (.reg [o 3 (.mv (ki .u32 0))])
 (.seq (.seq (.reg [o 4 (.mv (k 0))])
 (.blk 0 (.loop 3 q54_L3_b)))
 (.seq (.reg [mV 18 3, mV 2 18])
 (.fz [2] .ret)))))
def Yia : VFn := ⟨true, 19, [.t 2], Yoo⟩
def Yib (lo : Lo) : FnE := ⟨118, true, ⟨[0], [.i .i64], [], (cs [I])⟩, .i .u32, [], (cs [.i .u32]), (fun x => q54 lo x : Int -> Option Int)⟩
theorem Ywa (lo : Lo) : ∀ x : Int, evP (⟨pf, fs54 lo, [Yh9 lo], 0⟩ : Tabs) Yia ⟨[0], [.i .i64], [], (cs [I])⟩ (.i .u32) (cs [.i .u32]) x = q54 lo x := fun x => by kernel_rfl
theorem Ywb {P : Program} {fm : FM} {lo : Lo} (hlo : LoOK lo) (hS : Sound P fm ⟨pf, fs54 lo, [], 0⟩) (hm : P.follows .mixedOrders = true) (htie : Ti P fm 118 Yia) : Sound P fm ⟨pf, Yib lo :: fs54 lo, [], 0⟩ :=
  Yaf hS hm [Yh9 lo] (Yib lo) rfl Yia htie (by decide) rfl (Nat.le_of_ble_eq_true (by kernel_rfl)) (fun C hT => show LK C _ Yoo from ⟨tv, ⟨tv, ⟨⟨tv, (lsGet (by kernel_rfl) (Yv9 hlo C (Yai hT)))⟩, ⟨tv, tv⟩⟩⟩⟩) (fun x y h => (Ywa lo x).trans h)
noncomputable def fs55 (lo : Lo) : List FnE := Yib lo :: fs54 lo
def q55 (lo : Lo) (s0 : Int) (i1 : Int) : Option Bool :=
  bif (decide ((0 : Int) <= i1)) then (bif (decide (i1 < (32 : Int))) then (chk (0 <= i1) (some (decide ((bits .and .u32 (s0.fdiv (2 ^ (min i1.toNat (IntKind.bits .u32)))) (1 : Int)) = (1 : Int))))) else (some false)) else (some false)
def Yop : VCode :=
 (.seq (.reg [o 4 (.mv (kb false))])
 (.seq (.reg [mV 5 1, o 6 (.bin .geq (t 5) (k 0)), mV 7 6, og 8 7 true (.mv (t 1)), og 9 7 true (.bin .lss (t 8) (k 32)), o 10 (.pick (t 7) (t 9) (kb false)), mV 11 10, og 12 11 true (.mv (t 0)), og 13 11 true (.mv (t 1)), og 14 11 true (.bin .shr (t 12) (t 13)), og 15 11 true (.bin .and (t 14) (ki .u32 1)), og 16 11 true (.bin .eql (t 15) (ki .u32 1)), o 17 (.pick (t 11) (t 16) (kb false)), mV 4 17])
 (.fz [4] .ret)))
def Yic : VFn := ⟨true, 18, [.t 4], Yop⟩
def Yid (lo : Lo) : FnE := ⟨262, true, ⟨[0, 1], [.i .u32, .i .i64], [], (cs [.i .u32, I])⟩, .b, [], (cs [.b]), (fun x => q55 lo x.1 x.2 : Int × Int -> Option Bool)⟩
theorem Ywc (lo : Lo) : ∀ x : Int × Int, evP (⟨pf, fs55 lo, [], 0⟩ : Tabs) Yic ⟨[0, 1], [.i .u32, .i .i64], [], (cs [.i .u32, I])⟩ (.b) (cs [.b]) x = q55 lo x.1 x.2 := fun x => by kernel_rfl
theorem Ywd {P : Program} {fm : FM} {lo : Lo} (hlo : LoOK lo) (hS : Sound P fm ⟨pf, fs55 lo, [], 0⟩) (hm : P.follows .mixedOrders = true) (htie : Ti P fm 262 Yic) : Sound P fm ⟨pf, Yid lo :: fs55 lo, [], 0⟩ :=
  Yaf hS hm [] (Yid lo) rfl Yic htie (by decide) rfl (Nat.le_of_ble_eq_true (by kernel_rfl)) (fun C hT => show LK C _ Yop from ⟨tv, ⟨tv, tv⟩⟩) (fun x y h => (Ywc lo x).trans h)
noncomputable def fs56 (lo : Lo) : List FnE := Yid lo :: fs55 lo
def q56_L3_b : VCode :=
 (.seq (.seq (.reg [mV 7 6, fD 8 1 2, lD 9 8, lN 10 9, o 11 (.bin .lss (t 7) (t 10))])
 (.cond (t 11) .skip
 (.exit 0)))
 (.seq (.blk 1 (.seq (.reg [mV 14 1, mV 15 6, o 16 (.call 262 [(t 14), (t 15)])])
 (.cond (t 16) (.reg [mV 17 5, fD 18 1 2, lD 19 18, mV 20 6, o 21 (.iad 3 (t 19) (t 20)), o 22 (.load true 3 (t 21)), o 23 (.bsl Zc4 1 [(0, (t 22))]), o 24 (.app Zc4 0 (t 17) (t 23)), mV 5 24])
 .skip)))
 (.reg [mV 12 6, o 13 (.bin .add (t 12) (k 1)), mV 6 13])))
def Yoq : Sg := ⟨[1, 2, 5, 6], [.i .u32, .ptr 0 0 0, .ref 1, .i .i64], [.st [.i .i64, .l Zc4], .sq Zc4], (cs [.i .u32, I, I, .l Zc4, .l Zc4])⟩
def Yor : List Out1 := [⟨.exit 0, ⟨[5], [.ref 0], [.sq Zc4], Zc22⟩⟩]
def Yet (lo : Lo) : Int × Int × Int × Zt0 × Zt0 -> Option ((Int × Int × Int × Zt0 × Zt0) ⊕ ((Zt0))) := fun x => match x with
  | (s1, i6, r2_0, r2_1, out5) => bif (decide (i6 < (r2_1.length : Int))) then (Option.bind (q55 lo s1 i6) fun y217 => bif y217 then (chk (0 <= i6 /\ i6 < (r2_1.length : Int)) (chk (out5.length + ([(r2_1.getD i6.toNat ((0 : Int), (0 : Int), (ByteArray.mk #[])))]).length <= maxEl) (some (.inl (s1, (IntKind.wrap .i64 (i6 + (1 : Int))), r2_0, r2_1, (out5 ++ ([(r2_1.getD i6.toNat ((0 : Int), (0 : Int), (ByteArray.mk #[])))]))))))) else (some (.inl (s1, (IntKind.wrap .i64 (i6 + (1 : Int))), r2_0, r2_1, out5)))) else (some (.inr out5))
theorem Ywe (lo : Lo) : ∀ x : Int × Int × Int × Zt0 × Zt0, stepL (⟨pf, fs56 lo, [], 0⟩ : Tabs) [(5, none, false)] Yoq Yor q56_L3_b x = Yet lo x := fun x => by kernel_rfl
def Yie (lo : Lo) : Int × Int × Int × Zt0 × Zt0 -> Option ((Zt0)) := lo.run (Yet lo)
def Yif (lo : Lo) : LpE := ⟨3, [(5, none, false)], Yoq, Yor, Yie lo⟩
theorem Ywf {lo : Lo} (hlo : LoOK lo) (C : Ctx) (hT : TOK (⟨pf, fs56 lo, [], 0⟩ : Tabs) C) : LpSound (fun _ => False) [] 0 C (.loop q56_L3_b.er) (Yif lo) :=
  Yak hT frNo (show LK C _ q56_L3_b from ⟨⟨tv, ⟨tv, tv⟩⟩, ⟨⟨tv, ⟨tv, tv⟩⟩, tv⟩⟩) (fun x y h => Yal (Ywe lo) (hlo _ _ _ h))
def q56 (lo : Lo) (r0_0 : Int) (r0_1 : List (Int × Int × ByteArray)) (s1 : Int) : Option (Zt0) :=
  Option.bind (Yie lo (s1, (0 : Int), r0_0, r0_1, [])) fun y218 => some y218
def Yos : VCode :=
 (.seq (.reg [o 2 (.box (t 0)), o 4 (.mv (ke Zc4))])
 (.seq (.reg [o 5 (.mv (ke Zc4))])
 (.seq (.seq (.reg [o 6 (.mv (k 0))])
 (.blk 0 (.loop 3 q56_L3_b)))
 (.seq (.reg [mV 25 5, mV 4 25])
 (.fz [4] .ret)))))
def Yig : VFn := ⟨true, 26, [.t 4], Yos⟩
def Yih (lo : Lo) : FnE := ⟨263, true, ⟨[0, 1], [.ag [.i .i64, .l Zc4], .i .u32], [], (cs [I, .l Zc4, .i .u32])⟩, .l Zc4, [], Zc22, (fun x => q56 lo x.1 x.2.1 x.2.2 : Int × Zt0 × Int -> Option (Zt0))⟩
theorem Ywg (lo : Lo) : ∀ x : Int × Zt0 × Int, evP (⟨pf, fs56 lo, [Yif lo], 0⟩ : Tabs) Yig ⟨[0, 1], [.ag [.i .i64, .l Zc4], .i .u32], [], (cs [I, .l Zc4, .i .u32])⟩ (.l Zc4) Zc22 x = q56 lo x.1 x.2.1 x.2.2 := fun x => by kernel_rfl
theorem Ywh {P : Program} {fm : FM} {lo : Lo} (hlo : LoOK lo) (hS : Sound P fm ⟨pf, fs56 lo, [], 0⟩) (hm : P.follows .mixedOrders = true) (htie : Ti P fm 263 Yig) : Sound P fm ⟨pf, Yih lo :: fs56 lo, [], 0⟩ :=
  Yaf hS hm [Yif lo] (Yih lo) rfl Yig htie (by decide) rfl (Nat.le_of_ble_eq_true (by kernel_rfl)) (fun C hT => show LK C _ Yos from ⟨tv, ⟨tv, ⟨⟨tv, (lsGet (by kernel_rfl) (Ywf hlo C (Yai hT)))⟩, ⟨tv, tv⟩⟩⟩⟩) (fun x y h => (Ywg lo x).trans h)
noncomputable def fs57 (lo : Lo) : List FnE := Yih lo :: fs56 lo
def q57 (lo : Lo) (a0 : Int) (b1 : Int) : Option Int :=
  bif (decide (a0 < b1)) then (some (-1 : Int)) else (bif (decide (b1 < a0)) then (some (1 : Int)) else (some (0 : Int)))
def Yot : VCode :=
 (.seq (.reg [o 4 (.mv (k 0))])
 (.seq (.seq (.reg [mV 5 0, mV 6 1, o 7 (.bin .lss (t 5) (t 6))])
 (.cond (t 7) (.seq (.reg [o 4 (.mv (k (-1)))])
 (.fz [4] .ret))
 .skip))
 (.seq (.seq (.reg [mV 8 0, mV 9 1, o 10 (.bin .gtr (t 8) (t 9))])
 (.cond (t 10) (.seq (.reg [o 4 (.mv (k 1))])
 (.fz [4] .ret))
 .skip))
 (.seq (.reg [o 4 (.mv (k 0))])
 (.fz [4] .ret)))))
def Yii : VFn := ⟨true, 11, [.t 4], Yot⟩
def Yij (lo : Lo) : FnE := ⟨303, true, ⟨[0, 1], [.i .i64, .i .i64], [], (cs [I, I])⟩, .i .i64, [], (cs [I]), (fun x => q57 lo x.1 x.2 : Int × Int -> Option Int)⟩
theorem Ywi (lo : Lo) : ∀ x : Int × Int, evP (⟨pf, fs57 lo, [], 0⟩ : Tabs) Yii ⟨[0, 1], [.i .i64, .i .i64], [], (cs [I, I])⟩ (.i .i64) (cs [I]) x = q57 lo x.1 x.2 := fun x => by kernel_rfl
theorem Ywj {P : Program} {fm : FM} {lo : Lo} (hlo : LoOK lo) (hS : Sound P fm ⟨pf, fs57 lo, [], 0⟩) (hm : P.follows .mixedOrders = true) (htie : Ti P fm 303 Yii) : Sound P fm ⟨pf, Yij lo :: fs57 lo, [], 0⟩ :=
  Yaf hS hm [] (Yij lo) rfl Yii htie (by decide) rfl (Nat.le_of_ble_eq_true (by kernel_rfl)) (fun C hT => show LK C _ Yot from ⟨tv, ⟨⟨tv, ⟨⟨tv, tv⟩, tv⟩⟩, ⟨⟨tv, ⟨⟨tv, tv⟩, tv⟩⟩, ⟨tv, tv⟩⟩⟩⟩) (fun x y h => (Ywi lo x).trans h)
noncomputable def fs58 (lo : Lo) : List FnE := Yij lo :: fs57 lo
def q58_L3_b : VCode :=
 (.seq (.seq (.reg [mV 6 5, mV 7 0, o 8 (.lenS (t 7)), o 9 (.bin .lss (t 6) (t 8)), mV 10 9, og 11 10 true (.mv (t 5)), og 12 10 true (.mv (t 1)), og 13 10 true (.lenS (t 12)), og 14 10 true (.bin .lss (t 11) (t 13)), o 15 (.pick (t 10) (t 14) (kb false))])
 (.cond (t 15) .skip
 (.exit 0)))
 (.seq (.blk 1 (.seq (.reg [mV 18 0, mV 19 5, o 20 (.idx (t 18) (t 19)), mV 21 1, mV 22 5, o 23 (.idx (t 21) (t 22)), o 24 (.bin .neq (t 20) (t 23))])
 (.cond (t 24) (.seq (.reg [mV 25 0, mV 26 5, o 27 (.idx (t 25) (t 26)), o 28 (.conv .i64 (t 27)), mV 29 1, mV 30 5, o 31 (.idx (t 29) (t 30)), o 32 (.conv .i64 (t 31)), o 33 (.call 303 [(t 28), (t 32)]), mV 4 33])
 (.fz [4] .ret))
 .skip)))
 (.reg [mV 16 5, o 17 (.bin .add (t 16) (k 1)), mV 5 17])))
def You : Sg := ⟨[0, 1, 5], [.s, .s, .i .i64], [], (cs [.s, .s, I])⟩
def Yov : List Out1 := [⟨.ret, ⟨[4], [.i .i64], [], (cs [I])⟩⟩, ⟨.exit 0, ⟨[0, 1], [.s, .s], [], (cs [.s, .s])⟩⟩]
def YcZ (lo : Lo) : ByteArray × ByteArray × Int -> Option ((ByteArray × ByteArray × Int) ⊕ (Int ⊕ (ByteArray × ByteArray))) := fun x => match x with
  | (a0, b1, i5) => bif (decide (i5 < (a0.size : Int))) then (bif (decide (i5 < (b1.size : Int))) then (chk (0 <= i5 /\ i5 < (a0.size : Int)) (chk (0 <= i5 /\ i5 < (b1.size : Int)) (bif (!decide ((byteI a0 i5) = (byteI b1 i5))) then (chk (0 <= i5 /\ i5 < (a0.size : Int)) (chk (0 <= i5 /\ i5 < (b1.size : Int)) (Option.bind (q57 lo (IntKind.wrap .i64 (byteI a0 i5)) (IntKind.wrap .i64 (byteI b1 i5))) fun y222 => some (.inr (.inl y222))))) else (some (.inl (a0, b1, (IntKind.wrap .i64 (i5 + (1 : Int))))))))) else (some (.inr (.inr (a0, b1))))) else (some (.inr (.inr (a0, b1))))
theorem Ywk (lo : Lo) : ∀ x : ByteArray × ByteArray × Int, stepL (⟨pf, fs58 lo, [], 0⟩ : Tabs) [] You Yov q58_L3_b x = YcZ lo x := fun x => by kernel_rfl
def Yik (lo : Lo) : ByteArray × ByteArray × Int -> Option (Int ⊕ (ByteArray × ByteArray)) := lo.run (YcZ lo)
def Yil (lo : Lo) : LpE := ⟨3, [], You, Yov, Yik lo⟩
theorem Ywl {lo : Lo} (hlo : LoOK lo) (C : Ctx) (hT : TOK (⟨pf, fs58 lo, [], 0⟩ : Tabs) C) : LpSound (fun _ => False) [] 0 C (.loop q58_L3_b.er) (Yil lo) :=
  Yak hT frNo (show LK C _ q58_L3_b from ⟨⟨tv, ⟨tv, tv⟩⟩, ⟨⟨tv, ⟨⟨tv, tv⟩, tv⟩⟩, tv⟩⟩) (fun x y h => Yal (Ywk lo) (hlo _ _ _ h))
def q58 (lo : Lo) (a0 : ByteArray) (b1 : ByteArray) : Option Int :=
  Option.bind (Yik lo (a0, b1, (0 : Int))) fun y223 => alt2 y223 (fun y224 => some y224) (fun y225 => Option.bind (q57 lo (y225.1.size : Int) (y225.2.size : Int)) fun y226 => some y226)
def Yow : VCode :=
 (.seq (.reg [o 4 (.mv (k 0))])
 (.seq (.seq (.reg [o 5 (.mv (k 0))])
 (.blk 0 (.loop 3 q58_L3_b)))
 (.seq (.reg [mV 34 0, o 35 (.lenS (t 34)), mV 36 1, o 37 (.lenS (t 36)), o 38 (.call 303 [(t 35), (t 37)]), mV 4 38])
 (.fz [4] .ret))))
def Yim : VFn := ⟨true, 39, [.t 4], Yow⟩
def Yin (lo : Lo) : FnE := ⟨320, true, ⟨[0, 1], [.s, .s], [], (cs [.s, .s])⟩, .i .i64, [], (cs [I]), (fun x => q58 lo x.1 x.2 : ByteArray × ByteArray -> Option Int)⟩
theorem Ywm (lo : Lo) : ∀ x : ByteArray × ByteArray, evP (⟨pf, fs58 lo, [Yil lo], 0⟩ : Tabs) Yim ⟨[0, 1], [.s, .s], [], (cs [.s, .s])⟩ (.i .i64) (cs [I]) x = q58 lo x.1 x.2 := fun x => by kernel_rfl
theorem Ywn {P : Program} {fm : FM} {lo : Lo} (hlo : LoOK lo) (hS : Sound P fm ⟨pf, fs58 lo, [], 0⟩) (hm : P.follows .mixedOrders = true) (htie : Ti P fm 320 Yim) : Sound P fm ⟨pf, Yin lo :: fs58 lo, [], 0⟩ :=
  Yaf hS hm [Yil lo] (Yin lo) rfl Yim htie (by decide) rfl (Nat.le_of_ble_eq_true (by kernel_rfl)) (fun C hT => show LK C _ Yow from ⟨tv, ⟨⟨tv, (lsGet (by kernel_rfl) (Ywl hlo C (Yai hT)))⟩, ⟨tv, tv⟩⟩⟩) (fun x y h => (Ywm lo x).trans h)
noncomputable def fs59 (lo : Lo) : List FnE := Yin lo :: fs58 lo
def q59 (lo : Lo) (a0_0 : Int) (a0_1 : Int) (a0_2 : ByteArray) (b1_0 : Int) (b1_1 : Int) (b1_2 : ByteArray) : Option Int :=
  Option.bind (q57 lo a0_0 b1_0) fun y220 => bif (!decide (y220 = (0 : Int))) then (some y220) else (Option.bind (q57 lo a0_1 b1_1) fun y221 => bif (!decide (y221 = (0 : Int))) then (some y221) else (Option.bind (q58 lo a0_2 b1_2) fun y227 => some y227))
def Yox : VCode :=
 (.seq (.reg [o 2 (.box (t 0)), o 3 (.box (t 1)), o 4 (.mv (k 0))])
 (.seq (.seq (.reg [fD 7 0 2, lD 8 7, fD 9 0 3, lD 10 9, o 11 (.call 303 [(t 8), (t 10)]), mV 5 11])
 (.seq (.reg [mV 12 5, o 13 (.bin .neq (t 12) (k 0))])
 (.cond (t 13) (.seq (.reg [mV 14 5, mV 4 14])
 (.fz [4] .ret))
 .skip)))
 (.seq (.seq (.reg [fD 15 1 2, lD 16 15, fD 17 1 3, lD 18 17, o 19 (.call 303 [(t 16), (t 18)]), mV 6 19])
 (.seq (.reg [mV 20 6, o 21 (.bin .neq (t 20) (k 0))])
 (.cond (t 21) (.seq (.reg [mV 22 6, mV 4 22])
 (.fz [4] .ret))
 .skip)))
 (.seq (.reg [fD 23 2 2, lD 24 23, fD 25 2 3, lD 26 25, o 27 (.call 320 [(t 24), (t 26)]), mV 4 27])
 (.fz [4] .ret)))))
def Yio : VFn := ⟨true, 28, [.t 4], Yox⟩
def Yip (lo : Lo) : FnE := ⟨302, true, ⟨[0, 1], [.ag [.i .i64, .i .i64, .s], .ag [.i .i64, .i .i64, .s]], [], (cs [I, I, .s, I, I, .s])⟩, .i .i64, [], (cs [I]), (fun x => q59 lo x.1 x.2.1 x.2.2.1 x.2.2.2.1 x.2.2.2.2.1 x.2.2.2.2.2 : Int × Int × ByteArray × Int × Int × ByteArray -> Option Int)⟩
theorem Ywo (lo : Lo) : ∀ x : Int × Int × ByteArray × Int × Int × ByteArray, evP (⟨pf, fs59 lo, [], 0⟩ : Tabs) Yio ⟨[0, 1], [.ag [.i .i64, .i .i64, .s], .ag [.i .i64, .i .i64, .s]], [], (cs [I, I, .s, I, I, .s])⟩ (.i .i64) (cs [I]) x = q59 lo x.1 x.2.1 x.2.2.1 x.2.2.2.1 x.2.2.2.2.1 x.2.2.2.2.2 := fun x => by kernel_rfl
theorem Ywp {P : Program} {fm : FM} {lo : Lo} (hlo : LoOK lo) (hS : Sound P fm ⟨pf, fs59 lo, [], 0⟩) (hm : P.follows .mixedOrders = true) (htie : Ti P fm 302 Yio) : Sound P fm ⟨pf, Yip lo :: fs59 lo, [], 0⟩ :=
  Yaf hS hm [] (Yip lo) rfl Yio htie (by decide) rfl (Nat.le_of_ble_eq_true (by kernel_rfl)) (fun C hT => show LK C _ Yox from ⟨tv, ⟨⟨tv, ⟨tv, ⟨⟨tv, tv⟩, tv⟩⟩⟩, ⟨⟨tv, ⟨tv, ⟨⟨tv, tv⟩, tv⟩⟩⟩, ⟨tv, tv⟩⟩⟩⟩) (fun x y h => (Ywo lo x).trans h)
noncomputable def fs60 (lo : Lo) : List FnE := Yip lo :: fs59 lo
def q60_L3_b : VCode :=
 (.seq (.seq (.reg [mV 7 5, mV 8 0, lN 9 8, o 10 (.bin .lss (t 7) (t 9)), mV 11 10, og 12 11 true (.mv (t 5)), og 13 11 true (.mv (t 1)), og 14 11 true (.len (t 13)), og 15 11 true (.bin .lss (t 12) (t 14)), o 16 (.pick (t 11) (t 15) (kb false))])
 (.cond (t 16) .skip
 (.exit 0)))
 (.seq (.blk 1 (.seq (.reg [mV 19 0, mV 20 5, o 21 (.iad 3 (t 19) (t 20)), o 22 (.load true 3 (t 21)), mV 23 1, mV 24 5, o 25 (.iad 3 (t 23) (t 24)), o 26 (.load true 3 (t 25)), o 27 (.call 302 [(t 22), (t 26)]), mV 6 27])
 (.seq (.reg [mV 28 6, o 29 (.bin .neq (t 28) (k 0))])
 (.cond (t 29) (.seq (.reg [mV 30 6, mV 4 30])
 (.fz [4] .ret))
 .skip))))
 (.reg [mV 17 5, o 18 (.bin .add (t 17) (k 1)), mV 5 18])))
def Yoy : Sg := ⟨[0, 1, 5], [.l Zc4, .l Zc4, .i .i64], [], (cs [.l Zc4, .l Zc4, I])⟩
def Yoz : List Out1 := [⟨.ret, ⟨[4], [.i .i64], [], (cs [I])⟩⟩, ⟨.exit 0, ⟨[0, 1], [.l Zc4, .l Zc4], [], (cs [.l Zc4, .l Zc4])⟩⟩]
def Yc0 (lo : Lo) : Zt0 × Zt0 × Int -> Option ((Zt0 × Zt0 × Int) ⊕ (Int ⊕ (Zt0 × Zt0))) := fun x => match x with
  | (a0, b1, i5) => bif (decide (i5 < (a0.length : Int))) then (bif (decide (i5 < (b1.length : Int))) then (chk (0 <= i5 /\ i5 < (a0.length : Int)) (chk (0 <= i5 /\ i5 < (b1.length : Int)) (Option.bind (q59 lo ((a0.getD i5.toNat ((0 : Int), (0 : Int), (ByteArray.mk #[]))).1) ((a0.getD i5.toNat ((0 : Int), (0 : Int), (ByteArray.mk #[]))).2.1) ((a0.getD i5.toNat ((0 : Int), (0 : Int), (ByteArray.mk #[]))).2.2) ((b1.getD i5.toNat ((0 : Int), (0 : Int), (ByteArray.mk #[]))).1) ((b1.getD i5.toNat ((0 : Int), (0 : Int), (ByteArray.mk #[]))).2.1) ((b1.getD i5.toNat ((0 : Int), (0 : Int), (ByteArray.mk #[]))).2.2)) fun y228 => bif (!decide (y228 = (0 : Int))) then (some (.inr (.inl y228))) else (some (.inl (a0, b1, (IntKind.wrap .i64 (i5 + (1 : Int))))))))) else (some (.inr (.inr (a0, b1))))) else (some (.inr (.inr (a0, b1))))
theorem Ywq (lo : Lo) : ∀ x : Zt0 × Zt0 × Int, stepL (⟨pf, fs60 lo, [], 0⟩ : Tabs) [] Yoy Yoz q60_L3_b x = Yc0 lo x := fun x => by kernel_rfl
def Yiq (lo : Lo) : Zt0 × Zt0 × Int -> Option (Int ⊕ (Zt0 × Zt0)) := lo.run (Yc0 lo)
def Yir (lo : Lo) : LpE := ⟨3, [], Yoy, Yoz, Yiq lo⟩
theorem Ywr {lo : Lo} (hlo : LoOK lo) (C : Ctx) (hT : TOK (⟨pf, fs60 lo, [], 0⟩ : Tabs) C) : LpSound (fun _ => False) [] 0 C (.loop q60_L3_b.er) (Yir lo) :=
  Yak hT frNo (show LK C _ q60_L3_b from ⟨⟨tv, ⟨tv, tv⟩⟩, ⟨⟨tv, ⟨tv, ⟨⟨tv, tv⟩, tv⟩⟩⟩, tv⟩⟩) (fun x y h => Yal (Ywq lo) (hlo _ _ _ h))
def q60 (lo : Lo) (a0 : List (Int × Int × ByteArray)) (b1 : List (Int × Int × ByteArray)) : Option Int :=
  Option.bind (Yiq lo (a0, b1, (0 : Int))) fun y229 => alt2 y229 (fun y230 => some y230) (fun y231 => Option.bind (q57 lo (y231.1.length : Int) (y231.2.length : Int)) fun y232 => some y232)
def YoA : VCode :=
 (.seq (.reg [o 4 (.mv (k 0))])
 (.seq (.seq (.reg [o 5 (.mv (k 0))])
 (.blk 0 (.loop 3 q60_L3_b)))
 (.seq (.reg [mV 31 0, lN 32 31, mV 33 1, lN 34 33, o 35 (.call 303 [(t 32), (t 34)]), mV 4 35])
 (.fz [4] .ret))))
def Yis : VFn := ⟨true, 36, [.t 4], YoA⟩
def Yit (lo : Lo) : FnE := ⟨274, true, ⟨[0, 1], [.l Zc4, .l Zc4], [], (cs [.l Zc4, .l Zc4])⟩, .i .i64, [], (cs [I]), (fun x => q60 lo x.1 x.2 : Zt0 × Zt0 -> Option Int)⟩
theorem Yws (lo : Lo) : ∀ x : Zt0 × Zt0, evP (⟨pf, fs60 lo, [Yir lo], 0⟩ : Tabs) Yis ⟨[0, 1], [.l Zc4, .l Zc4], [], (cs [.l Zc4, .l Zc4])⟩ (.i .i64) (cs [I]) x = q60 lo x.1 x.2 := fun x => by kernel_rfl
theorem Ywt {P : Program} {fm : FM} {lo : Lo} (hlo : LoOK lo) (hS : Sound P fm ⟨pf, fs60 lo, [], 0⟩) (hm : P.follows .mixedOrders = true) (htie : Ti P fm 274 Yis) : Sound P fm ⟨pf, Yit lo :: fs60 lo, [], 0⟩ :=
  Yaf hS hm [Yir lo] (Yit lo) rfl Yis htie (by decide) rfl (Nat.le_of_ble_eq_true (by kernel_rfl)) (fun C hT => show LK C _ YoA from ⟨tv, ⟨⟨tv, (lsGet (by kernel_rfl) (Ywr hlo C (Yai hT)))⟩, ⟨tv, tv⟩⟩⟩) (fun x y h => (Yws lo x).trans h)
noncomputable def fs61 (lo : Lo) : List FnE := Yit lo :: fs60 lo
def q61 (lo : Lo) (a0 : List (Int × Int × ByteArray)) (b1 : List (Int × Int × ByteArray)) : Option Bool :=
  Option.bind (q60 lo a0 b1) fun y233 => some (decide (y233 = (0 : Int)))
def YoB : VCode :=
 (.seq (.reg [o 4 (.mv (kb false))])
 (.seq (.reg [mV 5 0, mV 6 1, o 7 (.call 274 [(t 5), (t 6)]), o 8 (.bin .eql (t 7) (k 0)), mV 4 8])
 (.fz [4] .ret)))
def Yiu : VFn := ⟨true, 9, [.t 4], YoB⟩
def Yiv (lo : Lo) : FnE := ⟨297, true, ⟨[0, 1], [.l Zc4, .l Zc4], [], (cs [.l Zc4, .l Zc4])⟩, .b, [], (cs [.b]), (fun x => q61 lo x.1 x.2 : Zt0 × Zt0 -> Option Bool)⟩
theorem Ywu (lo : Lo) : ∀ x : Zt0 × Zt0, evP (⟨pf, fs61 lo, [], 0⟩ : Tabs) Yiu ⟨[0, 1], [.l Zc4, .l Zc4], [], (cs [.l Zc4, .l Zc4])⟩ (.b) (cs [.b]) x = q61 lo x.1 x.2 := fun x => by kernel_rfl
theorem Ywv {P : Program} {fm : FM} {lo : Lo} (hlo : LoOK lo) (hS : Sound P fm ⟨pf, fs61 lo, [], 0⟩) (hm : P.follows .mixedOrders = true) (htie : Ti P fm 297 Yiu) : Sound P fm ⟨pf, Yiv lo :: fs61 lo, [], 0⟩ :=
  Yaf hS hm [] (Yiv lo) rfl Yiu htie (by decide) rfl (Nat.le_of_ble_eq_true (by kernel_rfl)) (fun C hT => show LK C _ YoB from ⟨tv, ⟨tv, tv⟩⟩) (fun x y h => (Ywu lo x).trans h)
noncomputable def fs62 (lo : Lo) : List FnE := Yiv lo :: fs61 lo
def q62_L3_b : VCode :=
 (.seq (.seq (.reg [mV 6 5, mV 7 0, lN 8 7, o 9 (.bin .lss (t 6) (t 8))])
 (.cond (t 9) .skip
 (.exit 0)))
 (.seq (.blk 1 (.seq (.reg [mV 12 0, mV 13 5, o 14 (.iad 2 (t 12) (t 13)), fD 15 1 14, lD 16 15, mV 17 1, o 18 (.call 297 [(t 16), (t 17)])])
 (.cond (t 18) (.seq (.reg [o 4 (.mv (kb true))])
 (.fz [4] .ret))
 .skip)))
 (.reg [mV 10 5, o 11 (.bin .add (t 10) (k 1)), mV 5 11])))
def YoC : Sg := ⟨[0, 1, 5], [.l Zc1, .l Zc4, .i .i64], [], (cs [.l Zc1, .l Zc4, I])⟩
def YoD : List Out1 := [⟨.ret, ⟨[4], [.b], [], (cs [.b])⟩⟩, ⟨.exit 0, ⟨[], [], [], (cs [])⟩⟩]
def Yeu (lo : Lo) : Zt3 × Zt0 × Int -> Option ((Zt3 × Zt0 × Int) ⊕ (Bool ⊕ Unit)) := fun x => match x with
  | (rows0, l1, i5) => bif (decide (i5 < (rows0.length : Int))) then (chk (0 <= i5 /\ i5 < (rows0.length : Int)) (Option.bind (q61 lo ((rows0.getD i5.toNat ((0 : Int), [])).2) l1) fun y234 => bif y234 then (some (.inr (.inl true))) else (some (.inl (rows0, l1, (IntKind.wrap .i64 (i5 + (1 : Int)))))))) else (some (.inr (.inr ())))
theorem Yww (lo : Lo) : ∀ x : Zt3 × Zt0 × Int, stepL (⟨pf, fs62 lo, [], 0⟩ : Tabs) [] YoC YoD q62_L3_b x = Yeu lo x := fun x => by kernel_rfl
def Yiw (lo : Lo) : Zt3 × Zt0 × Int -> Option (Bool ⊕ Unit) := lo.run (Yeu lo)
def Yix (lo : Lo) : LpE := ⟨3, [], YoC, YoD, Yiw lo⟩
theorem Ywx {lo : Lo} (hlo : LoOK lo) (C : Ctx) (hT : TOK (⟨pf, fs62 lo, [], 0⟩ : Tabs) C) : LpSound (fun _ => False) [] 0 C (.loop q62_L3_b.er) (Yix lo) :=
  Yak hT frNo (show LK C _ q62_L3_b from ⟨⟨tv, ⟨tv, tv⟩⟩, ⟨⟨tv, ⟨⟨tv, tv⟩, tv⟩⟩, tv⟩⟩) (fun x y h => Yal (Yww lo) (hlo _ _ _ h))
def q62 (lo : Lo) (rows0 : List (Int × Zt0)) (l1 : List (Int × Int × ByteArray)) : Option Bool :=
  Option.bind (Yiw lo (rows0, l1, (0 : Int))) fun y235 => alt2 y235 (fun y236 => some y236) (fun y237 => some false)
def YoE : VCode :=
 (.seq (.reg [o 4 (.mv (kb false))])
 (.seq (.seq (.reg [o 5 (.mv (k 0))])
 (.blk 0 (.loop 3 q62_L3_b)))
 (.seq (.reg [o 4 (.mv (kb false))])
 (.fz [4] .ret))))
def Yiy : VFn := ⟨true, 19, [.t 4], YoE⟩
def Yiz (lo : Lo) : FnE := ⟨264, true, ⟨[0, 1], [.l Zc1, .l Zc4], [], (cs [.l Zc1, .l Zc4])⟩, .b, [], (cs [.b]), (fun x => q62 lo x.1 x.2 : Zt3 × Zt0 -> Option Bool)⟩
theorem Ywy (lo : Lo) : ∀ x : Zt3 × Zt0, evP (⟨pf, fs62 lo, [Yix lo], 0⟩ : Tabs) Yiy ⟨[0, 1], [.l Zc1, .l Zc4], [], (cs [.l Zc1, .l Zc4])⟩ (.b) (cs [.b]) x = q62 lo x.1 x.2 := fun x => by kernel_rfl
theorem Ywz {P : Program} {fm : FM} {lo : Lo} (hlo : LoOK lo) (hS : Sound P fm ⟨pf, fs62 lo, [], 0⟩) (hm : P.follows .mixedOrders = true) (htie : Ti P fm 264 Yiy) : Sound P fm ⟨pf, Yiz lo :: fs62 lo, [], 0⟩ :=
  Yaf hS hm [Yix lo] (Yiz lo) rfl Yiy htie (by decide) rfl (Nat.le_of_ble_eq_true (by kernel_rfl)) (fun C hT => show LK C _ YoE from ⟨tv, ⟨⟨tv, (lsGet (by kernel_rfl) (Ywx hlo C (Yai hT)))⟩, ⟨tv, tv⟩⟩⟩) (fun x y h => (Ywy lo x).trans h)
noncomputable def fs63 (lo : Lo) : List FnE := Yiz lo :: fs62 lo
def q63_L11_b : VCode :=
 (.seq (.seq (.reg [mV 28 8, fD 29 1 2, lD 30 29, lN 31 30, o 32 (.bin .lss (t 28) (t 31))])
 (.cond (t 32) .skip
 (.exit 0)))
 (.seq (.blk 1 (.seq (.reg [mV 35 1, mV 36 8, o 37 (.call 262 [(t 35), (t 36)])])
 (.cond (t 37) (.reg [fD 38 1 7, lD 39 38, fD 40 1 2, lD 41 40, mV 42 8, o 43 (.iad 1 (t 41) (t 42)), lD 44 43, o 45 (.bsl (cs [.s]) 1 [(0, (t 44))]), o 46 (.app (cs [.s]) 0 (t 39) (t 45)), fD 47 1 7, on (.store 1 (t 47) (t 46))])
 .skip)))
 (.reg [mV 33 8, o 34 (.bin .add (t 33) (k 1)), mV 8 34])))
def YoF : Sg := ⟨[1, 2, 4, 7, 8], [.i .u32, .ptr 0 0 0, .ptr 1 0 0, .ptr 2 0 0, .i .i64], [.st [.s, .l (cs [.s]), .l Zc1], .st [.s, .l (cs [.s]), .l Zc1], .st [.s, .ref 3, .ref 4], .sq (cs [.s]), .sq Zc1], Zc14⟩
def YoG : List Out1 := [⟨.exit 0, ⟨[1, 2, 4, 7], [.i .u32, .ptr 0 0 0, .ptr 1 0 0, .ptr 2 0 0], [.st [.s, .l (cs [.s]), .l Zc1], .st [.s, .l (cs [.s]), .l Zc1], .st [.s, .ref 3, .ref 4], .sq (cs [.s]), .sq Zc1], Zc16⟩⟩]
def Yev (lo : Lo) : Zp31 -> Option (Zp31 ⊕ ((Int × ByteArray × Zt2 × Zt3 × ByteArray × Zt2 × Zt3 × ByteArray × Zt2 × Zt3))) := fun x => match x with
  | (s1, i8, t2_0, t2_1, t2_2, v4_0, v4_1, v4_2, out7, h3, h4) => bif (decide (i8 < (t2_1.length : Int))) then (Option.bind (q55 lo s1 i8) fun y215 => bif y215 then (chk (0 <= i8 /\ i8 < (t2_1.length : Int)) (chk (h3.length + ([(t2_1.getD i8.toNat (ByteArray.mk #[]))]).length <= maxEl) (some (.inl (s1, (IntKind.wrap .i64 (i8 + (1 : Int))), t2_0, t2_1, t2_2, v4_0, v4_1, v4_2, out7, (h3 ++ ([(t2_1.getD i8.toNat (ByteArray.mk #[]))])), h4))))) else (some (.inl (s1, (IntKind.wrap .i64 (i8 + (1 : Int))), t2_0, t2_1, t2_2, v4_0, v4_1, v4_2, out7, h3, h4)))) else (some (.inr (s1, t2_0, t2_1, t2_2, v4_0, v4_1, v4_2, out7, h3, h4)))
theorem YwA (lo : Lo) : ∀ x : Zp31, stepL (⟨pf, fs63 lo, [], 0⟩ : Tabs) [(7, some 1, false), (7, some 2, false)] YoF YoG q63_L11_b x = Yev lo x := fun x => by kernel_rfl
def YiA (lo : Lo) : Zp31 -> Option ((Int × ByteArray × Zt2 × Zt3 × ByteArray × Zt2 × Zt3 × ByteArray × Zt2 × Zt3)) := lo.run (Yev lo)
def Yc1 (lo : Lo) : LpE := ⟨11, [(7, some 1, false), (7, some 2, false)], YoF, YoG, YiA lo⟩
theorem YwB {lo : Lo} (hlo : LoOK lo) (C : Ctx) (hT : TOK (⟨pf, fs63 lo, [], 0⟩ : Tabs) C) : LpSound (fun _ => False) [] 0 C (.loop q63_L11_b.er) (Yc1 lo) :=
  Yak hT frNo (show LK C _ q63_L11_b from ⟨⟨tv, ⟨tv, tv⟩⟩, ⟨⟨tv, ⟨tv, tv⟩⟩, tv⟩⟩) (fun x y h => Yal (YwA lo) (hlo _ _ _ h))
def q63_L3_b : VCode :=
 (.seq (.seq (.reg [mV 48 9, fD 49 2 2, lD 50 49, lN 51 50, o 52 (.bin .lss (t 48) (t 51))])
 (.cond (t 52) .skip
 (.exit 2)))
 (.seq (.blk 3 (.seq (.reg [fD 55 2 2, lD 56 55, mV 57 9, o 58 (.iad 2 (t 56) (t 57)), o 59 (.load true 2 (t 58)), mV 60 1, o 61 (.call 263 [(t 59), (t 60)]), mV 10 61])
 (.seq (.reg [fD 62 2 7, lD 63 62, mV 64 10, o 65 (.call 264 [(t 63), (t 64)]), o 66 (.not (t 65))])
 (.cond (t 66) (.reg [fD 67 2 7, lD 68 67, fD 69 2 2, lD 70 69, mV 71 9, o 72 (.iad 2 (t 70) (t 71)), fD 73 0 72, lD 74 73, mV 75 10, o 76 (.build [.i .i64 0, .e Zc4] [(0, 1, (t 74)), (1, 1, (t 75))]), o 77 (.bsl Zc1 1 [(0, (t 76))]), o 78 (.app Zc1 0 (t 68) (t 77)), fD 79 2 7, on (.store 1 (t 79) (t 78))])
 .skip))))
 (.reg [mV 53 9, o 54 (.bin .add (t 53) (k 1)), mV 9 54])))
def YoH : Sg := ⟨[1, 2, 4, 7, 9], [.i .u32, .ptr 0 0 0, .ptr 1 0 0, .ptr 2 0 0, .i .i64], [.st [.s, .l (cs [.s]), .l Zc1], .st [.s, .l (cs [.s]), .l Zc1], .st [.s, .ref 3, .ref 4], .sq (cs [.s]), .sq Zc1], Zc14⟩
def YoI : List Out1 := [⟨.exit 2, ⟨[4, 7], [.ptr 0 0 0, .ptr 1 0 0], [.st [.s, .l (cs [.s]), .l Zc1], .st [.s, .ref 2, .ref 3], .sq (cs [.s]), .sq Zc1], Zc6⟩⟩]
def Yew (lo : Lo) : Zp31 -> Option (Zp31 ⊕ (Zp36)) := fun x => match x with
  | (s1, i9, t2_0, t2_1, t2_2, v4_0, v4_1, v4_2, out7, h3, h4) => bif (decide (i9 < (t2_2.length : Int))) then (chk (0 <= i9 /\ i9 < (t2_2.length : Int)) (Option.bind (q56 lo ((t2_2.getD i9.toNat ((0 : Int), [])).1) ((t2_2.getD i9.toNat ((0 : Int), [])).2) s1) fun y219 => Option.bind (q62 lo h4 y219) fun y238 => bif (!y238) then (chk (0 <= i9 /\ i9 < (t2_2.length : Int)) (chk (h4.length + ([((t2_2.getD i9.toNat ((0 : Int), [])).1, y219)]).length <= maxEl) (some (.inl (s1, (IntKind.wrap .i64 (i9 + (1 : Int))), t2_0, t2_1, t2_2, v4_0, v4_1, v4_2, out7, h3, (h4 ++ ([((t2_2.getD i9.toNat ((0 : Int), [])).1, y219)]))))))) else (some (.inl (s1, (IntKind.wrap .i64 (i9 + (1 : Int))), t2_0, t2_1, t2_2, v4_0, v4_1, v4_2, out7, h3, h4))))) else (some (.inr (v4_0, v4_1, v4_2, out7, h3, h4)))
theorem YwC (lo : Lo) : ∀ x : Zp31, stepL (⟨pf, fs63 lo, [Yc1 lo], 0⟩ : Tabs) [] YoH YoI q63_L3_b x = Yew lo x := fun x => by kernel_rfl
def YiB (lo : Lo) : Zp31 -> Option (Zp36) := lo.run (Yew lo)
def YiC (lo : Lo) : LpE := ⟨3, [], YoH, YoI, YiB lo⟩
theorem YwD {lo : Lo} (hlo : LoOK lo) (C : Ctx) (hT : TOK (⟨pf, fs63 lo, [Yc1 lo], 0⟩ : Tabs) C) : LpSound (fun _ => False) [] 0 C (.loop q63_L3_b.er) (YiC lo) :=
  Yak hT frNo (show LK C _ q63_L3_b from ⟨⟨tv, ⟨tv, tv⟩⟩, ⟨⟨tv, ⟨tv, ⟨tv, tv⟩⟩⟩, tv⟩⟩) (fun x y h => Yal (YwC lo) (hlo _ _ _ h))
def q63 (lo : Lo) (t0_0 : ByteArray) (t0_1 : List ByteArray) (t0_2 : List (Int × Zt0)) (s1 : Int) : Option (ByteArray × Zt2 × Zt3 × Int) :=
  Option.bind (q51 lo t0_0 t0_1 t0_2) fun y212 => bif (!decide (y212 = (0 : Int))) then (some ((ByteArray.mk #[]), ([] : List ByteArray), ([] : List (Int × Zt0)), y212)) else (Option.bind (q54 lo (t0_1.length : Int)) fun y214 => bif (!decide ((bits .andNot .u32 s1 y214) = (0 : Int))) then (some ((ByteArray.mk #[]), ([] : List ByteArray), ([] : List (Int × Zt0)), (6 : Int))) else (Option.bind (YiA lo (s1, (0 : Int), t0_0, t0_1, t0_2, (ByteArray.mk #[]), ([] : List ByteArray), ([] : List (Int × Zt0)), t0_0, [], [])) fun y216 => Option.bind (YiB lo (y216.1, (0 : Int), y216.2.1, y216.2.2.1, y216.2.2.2.1, y216.2.2.2.2.1, y216.2.2.2.2.2.1, y216.2.2.2.2.2.2.1, y216.2.2.2.2.2.2.2.1, y216.2.2.2.2.2.2.2.2.1, y216.2.2.2.2.2.2.2.2.2)) fun y239 => some (y239.2.2.2.1, y239.2.2.2.2.1, y239.2.2.2.2.2, (0 : Int))))
def YoJ : VCode :=
 (.seq (.reg [o 2 (.box (t 0)), o 4 (.alloc [.s (⟨#[]⟩), .e (cs [.s]), .e Zc1]), o 5 (.mv (k 0))])
 (.seq (.seq (.reg [o 11 (.load true 3 (t 2)), o 12 (.call 231 [(t 11)]), mV 6 12])
 (.seq (.reg [mV 13 6, o 14 (.bin .neq (t 13) (k 0))])
 (.cond (t 14) (.seq (.reg [o 15 (.build [.s (⟨#[]⟩), .e (cs [.s]), .e Zc1] []), mV 16 6, on (.store 3 (t 4) (t 15)), mV 5 16])
 (.fz [4, 5] .ret))
 .skip)))
 (.seq (.seq (.reg [mV 17 1, fD 18 1 2, lD 19 18, lN 20 19, o 21 (.call 118 [(t 20)]), o 22 (.bin .andNot (t 17) (t 21)), o 23 (.bin .neq (t 22) (ki .u32 0))])
 (.cond (t 23) (.seq (.reg [o 24 (.build [.s (⟨#[]⟩), .e (cs [.s]), .e Zc1] []), on (.store 3 (t 4) (t 24)), o 5 (.mv (k 6))])
 (.fz [4, 5] .ret))
 .skip))
 (.seq (.reg [fD 25 0 2, lD 26 25, o 27 (.build [.s (⟨#[]⟩), .e (cs [.s]), .e Zc1] [(0, 1, (t 26))]), o 7 (.alloc [.s (⟨#[]⟩), .e (cs [.s]), .e Zc1]), on (.store 3 (t 7) (t 27))])
 (.seq (.seq (.reg [o 8 (.mv (k 0))])
 (.blk 0 (.loop 11 q63_L11_b)))
 (.seq (.seq (.reg [o 9 (.mv (k 0))])
 (.blk 2 (.loop 3 q63_L3_b)))
 (.seq (.reg [o 80 (.load true 3 (t 7)), on (.store 3 (t 4) (t 80)), o 5 (.mv (k 0))])
 (.fz [4, 5] .ret))))))))
def YiD : VFn := ⟨true, 81, [.c 4 true 3, .t 5], YoJ⟩
def YiE (lo : Lo) : FnE := ⟨234, true, ⟨[0, 1], [.ag [.s, .l (cs [.s]), .l Zc1], .i .u32], [], Zc12⟩, .tp [.ag [.s, .l (cs [.s]), .l Zc1], .i .i64], [], Zc15, (fun x => q63 lo x.1 x.2.1 x.2.2.1 x.2.2.2 : ByteArray × Zt2 × Zt3 × Int -> Option (ByteArray × Zt2 × Zt3 × Int))⟩
theorem YwE (lo : Lo) : ∀ x : ByteArray × Zt2 × Zt3 × Int, evP (⟨pf, fs63 lo, [YiC lo, Yc1 lo], 0⟩ : Tabs) YiD ⟨[0, 1], [.ag [.s, .l (cs [.s]), .l Zc1], .i .u32], [], Zc12⟩ (.tp [.ag [.s, .l (cs [.s]), .l Zc1], .i .i64]) Zc15 x = q63 lo x.1 x.2.1 x.2.2.1 x.2.2.2 := fun x => by kernel_rfl
theorem YwF {P : Program} {fm : FM} {lo : Lo} (hlo : LoOK lo) (hS : Sound P fm ⟨pf, fs63 lo, [], 0⟩) (hm : P.follows .mixedOrders = true) (htie : Ti P fm 234 YiD) : Sound P fm ⟨pf, YiE lo :: fs63 lo, [], 0⟩ :=
  Yaf hS hm [YiC lo, Yc1 lo] (YiE lo) rfl YiD htie (by decide) rfl (Nat.le_of_ble_eq_true (by kernel_rfl)) (fun C hT => show LK C _ YoJ from ⟨tv, ⟨⟨tv, ⟨tv, ⟨⟨tv, tv⟩, tv⟩⟩⟩, ⟨⟨tv, ⟨⟨tv, tv⟩, tv⟩⟩, ⟨tv, ⟨⟨tv, (lsGet (by kernel_rfl) (YwB hlo C (Yai hT)))⟩, ⟨⟨tv, (lsGet (by kernel_rfl) (YwD hlo C (Yai hT)))⟩, ⟨tv, tv⟩⟩⟩⟩⟩⟩⟩) (fun x y h => (YwE lo x).trans h)
noncomputable def fs64 (lo : Lo) : List FnE := YiE lo :: fs63 lo
def q64_L3_b : VCode :=
 (.seq (.seq (.reg [mV 11 5, mV 12 0, lN 13 12, o 14 (.bin .lss (t 11) (t 13))])
 (.cond (t 14) .skip
 (.exit 0)))
 (.seq (.blk 1 (.seq (.reg [mV 17 0, mV 18 5, o 19 (.iad 1 (t 17) (t 18)), lD 20 19, mV 21 1, mV 22 5, o 23 (.iad 1 (t 21) (t 22)), lD 24 23, o 25 (.bin .neq (t 20) (t 24))])
 (.cond (t 25) (.seq (.reg [o 4 (.mv (kb false))])
 (.fz [4] .ret))
 .skip)))
 (.reg [mV 15 5, o 16 (.bin .add (t 15) (k 1)), mV 5 16])))
def YoK : Sg := ⟨[0, 1, 5], [.l (cs [.s]), .l (cs [.s]), .i .i64], [], (cs [.l (cs [.s]), .l (cs [.s]), I])⟩
def YoL : List Out1 := [⟨.ret, ⟨[4], [.b], [], (cs [.b])⟩⟩, ⟨.exit 0, ⟨[], [], [], (cs [])⟩⟩]
def Yex (lo : Lo) : Zt2 × Zt2 × Int -> Option ((Zt2 × Zt2 × Int) ⊕ (Bool ⊕ Unit)) := fun x => match x with
  | (a0, b1, i5) => bif (decide (i5 < (a0.length : Int))) then (chk (0 <= i5 /\ i5 < (a0.length : Int)) (chk (0 <= i5 /\ i5 < (b1.length : Int)) (bif (!decide ((a0.getD i5.toNat (ByteArray.mk #[])) = (b1.getD i5.toNat (ByteArray.mk #[])))) then (some (.inr (.inl false))) else (some (.inl (a0, b1, (IntKind.wrap .i64 (i5 + (1 : Int))))))))) else (some (.inr (.inr ())))
theorem YwG (lo : Lo) : ∀ x : Zt2 × Zt2 × Int, stepL (⟨pf, fs64 lo, [], 0⟩ : Tabs) [] YoK YoL q64_L3_b x = Yex lo x := fun x => by kernel_rfl
def YiF (lo : Lo) : Zt2 × Zt2 × Int -> Option (Bool ⊕ Unit) := lo.run (Yex lo)
def YiG (lo : Lo) : LpE := ⟨3, [], YoK, YoL, YiF lo⟩
theorem YwH {lo : Lo} (hlo : LoOK lo) (C : Ctx) (hT : TOK (⟨pf, fs64 lo, [], 0⟩ : Tabs) C) : LpSound (fun _ => False) [] 0 C (.loop q64_L3_b.er) (YiG lo) :=
  Yak hT frNo (show LK C _ q64_L3_b from ⟨⟨tv, ⟨tv, tv⟩⟩, ⟨⟨tv, ⟨⟨tv, tv⟩, tv⟩⟩, tv⟩⟩) (fun x y h => Yal (YwG lo) (hlo _ _ _ h))
def q64 (lo : Lo) (a0 : List ByteArray) (b1 : List ByteArray) : Option Bool :=
  bif (!decide ((a0.length : Int) = (b1.length : Int))) then (some false) else (Option.bind (YiF lo (a0, b1, (0 : Int))) fun y241 => alt2 y241 (fun y242 => some y242) (fun y243 => some true))
def YoM : VCode :=
 (.seq (.reg [o 4 (.mv (kb false))])
 (.seq (.seq (.reg [mV 6 0, lN 7 6, mV 8 1, lN 9 8, o 10 (.bin .neq (t 7) (t 9))])
 (.cond (t 10) (.seq (.reg [o 4 (.mv (kb false))])
 (.fz [4] .ret))
 .skip))
 (.seq (.seq (.reg [o 5 (.mv (k 0))])
 (.blk 0 (.loop 3 q64_L3_b)))
 (.seq (.reg [o 4 (.mv (kb true))])
 (.fz [4] .ret)))))
def YiH : VFn := ⟨true, 26, [.t 4], YoM⟩
def YiI (lo : Lo) : FnE := ⟨265, true, ⟨[0, 1], [.l (cs [.s]), .l (cs [.s])], [], (cs [.l (cs [.s]), .l (cs [.s])])⟩, .b, [], (cs [.b]), (fun x => q64 lo x.1 x.2 : Zt2 × Zt2 -> Option Bool)⟩
theorem YwI (lo : Lo) : ∀ x : Zt2 × Zt2, evP (⟨pf, fs64 lo, [YiG lo], 0⟩ : Tabs) YiH ⟨[0, 1], [.l (cs [.s]), .l (cs [.s])], [], (cs [.l (cs [.s]), .l (cs [.s])])⟩ (.b) (cs [.b]) x = q64 lo x.1 x.2 := fun x => by kernel_rfl
theorem YwJ {P : Program} {fm : FM} {lo : Lo} (hlo : LoOK lo) (hS : Sound P fm ⟨pf, fs64 lo, [], 0⟩) (hm : P.follows .mixedOrders = true) (htie : Ti P fm 265 YiH) : Sound P fm ⟨pf, YiI lo :: fs64 lo, [], 0⟩ :=
  Yaf hS hm [YiG lo] (YiI lo) rfl YiH htie (by decide) rfl (Nat.le_of_ble_eq_true (by kernel_rfl)) (fun C hT => show LK C _ YoM from ⟨tv, ⟨⟨tv, ⟨⟨tv, tv⟩, tv⟩⟩, ⟨⟨tv, (lsGet (by kernel_rfl) (YwH hlo C (Yai hT)))⟩, ⟨tv, tv⟩⟩⟩⟩) (fun x y h => (YwI lo x).trans h)
noncomputable def fs65 (lo : Lo) : List FnE := YiI lo :: fs64 lo
def q65 (lo : Lo) (a0_0 : Int) (a0_1 : List (Int × Int × ByteArray)) (b1_0 : Int) (b1_1 : List (Int × Int × ByteArray)) : Option Bool :=
  bif (decide (a0_0 = b1_0)) then (Option.bind (q61 lo a0_1 b1_1) fun y245 => some y245) else (some false)
def YoN : VCode :=
 (.seq (.reg [o 2 (.box (t 0)), o 3 (.box (t 1)), o 4 (.mv (kb false))])
 (.seq (.reg [fD 5 0 2, lD 6 5, fD 7 0 3, lD 8 7, o 9 (.bin .eql (t 6) (t 8)), mV 10 9, og 11 10 true (.fad 1 (t 2)), og 12 10 true (.load false 1 (t 11)), og 13 10 true (.fad 1 (t 3)), og 14 10 true (.load false 1 (t 13)), og 15 10 true (.call 297 [(t 12), (t 14)]), o 16 (.pick (t 10) (t 15) (kb false)), mV 4 16])
 (.fz [4] .ret)))
def YiJ : VFn := ⟨true, 17, [.t 4], YoN⟩
def YiK (lo : Lo) : FnE := ⟨266, true, ⟨[0, 1], [.ag [.i .i64, .l Zc4], .ag [.i .i64, .l Zc4]], [], (cs [I, .l Zc4, I, .l Zc4])⟩, .b, [], (cs [.b]), (fun x => q65 lo x.1 x.2.1 x.2.2.1 x.2.2.2 : Int × Zt0 × Int × Zt0 -> Option Bool)⟩
theorem YwK (lo : Lo) : ∀ x : Int × Zt0 × Int × Zt0, evP (⟨pf, fs65 lo, [], 0⟩ : Tabs) YiJ ⟨[0, 1], [.ag [.i .i64, .l Zc4], .ag [.i .i64, .l Zc4]], [], (cs [I, .l Zc4, I, .l Zc4])⟩ (.b) (cs [.b]) x = q65 lo x.1 x.2.1 x.2.2.1 x.2.2.2 := fun x => by kernel_rfl
theorem YwL {P : Program} {fm : FM} {lo : Lo} (hlo : LoOK lo) (hS : Sound P fm ⟨pf, fs65 lo, [], 0⟩) (hm : P.follows .mixedOrders = true) (htie : Ti P fm 266 YiJ) : Sound P fm ⟨pf, YiK lo :: fs65 lo, [], 0⟩ :=
  Yaf hS hm [] (YiK lo) rfl YiJ htie (by decide) rfl (Nat.le_of_ble_eq_true (by kernel_rfl)) (fun C hT => show LK C _ YoN from ⟨tv, ⟨tv, tv⟩⟩) (fun x y h => (YwK lo x).trans h)
noncomputable def fs66 (lo : Lo) : List FnE := YiK lo :: fs65 lo
end Go.Abs.G03
namespace Go.Abs.G03
open Go Go.Abs
set_option maxRecDepth 100000
set_option maxHeartbeats 1000000
def q66_L3_b : VCode :=
 (.seq (.seq (.reg [mV 28 5, fD 29 2 2, lD 30 29, lN 31 30, o 32 (.bin .lss (t 28) (t 31))])
 (.cond (t 32) .skip
 (.exit 0)))
 (.seq (.blk 1 (.seq (.reg [fD 35 2 2, lD 36 35, mV 37 5, o 38 (.iad 2 (t 36) (t 37)), o 39 (.load true 2 (t 38)), fD 40 2 3, lD 41 40, mV 42 5, o 43 (.iad 2 (t 41) (t 42)), o 44 (.load true 2 (t 43)), o 45 (.call 266 [(t 39), (t 44)]), o 46 (.not (t 45))])
 (.cond (t 46) (.seq (.reg [o 4 (.mv (kb false))])
 (.fz [4] .ret))
 .skip)))
 (.reg [mV 33 5, o 34 (.bin .add (t 33) (k 1)), mV 5 34])))
def YoO : Sg := ⟨[2, 3, 5], [.ptr 0 0 0, .ptr 1 0 0, .i .i64], [.st [.s, .l (cs [.s]), .l Zc1], .st [.s, .l (cs [.s]), .l Zc1]], (cs [I, .s, .l (cs [.s]), .l Zc1, .s, .l (cs [.s]), .l Zc1])⟩
def YoP : List Out1 := [⟨.ret, ⟨[4], [.b], [], (cs [.b])⟩⟩, ⟨.exit 0, ⟨[], [], [], (cs [])⟩⟩]
def Yey (lo : Lo) : Zp33 -> Option (Zp33 ⊕ (Bool ⊕ Unit)) := fun x => match x with
  | (i5, a2_0, a2_1, a2_2, b3_0, b3_1, b3_2) => bif (decide (i5 < (a2_2.length : Int))) then (chk (0 <= i5 /\ i5 < (a2_2.length : Int)) (chk (0 <= i5 /\ i5 < (b3_2.length : Int)) (Option.bind (q65 lo ((a2_2.getD i5.toNat ((0 : Int), [])).1) ((a2_2.getD i5.toNat ((0 : Int), [])).2) ((b3_2.getD i5.toNat ((0 : Int), [])).1) ((b3_2.getD i5.toNat ((0 : Int), [])).2)) fun y246 => bif (!y246) then (some (.inr (.inl false))) else (some (.inl ((IntKind.wrap .i64 (i5 + (1 : Int))), a2_0, a2_1, a2_2, b3_0, b3_1, b3_2)))))) else (some (.inr (.inr ())))
theorem YwM (lo : Lo) : ∀ x : Zp33, stepL (⟨pf, fs66 lo, [], 0⟩ : Tabs) [] YoO YoP q66_L3_b x = Yey lo x := fun x => by kernel_rfl
def YiL (lo : Lo) : Zp33 -> Option (Bool ⊕ Unit) := lo.run (Yey lo)
def YiM (lo : Lo) : LpE := ⟨3, [], YoO, YoP, YiL lo⟩
theorem YwN {lo : Lo} (hlo : LoOK lo) (C : Ctx) (hT : TOK (⟨pf, fs66 lo, [], 0⟩ : Tabs) C) : LpSound (fun _ => False) [] 0 C (.loop q66_L3_b.er) (YiM lo) :=
  Yak hT frNo (show LK C _ q66_L3_b from ⟨⟨tv, ⟨tv, tv⟩⟩, ⟨⟨tv, ⟨⟨tv, tv⟩, tv⟩⟩, tv⟩⟩) (fun x y h => Yal (YwM lo) (hlo _ _ _ h))
def q66 (lo : Lo) (a0_0 : ByteArray) (a0_1 : List ByteArray) (a0_2 : List (Int × Zt0)) (b1_0 : ByteArray) (b1_1 : List ByteArray) (b1_2 : List (Int × Zt0)) : Option Bool :=
  bif (!decide (a0_0 = b1_0)) then (some false) else (Option.bind (q64 lo a0_1 b1_1) fun y244 => bif (!y244) then (some false) else (bif (!decide ((a0_2.length : Int) = (b1_2.length : Int))) then (some false) else (Option.bind (YiL lo ((0 : Int), a0_0, a0_1, a0_2, b1_0, b1_1, b1_2)) fun y247 => alt2 y247 (fun y248 => some y248) (fun y249 => some true))))
def YoQ : VCode :=
 (.seq (.reg [o 2 (.box (t 0)), o 3 (.box (t 1)), o 4 (.mv (kb false))])
 (.seq (.seq (.reg [fD 6 0 2, lD 7 6, fD 8 0 3, lD 9 8, o 10 (.bin .neq (t 7) (t 9)), mV 11 10, og 12 11 false (.fad 1 (t 2)), og 13 11 false (.load false 1 (t 12)), og 14 11 false (.fad 1 (t 3)), og 15 11 false (.load false 1 (t 14)), og 16 11 false (.call 265 [(t 13), (t 15)]), og 17 11 false (.not (t 16)), o 18 (.pick (t 11) (kb true) (t 17)), mV 19 18, og 20 19 false (.fad 2 (t 2)), og 21 19 false (.load false 1 (t 20)), og 22 19 false (.len (t 21)), og 23 19 false (.fad 2 (t 3)), og 24 19 false (.load false 1 (t 23)), og 25 19 false (.len (t 24)), og 26 19 false (.bin .neq (t 22) (t 25)), o 27 (.pick (t 19) (kb true) (t 26))])
 (.cond (t 27) (.seq (.reg [o 4 (.mv (kb false))])
 (.fz [4] .ret))
 .skip))
 (.seq (.seq (.reg [o 5 (.mv (k 0))])
 (.blk 0 (.loop 3 q66_L3_b)))
 (.seq (.reg [o 4 (.mv (kb true))])
 (.fz [4] .ret)))))
def YiN : VFn := ⟨true, 47, [.t 4], YoQ⟩
def YiO (lo : Lo) : FnE := ⟨235, true, ⟨[0, 1], [.ag [.s, .l (cs [.s]), .l Zc1], .ag [.s, .l (cs [.s]), .l Zc1]], [], Zc6⟩, .b, [], (cs [.b]), (fun x => q66 lo x.1 x.2.1 x.2.2.1 x.2.2.2.1 x.2.2.2.2.1 x.2.2.2.2.2 : Zp36 -> Option Bool)⟩
theorem YwO (lo : Lo) : ∀ x : Zp36, evP (⟨pf, fs66 lo, [YiM lo], 0⟩ : Tabs) YiN ⟨[0, 1], [.ag [.s, .l (cs [.s]), .l Zc1], .ag [.s, .l (cs [.s]), .l Zc1]], [], Zc6⟩ (.b) (cs [.b]) x = q66 lo x.1 x.2.1 x.2.2.1 x.2.2.2.1 x.2.2.2.2.1 x.2.2.2.2.2 := fun x => by kernel_rfl
theorem YwP {P : Program} {fm : FM} {lo : Lo} (hlo : LoOK lo) (hS : Sound P fm ⟨pf, fs66 lo, [], 0⟩) (hm : P.follows .mixedOrders = true) (htie : Ti P fm 235 YiN) : Sound P fm ⟨pf, YiO lo :: fs66 lo, [], 0⟩ :=
  Yaf hS hm [YiM lo] (YiO lo) rfl YiN htie (by decide) rfl (Nat.le_of_ble_eq_true (by kernel_rfl)) (fun C hT => show LK C _ YoQ from ⟨tv, ⟨⟨tv, ⟨⟨tv, tv⟩, tv⟩⟩, ⟨⟨tv, (lsGet (by kernel_rfl) (YwN hlo C (Yai hT)))⟩, ⟨tv, tv⟩⟩⟩⟩) (fun x y h => (YwO lo x).trans h)
noncomputable def fs67 (lo : Lo) : List FnE := YiO lo :: fs66 lo
noncomputable def q67 (lo : Lo) (t0_0 : ByteArray) (t0_1 : List ByteArray) (t0_2 : List (Int × Zt0)) (s1 : Int) : Option Bool :=
  Option.bind (q44 lo) fun y207 => bif (!y207) then (Option.bind (q44 lo) fun y208 => some y208) else (Option.bind (q53 lo t0_0 t0_1 t0_2) fun y209 => bif (!y209) then (Option.bind (q44 lo) fun y210 => some y210) else (Option.bind (q18 lo t0_0 t0_1 t0_2 s1) fun y211 => Option.bind (q63 lo t0_0 t0_1 t0_2 s1) fun y240 => bif (!decide (y211.2.2.2 = y240.2.2.2)) then (some false) else (Option.bind (q66 lo y211.1 y211.2.1 y211.2.2.1 y240.1 y240.2.1 y240.2.2.1) fun y250 => bif (!y250) then (some false) else (Option.bind (q54 lo (t0_1.length : Int)) fun y251 => Option.bind (q18 lo t0_0 t0_1 t0_2 y251) fun y252 => Option.bind (q51 lo t0_0 t0_1 t0_2) fun y253 => bif (decide (y252.2.2.2 = y253)) then (bif (!decide (y252.2.2.2 = (0 : Int))) then (some true) else (Option.bind (q43 lo y252.1 y252.2.1 y252.2.2.1 t0_0 t0_1 t0_2) fun y254 => some y254)) else (some false)))))
def YoR : VCode :=
 (.seq (.reg [o 2 (.box (t 0)), o 4 (.mv (kb false))])
 (.seq (.seq (.reg [o 11 (.call 229 []), o 12 (.not (t 11)), mV 13 12, og 14 13 false (.load true 3 (t 2)), og 15 13 false (.call 232 [(t 14)]), og 16 13 false (.not (t 15)), o 17 (.pick (t 13) (kb true) (t 16))])
 (.cond (t 17) (.seq (.reg [o 18 (.call 229 []), mV 4 18])
 (.fz [4] .ret))
 .skip))
 (.seq (.reg [o 20 (.load true 3 (t 2)), mV 21 1, o 22 (.call 233 [(t 20), (t 21)]), mV 19 22, eX 23 19 0, eX 24 19 1, o 5 (.alloc [.s (⟨#[]⟩), .e (cs [.s]), .e Zc1]), on (.store 3 (t 5) (t 23)), mV 6 24])
 (.seq (.reg [o 26 (.load true 3 (t 2)), mV 27 1, o 28 (.call 234 [(t 26), (t 27)]), mV 25 28, eX 29 25 0, eX 30 25 1, o 7 (.alloc [.s (⟨#[]⟩), .e (cs [.s]), .e Zc1]), on (.store 3 (t 7) (t 29)), mV 8 30])
 (.seq (.seq (.reg [mV 31 6, mV 32 8, o 33 (.bin .neq (t 31) (t 32)), mV 34 33, og 35 34 false (.load true 3 (t 5)), og 36 34 false (.load true 3 (t 7)), og 37 34 false (.call 235 [(t 35), (t 36)]), og 38 34 false (.not (t 37)), o 39 (.pick (t 34) (kb true) (t 38))])
 (.cond (t 39) (.seq (.reg [o 4 (.mv (kb false))])
 (.fz [4] .ret))
 .skip))
 (.seq (.reg [⟨some 41, .load true 3 (t 2), none, true, false⟩, fD 42 1 2, ⟨some 43, .load false 1 (t 42), none, true, false⟩, lN 44 43, ⟨some 45, .call 118 [(t 44)], none, true, false⟩, ⟨some 46, .call 233 [(t 41), (t 45)], none, true, false⟩, mV 40 46, eX 47 40 0, eX 48 40 1, o 9 (.alloc [.s (⟨#[]⟩), .e (cs [.s]), .e Zc1]), on (.store 3 (t 9) (t 47)), mV 10 48])
 (.seq (.reg [mV 49 10, o 50 (.load true 3 (t 2)), o 51 (.call 231 [(t 50)]), o 52 (.bin .eql (t 49) (t 51)), mV 53 52, og 54 53 true (.mv (t 10)), og 55 53 true (.bin .neq (t 54) (k 0)), og 56 53 true (.mv (t 55)), og 57 56 false (.load true 3 (t 9)), og 58 56 false (.load true 3 (t 2)), og 59 56 false (.call 236 [(t 57), (t 58)]), og 60 53 true (.pick (t 56) (kb true) (t 59)), o 61 (.pick (t 53) (t 60) (kb false)), mV 4 61])
 (.fz [4] .ret))))))))
def YiP : VFn := ⟨true, 62, [.t 4], YoR⟩
noncomputable def q67_f (lo : Lo) : FnE := ⟨220, true, ⟨[0, 1], [.ag [.s, .l (cs [.s]), .l Zc1], .i .u32], [], Zc12⟩, .b, [], (cs [.b]), (fun x => q67 lo x.1 x.2.1 x.2.2.1 x.2.2.2 : ByteArray × Zt2 × Zt3 × Int -> Option Bool)⟩
theorem YwQ (lo : Lo) : ∀ x : ByteArray × Zt2 × Zt3 × Int, evP (⟨pf, fs67 lo, [], 0⟩ : Tabs) YiP ⟨[0, 1], [.ag [.s, .l (cs [.s]), .l Zc1], .i .u32], [], Zc12⟩ (.b) (cs [.b]) x = q67 lo x.1 x.2.1 x.2.2.1 x.2.2.2 := fun x => by kernel_rfl
theorem YwR {P : Program} {fm : FM} {lo : Lo} (hlo : LoOK lo) (hS : Sound P fm ⟨pf, fs67 lo, [], 0⟩) (hm : P.follows .mixedOrders = true) (htie : Ti P fm 220 YiP) : Sound P fm ⟨pf, q67_f lo :: fs67 lo, [], 0⟩ :=
  Yaf hS hm [] (q67_f lo) rfl YiP htie (by decide) rfl (Nat.le_of_ble_eq_true (by kernel_rfl)) (fun C hT => show LK C _ YoR from ⟨tv, ⟨⟨tv, ⟨⟨tv, tv⟩, tv⟩⟩, ⟨tv, ⟨tv, ⟨⟨tv, ⟨⟨tv, tv⟩, tv⟩⟩, ⟨tv, ⟨tv, tv⟩⟩⟩⟩⟩⟩⟩) (fun x y h => (YwQ lo x).trans h)
noncomputable def fs68 (lo : Lo) : List FnE := q67_f lo :: fs67 lo
end Go.Abs.G03
