/- Functions of the program as functions of data (written by program). No condition. -/
import Derived.Test.YtkgoecnchnbbfaaB
set_option linter.unusedVariables false
set_option linter.unusedSimpArgs false
set_option linter.unusedSectionVars false
namespace Go.Abs.G03
open Go Go.Abs
abbrev Zt0 : Type := List (Int × Int × ByteArray)
abbrev Zc4 : Cs := cs [I, I, .s]
abbrev Zc1 : Cs := cs [I, .l Zc4]
abbrev Zt2 : Type := List ByteArray
abbrev Zt3 : Type := List (Int × Zt0)
abbrev Zt5 : Type := List (Int × ByteArray × Zt0)
abbrev Zc6 : Cs := cs [.s, .l (cs [.s]), .l Zc1, I]
abbrev Zc7 : Cs := cs [.s, .l (cs [.s]), .l Zc1, .s, .l (cs [.s]), .l Zc1]
abbrev Zc8 : Cs := cs [.s, .l (cs [.s]), .l Zc1]
abbrev Zc13 : Cs := cs [I, .s, .l Zc4]
abbrev Zc9 : Cs := cs [.l (cs [I]), .l Zc1, I, I, .s, .l (cs [.s]), .l Zc1, .s, .l (cs [.s]), .l Zc1, .s, I, .l Zc13, .b, .l (cs [.s]), .l Zc1]
abbrev Zt10 : Type := List (Int × ByteArray × Bool)
abbrev Zc11 : Cs := cs [.l (cs [.s])]
abbrev Zc12 : Cs := cs [I, I, I, .b, .b, .l (cs [.s])]
abbrev Zc14 : Cs := cs [I, I, I, .l (cs [.s])]
abbrev Zc15 : Cs := cs [.l (cs [I]), .l Zc1, I, I, .l Zc1, I, I, .s, .l (cs [.s]), .l Zc1, .s, .l (cs [.s]), .l Zc1, .s, I, .l Zc13, .b, I, .l Zc4, .l (cs [.s]), .l Zc1]
abbrev Zc16 : Cs := cs [.l Zc1]
abbrev Zc17 : Cs := cs [.s, .l (cs [.s]), .l Zc1, .l Zc1]
abbrev Zc18 : Cs := cs [.l (cs [.s]), I, I, .s, .l (cs [.s]), .l Zc1, .s, .l (cs [.s]), .l Zc1, .s, .l (cs [.s]), .l Zc1, .s, .l (cs [I]), .l (cs [.s]), .l Zc1]
abbrev Zc19 : Cs := cs [.i .u32, .l Zc1, I, I, .l Zc4, I, I, .s, .l (cs [.s]), .l Zc1, .s, I, .l (cs [I, .s, .b]), .b, I, .l (cs [.s]), .l Zc1, .l Zc4]
abbrev Zt20 : Type := List (Zt3)
abbrev Zc21 : Cs := cs [I, I, .l (cs [.s])]
abbrev Zp22 : Type := (List Int) × Zt3 × Int × Int × Zt3 × Int × Int × ByteArray × Zt2 × Zt3 × ByteArray × Zt2 × Zt3 × ByteArray × Int × Zt5 × Bool × Int × Zt0 × Zt2 × Zt3
abbrev Zp23 : Type := Zt2 × Int × Int × ByteArray × Zt2 × Zt3 × ByteArray × Zt2 × Zt3 × ByteArray × Zt2 × Zt3 × ByteArray × (List Int) × Zt2 × Zt3
abbrev Zp24 : Type := Int × Zt3 × Int × Int × Zt0 × Int × Int × ByteArray × Zt2 × Zt3 × ByteArray × Int × Zt10 × Bool × Int × Zt2 × Zt3 × Zt0
abbrev Zp25 : Type := (List Int) × Zt3 × Int × Int × ByteArray × Zt2 × Zt3 × ByteArray × Zt2 × Zt3 × ByteArray × Int × Zt5 × Bool × Zt2 × Zt3
abbrev Zp26 : Type := (ByteArray × Zt2 × Zt3 × ByteArray × Int × Zt5 × Bool × Zt2 × Int × Int × (List Int) × Bool × Zt2 × Zt3)
abbrev Zp27 : Type := Int × Zt2 × Int × Int × ByteArray × Zt2 × Zt3 × ByteArray × Zt2 × Zt3 × ByteArray × Zt2 × Zt3
abbrev Zp28 : Type := Int × Zt3 × Int × Int × ByteArray × Zt2 × Zt3 × ByteArray × Int × Zt10 × Bool × Zt2 × Zt3
abbrev Zp29 : Type := Int × Int × ByteArray × Zt2 × Zt3 × ByteArray × Int × Zt5 × Bool × Zt2 × Zt2 × Zt3
abbrev Zp30 : Type := (ByteArray × Zt2 × Zt3 × ByteArray × Int × Zt5 × Bool × Zt2 × Zt2 × Zt3)
abbrev Zp31 : Type := Zt3 × Int × Int × ByteArray × Zt2 × Zt3 × ByteArray × Zt2 × Zt3
abbrev Zp32 : Type := Zt3 × Int × ByteArray × Zt2 × Zt3 × ByteArray × Zt2 × Zt3
abbrev Zp33 : Type := Int × ByteArray × Zt2 × Zt3 × ByteArray × Zt2 × Zt3
abbrev Zp34 : Type := Int × Zt3 × Int × Int × ByteArray × Zt2 × Zt3
abbrev Zp35 : Type := Int × Int × Int × Int × ByteArray × ByteArray
abbrev Zp36 : Type := ByteArray × Zt2 × Zt3 × ByteArray × Zt2 × Zt3
abbrev Zp37 : Type := Zt0 × Zt0 × (List Int) × Int × Int × Zt0
abbrev Zp38 : Type := Zt2 × Int × Int × ByteArray × Zt2 × Zt3
abbrev Zp39 : Type := Int × Int × Int × Bool × Bool × Zt2
abbrev Zp40 : Type := Int × Int × ByteArray × Zt2 × Zt3
abbrev mV (n a : Nat) : VI := o n (.mv (t a))
abbrev lD (n a : Nat) : VI := o n (.load false 1 (t a))
abbrev fD (n i a : Nat) : VI := o n (.fad i (t a))
abbrev eX (n a i : Nat) : VI := o n (.ext (t a) i)
abbrev lN (n a : Nat) : VI := o n (.len (t a))
theorem tv : True := trivial
abbrev LK (C : Ctx) (T : Tabs) (c : VCode) : Prop := LsOK (fun _ => False) [] C T c
set_option maxRecDepth 100000
set_option maxHeartbeats 1000000
abbrev pf : Nat -> Bool := fun g => !(List.any ([310, 277, 278, 286, 293, 149, 151, 298, 299, 309, 164, 196, 323, 324, 327, 271, 288, 301, 307, 311, 312, 313, 315, 316, 318, 319, 321, 322, 326, 269, 305] : List Nat) (Nat.beq g))
abbrev Ti (P : Program) (fm : FM) (g : Nat) (F : VFn) : Prop := ∀ f, fm f = g -> fnTr P fm pf f = some (F.slots, F.res, F.code.er)
def fs0 (_ : Lo) : List FnE := []
def q0 (lo : Lo) (n0 : Int) : Option (Int × Int × ByteArray) :=
  some ((1 : Int), n0, (ByteArray.mk #[]))
def q0_c : VCode :=
 (.seq (.reg [o 2 (.alloc [.i .i64 0, .i .i64 0, .s (⟨#[]⟩)])])
 (.seq (.reg [mV 3 0, o 4 (.build [.i .i64 0, .i .i64 0, .s (⟨#[]⟩)] [(0, 1, (k 1)), (1, 1, (t 3))]), on (.store 3 (t 2) (t 4))])
 (.fz [2] .ret)))
def q0_F : VFn := ⟨true, 5, [.c 2 true 3], q0_c⟩
def q0_f (lo : Lo) : FnE := ⟨291, true, ⟨[0], [.i .i64], [], (cs [I])⟩, .ag [.i .i64, .i .i64, .s], [], Zc4, (fun x => q0 lo x : Int -> Option (Int × Int × ByteArray))⟩
theorem q0_e (lo : Lo) : ∀ x : Int, evP (⟨pf, fs0 lo, [], 0⟩ : Tabs) q0_F ⟨[0], [.i .i64], [], (cs [I])⟩ (.ag [.i .i64, .i .i64, .s]) Zc4 x = q0 lo x := fun x => by kernel_rfl
theorem q0_S {P : Program} {fm : FM} {lo : Lo} (hlo : LoOK lo) (hS : Sound P fm ⟨pf, fs0 lo, [], 0⟩) (hm : P.follows .mixedOrders = true) (htie : Ti P fm 291 q0_F) : Sound P fm ⟨pf, q0_f lo :: fs0 lo, [], 0⟩ :=
  fn_sound hS hm [] (q0_f lo) rfl q0_F htie (by decide) rfl (Nat.le_of_ble_eq_true (by kernel_rfl)) (fun C hT => show LK C _ q0_c from ⟨tv, ⟨tv, tv⟩⟩) (fun x y h => (q0_e lo x).trans h)
def fs1 (lo : Lo) : List FnE := q0_f lo :: fs0 lo
def q1 (lo : Lo) (s0 : ByteArray) : Option (Int × Int × ByteArray) :=
  some ((2 : Int), (0 : Int), s0)
def q1_c : VCode :=
 (.seq (.reg [o 2 (.alloc [.i .i64 0, .i .i64 0, .s (⟨#[]⟩)])])
 (.seq (.reg [mV 3 0, o 4 (.build [.i .i64 0, .i .i64 0, .s (⟨#[]⟩)] [(0, 1, (k 2)), (2, 1, (t 3))]), on (.store 3 (t 2) (t 4))])
 (.fz [2] .ret)))
def q1_F : VFn := ⟨true, 5, [.c 2 true 3], q1_c⟩
def q1_f (lo : Lo) : FnE := ⟨292, true, ⟨[0], [.s], [], (cs [.s])⟩, .ag [.i .i64, .i .i64, .s], [], Zc4, (fun x => q1 lo x : ByteArray -> Option (Int × Int × ByteArray))⟩
theorem q1_e (lo : Lo) : ∀ x : ByteArray, evP (⟨pf, fs1 lo, [], 0⟩ : Tabs) q1_F ⟨[0], [.s], [], (cs [.s])⟩ (.ag [.i .i64, .i .i64, .s]) Zc4 x = q1 lo x := fun x => by kernel_rfl
theorem q1_S {P : Program} {fm : FM} {lo : Lo} (hlo : LoOK lo) (hS : Sound P fm ⟨pf, fs1 lo, [], 0⟩) (hm : P.follows .mixedOrders = true) (htie : Ti P fm 292 q1_F) : Sound P fm ⟨pf, q1_f lo :: fs1 lo, [], 0⟩ :=
  fn_sound hS hm [] (q1_f lo) rfl q1_F htie (by decide) rfl (Nat.le_of_ble_eq_true (by kernel_rfl)) (fun C hT => show LK C _ q1_c from ⟨tv, ⟨tv, tv⟩⟩) (fun x y h => (q1_e lo x).trans h)
def fs2 (lo : Lo) : List FnE := q1_f lo :: fs1 lo
def q2 (lo : Lo) : Option (ByteArray × Zt2 × Zt3) :=
  Option.bind (q0 lo (5 : Int)) fun y0 => Option.bind (q1 lo (ByteArray.mk #[120])) fun y1 => Option.bind (q0 lo (5 : Int)) fun y2 => Option.bind (q1 lo (ByteArray.mk #[121])) fun y3 => Option.bind (q0 lo (7 : Int)) fun y4 => Option.bind (q1 lo (ByteArray.mk #[120])) fun y5 => some ((ByteArray.mk #[114]), [(ByteArray.mk #[97]), (ByteArray.mk #[98])], [((1 : Int), [y0, y1]), ((2 : Int), [y2, y3]), ((4 : Int), [y4, y5])])
def q2_c : VCode :=
 (.seq (.reg [o 0 (.alloc [.s (⟨#[]⟩), .e (cs [.s]), .e Zc1])])
 (.seq (.reg [o 1 (.mv (.c (.f 291)))])
 (.seq (.reg [o 2 (.mv (.c (.f 292)))])
 (.seq (.reg [o 3 (.bsl (cs [.s]) 2 [(0, (ks (⟨#[97]⟩))), (1, (ks (⟨#[98]⟩)))]), mV 4 1, o 5 (.dyn (t 4) [(k 5)]), mV 6 2, o 7 (.dyn (t 6) [(ks (⟨#[120]⟩))]), o 8 (.bsl Zc4 2 [(0, (t 5)), (1, (t 7))]), o 9 (.build [.i .i64 0, .e Zc4] [(0, 1, (k 1)), (1, 1, (t 8))]), mV 10 1, o 11 (.dyn (t 10) [(k 5)]), mV 12 2, o 13 (.dyn (t 12) [(ks (⟨#[121]⟩))]), o 14 (.bsl Zc4 2 [(0, (t 11)), (1, (t 13))]), o 15 (.build [.i .i64 0, .e Zc4] [(0, 1, (k 2)), (1, 1, (t 14))]), mV 16 1, o 17 (.dyn (t 16) [(k 7)]), mV 18 2, o 19 (.dyn (t 18) [(ks (⟨#[120]⟩))]), o 20 (.bsl Zc4 2 [(0, (t 17)), (1, (t 19))]), o 21 (.build [.i .i64 0, .e Zc4] [(0, 1, (k 4)), (1, 1, (t 20))]), o 22 (.bsl Zc1 3 [(0, (t 9)), (1, (t 15)), (2, (t 21))]), o 23 (.build [.s (⟨#[]⟩), .e (cs [.s]), .e Zc1] [(0, 1, (ks (⟨#[114]⟩))), (1, 1, (t 3)), (2, 1, (t 22))]), on (.store 3 (t 0) (t 23))])
 (.fz [0] .ret)))))
def q2_F : VFn := ⟨true, 24, [.c 0 true 3], q2_c⟩
def q2_f (lo : Lo) : FnE := ⟨254, true, ⟨[], [], [], (cs [])⟩, .ag [.s, .l (cs [.s]), .l Zc1], [], Zc8, (fun x => q2 lo  : Unit -> Option (ByteArray × Zt2 × Zt3))⟩
theorem q2_e (lo : Lo) : ∀ x : Unit, evP (⟨pf, fs2 lo, [], 0⟩ : Tabs) q2_F ⟨[], [], [], (cs [])⟩ (.ag [.s, .l (cs [.s]), .l Zc1]) Zc8 x = q2 lo  := fun x => by kernel_rfl
theorem q2_S {P : Program} {fm : FM} {lo : Lo} (hlo : LoOK lo) (hS : Sound P fm ⟨pf, fs2 lo, [], 0⟩) (hm : P.follows .mixedOrders = true) (htie : Ti P fm 254 q2_F) : Sound P fm ⟨pf, q2_f lo :: fs2 lo, [], 0⟩ :=
  fn_sound hS hm [] (q2_f lo) rfl q2_F htie (by decide) rfl (Nat.le_of_ble_eq_true (by kernel_rfl)) (fun C hT => show LK C _ q2_c from ⟨tv, ⟨tv, ⟨tv, ⟨tv, tv⟩⟩⟩⟩) (fun x y h => (q2_e lo x).trans h)
def fs3 (lo : Lo) : List FnE := q2_f lo :: fs2 lo
def q3_L3_b : VCode :=
 (.seq (.reg [o 20 (.bin .lss (t 19) (t 18))])
 (.seq (.cond (t 20) .skip
 (.exit 0))
 (.seq (.blk 1 (.seq (.reg [mV 21 19, mV 3 21])
 (.seq (.reg [mV 22 0, mV 23 3, o 24 (.idx (t 22) (t 23)), mV 4 24])
 (.seq (.reg [mV 25 4, o 26 (.bin .geq (t 25) (ki .u8 97)), mV 27 26, og 28 27 true (.mv (t 4)), og 29 27 true (.bin .leq (t 28) (ki .u8 122)), o 30 (.pick (t 27) (t 29) (kb false)), mV 31 30, og 32 31 false (.mv (t 4)), og 33 31 false (.bin .geq (t 32) (ki .u8 65)), og 34 31 false (.mv (t 33)), og 35 34 true (.mv (t 4)), og 36 34 true (.bin .leq (t 35) (ki .u8 90)), og 37 31 false (.pick (t 34) (t 36) (kb false)), o 38 (.pick (t 31) (kb true) (t 37)), mV 39 38, og 40 39 false (.mv (t 4)), og 41 39 false (.bin .eql (t 40) (ki .u8 95)), o 42 (.pick (t 39) (kb true) (t 41)), mV 5 42])
 (.seq (.reg [mV 43 5, o 44 (.not (t 43)), mV 45 44, og 46 45 true (.mv (t 3)), og 47 45 true (.bin .eql (t 46) (k 0)), og 48 45 true (.mv (t 47)), og 49 48 false (.mv (t 4)), og 50 48 false (.bin .lss (t 49) (ki .u8 48)), og 51 45 true (.pick (t 48) (kb true) (t 50)), og 52 45 true (.mv (t 51)), og 53 52 false (.mv (t 4)), og 54 52 false (.bin .gtr (t 53) (ki .u8 57)), og 55 45 true (.pick (t 52) (kb true) (t 54)), o 56 (.pick (t 45) (t 55) (kb false))])
 (.cond (t 56) (.seq (.reg [o 2 (.mv (kb false))])
 (.fz [2] .ret))
 .skip))))))
 (.reg [o 57 (.bin .add (t 19) (k 1)), mV 19 57]))))
def q3_L3_g : Sg := ⟨[0, 18, 19], [.s, .i .i64, .i .i64], [], (cs [.s, I, I])⟩
def q3_L3_o : List Out1 := [⟨.ret, ⟨[2], [.b], [], (cs [.b])⟩⟩, ⟨.exit 0, ⟨[], [], [], (cs [])⟩⟩]
def q3_L3_s (lo : Lo) : ByteArray × Int × Int -> Option ((ByteArray × Int × Int) ⊕ (Bool ⊕ Unit)) := fun x => match x with
  | (s0, v18, v19) => bif (decide (v19 < v18)) then (chk (0 <= v19 /\ v19 < (s0.size : Int)) (bif (decide ((97 : Int) <= (byteI s0 v19))) then (bif (decide ((byteI s0 v19) <= (122 : Int))) then (bif (!true) then (bif (decide (v19 = (0 : Int))) then (some (.inr (.inl false))) else (bif (decide ((byteI s0 v19) < (48 : Int))) then (some (.inr (.inl false))) else (bif (decide ((57 : Int) < (byteI s0 v19))) then (some (.inr (.inl false))) else (some (.inl (s0, v18, (IntKind.wrap .i64 (v19 + (1 : Int))))))))) else (some (.inl (s0, v18, (IntKind.wrap .i64 (v19 + (1 : Int))))))) else (bif (decide ((65 : Int) <= (byteI s0 v19))) then (bif (decide ((byteI s0 v19) <= (90 : Int))) then (bif (!true) then (bif (decide (v19 = (0 : Int))) then (some (.inr (.inl false))) else (bif (decide ((byteI s0 v19) < (48 : Int))) then (some (.inr (.inl false))) else (bif (decide ((57 : Int) < (byteI s0 v19))) then (some (.inr (.inl false))) else (some (.inl (s0, v18, (IntKind.wrap .i64 (v19 + (1 : Int))))))))) else (some (.inl (s0, v18, (IntKind.wrap .i64 (v19 + (1 : Int))))))) else (bif (!(decide ((byteI s0 v19) = (95 : Int)))) then (bif (decide (v19 = (0 : Int))) then (some (.inr (.inl false))) else (bif (decide ((byteI s0 v19) < (48 : Int))) then (some (.inr (.inl false))) else (bif (decide ((57 : Int) < (byteI s0 v19))) then (some (.inr (.inl false))) else (some (.inl (s0, v18, (IntKind.wrap .i64 (v19 + (1 : Int))))))))) else (some (.inl (s0, v18, (IntKind.wrap .i64 (v19 + (1 : Int)))))))) else (bif (!(decide ((byteI s0 v19) = (95 : Int)))) then (bif (decide (v19 = (0 : Int))) then (some (.inr (.inl false))) else (bif (decide ((byteI s0 v19) < (48 : Int))) then (some (.inr (.inl false))) else (bif (decide ((57 : Int) < (byteI s0 v19))) then (some (.inr (.inl false))) else (some (.inl (s0, v18, (IntKind.wrap .i64 (v19 + (1 : Int))))))))) else (some (.inl (s0, v18, (IntKind.wrap .i64 (v19 + (1 : Int))))))))) else (bif (decide ((65 : Int) <= (byteI s0 v19))) then (bif (decide ((byteI s0 v19) <= (90 : Int))) then (bif (!true) then (bif (decide (v19 = (0 : Int))) then (some (.inr (.inl false))) else (bif (decide ((byteI s0 v19) < (48 : Int))) then (some (.inr (.inl false))) else (bif (decide ((57 : Int) < (byteI s0 v19))) then (some (.inr (.inl false))) else (some (.inl (s0, v18, (IntKind.wrap .i64 (v19 + (1 : Int))))))))) else (some (.inl (s0, v18, (IntKind.wrap .i64 (v19 + (1 : Int))))))) else (bif (!(decide ((byteI s0 v19) = (95 : Int)))) then (bif (decide (v19 = (0 : Int))) then (some (.inr (.inl false))) else (bif (decide ((byteI s0 v19) < (48 : Int))) then (some (.inr (.inl false))) else (bif (decide ((57 : Int) < (byteI s0 v19))) then (some (.inr (.inl false))) else (some (.inl (s0, v18, (IntKind.wrap .i64 (v19 + (1 : Int))))))))) else (some (.inl (s0, v18, (IntKind.wrap .i64 (v19 + (1 : Int)))))))) else (bif (!(decide ((byteI s0 v19) = (95 : Int)))) then (bif (decide (v19 = (0 : Int))) then (some (.inr (.inl false))) else (bif (decide ((byteI s0 v19) < (48 : Int))) then (some (.inr (.inl false))) else (bif (decide ((57 : Int) < (byteI s0 v19))) then (some (.inr (.inl false))) else (some (.inl (s0, v18, (IntKind.wrap .i64 (v19 + (1 : Int))))))))) else (some (.inl (s0, v18, (IntKind.wrap .i64 (v19 + (1 : Int)))))))))) else (some (.inr (.inr ())))
theorem q3_L3_e (lo : Lo) : ∀ x : ByteArray × Int × Int, stepL (⟨pf, fs3 lo, [], 0⟩ : Tabs) [] q3_L3_g q3_L3_o q3_L3_b x = q3_L3_s lo x := fun x => by kernel_rfl
def q3_L3 (lo : Lo) : ByteArray × Int × Int -> Option (Bool ⊕ Unit) := lo.run (q3_L3_s lo)
def q3_L3_p (lo : Lo) : LpE := ⟨3, [], q3_L3_g, q3_L3_o, q3_L3 lo⟩
theorem q3_L3_k {lo : Lo} (hlo : LoOK lo) (C : Ctx) (hT : TOK (⟨pf, fs3 lo, [], 0⟩ : Tabs) C) : LpSound (fun _ => False) [] 0 C (.loop q3_L3_b.er) (q3_L3_p lo) :=
  loop_sound hT frNo (show LK C _ q3_L3_b from ⟨tv, ⟨⟨tv, tv⟩, ⟨⟨tv, ⟨tv, ⟨tv, ⟨tv, ⟨⟨tv, tv⟩, tv⟩⟩⟩⟩⟩, tv⟩⟩⟩) (fun x y h => loopO_congr (q3_L3_e lo) (hlo _ _ _ h))
def q3 (lo : Lo) (s0 : ByteArray) : Option Bool :=
  bif (decide (s0 = (ByteArray.mk #[]))) then (some false) else (bif (decide ((24 : Int) < (s0.size : Int))) then (some false) else (bif (decide (s0 = (ByteArray.mk #[110, 117, 108, 108]))) then (some false) else (Option.bind (q3_L3 lo (s0, (s0.size : Int), (0 : Int))) fun y7 => alt2 y7 (fun y8 => some y8) (fun y9 => some true))))
def q3_c : VCode :=
 (.seq (.reg [o 2 (.mv (kb false))])
 (.seq (.seq (.reg [mV 6 0, o 7 (.bin .eql (t 6) (ks (⟨#[]⟩))), mV 8 7, og 9 8 false (.mv (t 0)), og 10 8 false (.lenS (t 9)), og 11 8 false (.bin .gtr (t 10) (k 24)), o 12 (.pick (t 8) (kb true) (t 11)), mV 13 12, og 14 13 false (.mv (t 0)), og 15 13 false (.bin .eql (t 14) (ks (⟨#[110, 117, 108, 108]⟩))), o 16 (.pick (t 13) (kb true) (t 15))])
 (.cond (t 16) (.seq (.reg [o 2 (.mv (kb false))])
 (.fz [2] .ret))
 .skip))
 (.seq (.seq (.reg [mV 17 0, o 18 (.lenS (t 17)), o 19 (.mv (k 0))])
 (.blk 0 (.loop 3 q3_L3_b)))
 (.seq (.reg [o 2 (.mv (kb true))])
 (.fz [2] .ret)))))
def q3_F : VFn := ⟨true, 58, [.t 2], q3_c⟩
def q3_f (lo : Lo) : FnE := ⟨255, true, ⟨[0], [.s], [], (cs [.s])⟩, .b, [], (cs [.b]), (fun x => q3 lo x : ByteArray -> Option Bool)⟩
theorem q3_e (lo : Lo) : ∀ x : ByteArray, evP (⟨pf, fs3 lo, [q3_L3_p lo], 0⟩ : Tabs) q3_F ⟨[0], [.s], [], (cs [.s])⟩ (.b) (cs [.b]) x = q3 lo x := fun x => by kernel_rfl
theorem q3_S {P : Program} {fm : FM} {lo : Lo} (hlo : LoOK lo) (hS : Sound P fm ⟨pf, fs3 lo, [], 0⟩) (hm : P.follows .mixedOrders = true) (htie : Ti P fm 255 q3_F) : Sound P fm ⟨pf, q3_f lo :: fs3 lo, [], 0⟩ :=
  fn_sound hS hm [q3_L3_p lo] (q3_f lo) rfl q3_F htie (by decide) rfl (Nat.le_of_ble_eq_true (by kernel_rfl)) (fun C hT => show LK C _ q3_c from ⟨tv, ⟨⟨tv, ⟨⟨tv, tv⟩, tv⟩⟩, ⟨⟨tv, (lsGet (by kernel_rfl) (q3_L3_k hlo C (tok_ls hT)))⟩, ⟨tv, tv⟩⟩⟩⟩) (fun x y h => (q3_e lo x).trans h)
def fs4 (lo : Lo) : List FnE := q3_f lo :: fs3 lo
def q4_L3_b : VCode :=
 (.seq (.reg [o 9 (.bin .lss (t 8) (t 7))])
 (.seq (.cond (t 9) .skip
 (.exit 0))
 (.seq (.blk 1 (.seq (.reg [mV 10 8, mV 5 10])
 (.seq (.reg [mV 11 1, mV 12 0, mV 13 5, o 14 (.iad 1 (t 12) (t 13)), lD 15 14, o 16 (.bin .eql (t 11) (t 15))])
 (.cond (t 16) (.seq (.reg [mV 17 5, mV 4 17])
 (.fz [4] .ret))
 .skip))))
 (.reg [o 18 (.bin .add (t 8) (k 1)), mV 8 18]))))
def q4_L3_g : Sg := ⟨[0, 1, 7, 8], [.l (cs [.s]), .s, .i .i64, .i .i64], [], (cs [.l (cs [.s]), .s, I, I])⟩
def q4_L3_o : List Out1 := [⟨.ret, ⟨[4], [.i .i64], [], (cs [I])⟩⟩, ⟨.exit 0, ⟨[], [], [], (cs [])⟩⟩]
def q4_L3_s (lo : Lo) : Zt2 × ByteArray × Int × Int -> Option ((Zt2 × ByteArray × Int × Int) ⊕ (Int ⊕ Unit)) := fun x => match x with
  | (s0, v1, v7, v8) => bif (decide (v8 < v7)) then (chk (0 <= v8 /\ v8 < (s0.length : Int)) (bif (decide (v1 = (s0.getD v8.toNat (ByteArray.mk #[])))) then (some (.inr (.inl v8))) else (some (.inl (s0, v1, v7, (IntKind.wrap .i64 (v8 + (1 : Int)))))))) else (some (.inr (.inr ())))
theorem q4_L3_e (lo : Lo) : ∀ x : Zt2 × ByteArray × Int × Int, stepL (⟨pf, fs4 lo, [], 0⟩ : Tabs) [] q4_L3_g q4_L3_o q4_L3_b x = q4_L3_s lo x := fun x => by kernel_rfl
def q4_L3 (lo : Lo) : Zt2 × ByteArray × Int × Int -> Option (Int ⊕ Unit) := lo.run (q4_L3_s lo)
def q4_L3_p (lo : Lo) : LpE := ⟨3, [], q4_L3_g, q4_L3_o, q4_L3 lo⟩
theorem q4_L3_k {lo : Lo} (hlo : LoOK lo) (C : Ctx) (hT : TOK (⟨pf, fs4 lo, [], 0⟩ : Tabs) C) : LpSound (fun _ => False) [] 0 C (.loop q4_L3_b.er) (q4_L3_p lo) :=
  loop_sound hT frNo (show LK C _ q4_L3_b from ⟨tv, ⟨⟨tv, tv⟩, ⟨⟨tv, ⟨tv, ⟨⟨tv, tv⟩, tv⟩⟩⟩, tv⟩⟩⟩) (fun x y h => loopO_congr (q4_L3_e lo) (hlo _ _ _ h))
def q4 (lo : Lo) (s0 : List ByteArray) (v1 : ByteArray) : Option Int :=
  Option.bind (q4_L3 lo (s0, v1, (s0.length : Int), (0 : Int))) fun y12 => alt2 y12 (fun y13 => some y13) (fun y14 => some (-1 : Int))
def q4_c : VCode :=
 (.seq (.reg [o 4 (.mv (k 0))])
 (.seq (.seq (.reg [mV 6 0, lN 7 6, o 8 (.mv (k 0))])
 (.blk 0 (.loop 3 q4_L3_b)))
 (.seq (.reg [o 4 (.mv (k (-1)))])
 (.fz [4] .ret))))
def q4_F : VFn := ⟨true, 19, [.t 4], q4_c⟩
def q4_f (lo : Lo) : FnE := ⟨173, true, ⟨[0, 1], [.l (cs [.s]), .s], [], (cs [.l (cs [.s]), .s])⟩, .i .i64, [], (cs [I]), (fun x => q4 lo x.1 x.2 : Zt2 × ByteArray -> Option Int)⟩
theorem q4_e (lo : Lo) : ∀ x : Zt2 × ByteArray, evP (⟨pf, fs4 lo, [q4_L3_p lo], 0⟩ : Tabs) q4_F ⟨[0, 1], [.l (cs [.s]), .s], [], (cs [.l (cs [.s]), .s])⟩ (.i .i64) (cs [I]) x = q4 lo x.1 x.2 := fun x => by kernel_rfl
theorem q4_S {P : Program} {fm : FM} {lo : Lo} (hlo : LoOK lo) (hS : Sound P fm ⟨pf, fs4 lo, [], 0⟩) (hm : P.follows .mixedOrders = true) (htie : Ti P fm 173 q4_F) : Sound P fm ⟨pf, q4_f lo :: fs4 lo, [], 0⟩ :=
  fn_sound hS hm [q4_L3_p lo] (q4_f lo) rfl q4_F htie (by decide) rfl (Nat.le_of_ble_eq_true (by kernel_rfl)) (fun C hT => show LK C _ q4_c from ⟨tv, ⟨⟨tv, (lsGet (by kernel_rfl) (q4_L3_k hlo C (tok_ls hT)))⟩, ⟨tv, tv⟩⟩⟩) (fun x y h => (q4_e lo x).trans h)
def fs5 (lo : Lo) : List FnE := q4_f lo :: fs4 lo
def q5 (lo : Lo) (s0 : List ByteArray) (v1 : ByteArray) : Option Bool :=
  Option.bind (q4 lo s0 v1) fun y15 => some (decide ((0 : Int) <= y15))
def q5_c : VCode :=
 (.seq (.reg [o 4 (.mv (kb false))])
 (.seq (.reg [mV 5 0, mV 6 1, o 7 (.call 173 [(t 5), (t 6)]), o 8 (.bin .geq (t 7) (k 0)), mV 4 8])
 (.fz [4] .ret)))
def q5_F : VFn := ⟨true, 9, [.t 4], q5_c⟩
def q5_f (lo : Lo) : FnE := ⟨256, true, ⟨[0, 1], [.l (cs [.s]), .s], [], (cs [.l (cs [.s]), .s])⟩, .b, [], (cs [.b]), (fun x => q5 lo x.1 x.2 : Zt2 × ByteArray -> Option Bool)⟩
theorem q5_e (lo : Lo) : ∀ x : Zt2 × ByteArray, evP (⟨pf, fs5 lo, [], 0⟩ : Tabs) q5_F ⟨[0, 1], [.l (cs [.s]), .s], [], (cs [.l (cs [.s]), .s])⟩ (.b) (cs [.b]) x = q5 lo x.1 x.2 := fun x => by kernel_rfl
theorem q5_S {P : Program} {fm : FM} {lo : Lo} (hlo : LoOK lo) (hS : Sound P fm ⟨pf, fs5 lo, [], 0⟩) (hm : P.follows .mixedOrders = true) (htie : Ti P fm 256 q5_F) : Sound P fm ⟨pf, q5_f lo :: fs5 lo, [], 0⟩ :=
  fn_sound hS hm [] (q5_f lo) rfl q5_F htie (by decide) rfl (Nat.le_of_ble_eq_true (by kernel_rfl)) (fun C hT => show LK C _ q5_c from ⟨tv, ⟨tv, tv⟩⟩) (fun x y h => (q5_e lo x).trans h)
def fs6 (lo : Lo) : List FnE := q5_f lo :: fs5 lo
def q6 (lo : Lo) (v0_0 : Int) (v0_1 : Int) (v0_2 : ByteArray) : Option Bool :=
  bif (decide (v0_0 = (0 : Int))) then (bif (decide (v0_1 = (0 : Int))) then (some (decide (v0_2 = (ByteArray.mk #[])))) else (some false)) else (bif (decide (v0_0 = (1 : Int))) then (some (decide (v0_2 = (ByteArray.mk #[])))) else (bif (decide (v0_0 = (2 : Int))) then (bif (decide (v0_1 = (0 : Int))) then (some (decide ((v0_2.size : Int) <= (200 : Int)))) else (some false)) else (bif (decide (v0_0 = (3 : Int))) then (bif (decide ((1 : Int) <= v0_1)) then (some (decide (v0_2 = (ByteArray.mk #[])))) else (some false)) else (some false))))
def q6_c : VCode :=
 (.seq (.reg [o 1 (.box (t 0)), o 2 (.mv (kb false))])
 (.seq (.seq (.reg [fD 3 0 1, lD 4 3])
 (.blk 0 (.seq (.reg [o 6 (.bin .eql (t 4) (k 0)), mV 5 6])
 (.cond (t 5) (.seq (.reg [fD 7 1 1, lD 8 7, o 9 (.bin .eql (t 8) (k 0)), mV 10 9, og 11 10 true (.fad 2 (t 1)), og 12 10 true (.load false 1 (t 11)), og 13 10 true (.bin .eql (t 12) (ks (⟨#[]⟩))), o 14 (.pick (t 10) (t 13) (kb false)), mV 2 14])
 (.fz [2] .ret))
 (.seq (.reg [o 16 (.bin .eql (t 4) (k 1)), mV 15 16])
 (.cond (t 15) (.seq (.reg [fD 17 2 1, lD 18 17, o 19 (.bin .eql (t 18) (ks (⟨#[]⟩))), mV 2 19])
 (.fz [2] .ret))
 (.seq (.reg [o 21 (.bin .eql (t 4) (k 2)), mV 20 21])
 (.cond (t 20) (.seq (.reg [fD 22 1 1, lD 23 22, o 24 (.bin .eql (t 23) (k 0)), mV 25 24, og 26 25 true (.fad 2 (t 1)), og 27 25 true (.load false 1 (t 26)), og 28 25 true (.lenS (t 27)), og 29 25 true (.bin .leq (t 28) (k 200)), o 30 (.pick (t 25) (t 29) (kb false)), mV 2 30])
 (.fz [2] .ret))
 (.seq (.reg [o 32 (.bin .eql (t 4) (k 3)), mV 31 32])
 (.cond (t 31) (.seq (.reg [fD 33 1 1, lD 34 33, o 35 (.bin .geq (t 34) (k 1)), mV 36 35, og 37 36 true (.fad 2 (t 1)), og 38 36 true (.load false 1 (t 37)), og 39 36 true (.bin .eql (t 38) (ks (⟨#[]⟩))), o 40 (.pick (t 36) (t 39) (kb false)), mV 2 40])
 (.fz [2] .ret))
 .skip))))))))))
 (.seq (.reg [o 2 (.mv (kb false))])
 (.fz [2] .ret))))
def q6_F : VFn := ⟨true, 41, [.t 2], q6_c⟩
def q6_f (lo : Lo) : FnE := ⟨283, true, ⟨[0], [.ag [.i .i64, .i .i64, .s]], [], Zc4⟩, .b, [], (cs [.b]), (fun x => q6 lo x.1 x.2.1 x.2.2 : Int × Int × ByteArray -> Option Bool)⟩
theorem q6_e (lo : Lo) : ∀ x : Int × Int × ByteArray, evP (⟨pf, fs6 lo, [], 0⟩ : Tabs) q6_F ⟨[0], [.ag [.i .i64, .i .i64, .s]], [], Zc4⟩ (.b) (cs [.b]) x = q6 lo x.1 x.2.1 x.2.2 := fun x => by kernel_rfl
theorem q6_S {P : Program} {fm : FM} {lo : Lo} (hlo : LoOK lo) (hS : Sound P fm ⟨pf, fs6 lo, [], 0⟩) (hm : P.follows .mixedOrders = true) (htie : Ti P fm 283 q6_F) : Sound P fm ⟨pf, q6_f lo :: fs6 lo, [], 0⟩ :=
  fn_sound hS hm [] (q6_f lo) rfl q6_F htie (by decide) rfl (Nat.le_of_ble_eq_true (by kernel_rfl)) (fun C hT => show LK C _ q6_c from ⟨tv, ⟨⟨tv, ⟨tv, ⟨⟨tv, tv⟩, ⟨tv, ⟨⟨tv, tv⟩, ⟨tv, ⟨⟨tv, tv⟩, ⟨tv, ⟨⟨tv, tv⟩, tv⟩⟩⟩⟩⟩⟩⟩⟩⟩, ⟨tv, tv⟩⟩⟩) (fun x y h => (q6_e lo x).trans h)
def fs7 (lo : Lo) : List FnE := q6_f lo :: fs6 lo
def q7 (lo : Lo) (v0_0 : Int) (v0_1 : Int) (v0_2 : ByteArray) : Option Bool :=
  Option.bind (q6 lo v0_0 v0_1 v0_2) fun y20 => some (!y20)
def q7_c : VCode :=
 (.seq (.reg [o 1 (.box (t 0)), o 2 (.mv (kb false))])
 (.seq (.reg [o 3 (.load true 3 (t 1)), o 4 (.call 283 [(t 3)]), o 5 (.not (t 4)), mV 2 5])
 (.fz [2] .ret)))
def q7_F : VFn := ⟨true, 6, [.t 2], q7_c⟩
def q7_f (lo : Lo) : FnE := ⟨294, true, ⟨[0], [.ag [.i .i64, .i .i64, .s]], [], Zc4⟩, .b, [], (cs [.b]), (fun x => q7 lo x.1 x.2.1 x.2.2 : Int × Int × ByteArray -> Option Bool)⟩
theorem q7_e (lo : Lo) : ∀ x : Int × Int × ByteArray, evP (⟨pf, fs7 lo, [], 0⟩ : Tabs) q7_F ⟨[0], [.ag [.i .i64, .i .i64, .s]], [], Zc4⟩ (.b) (cs [.b]) x = q7 lo x.1 x.2.1 x.2.2 := fun x => by kernel_rfl
theorem q7_S {P : Program} {fm : FM} {lo : Lo} (hlo : LoOK lo) (hS : Sound P fm ⟨pf, fs7 lo, [], 0⟩) (hm : P.follows .mixedOrders = true) (htie : Ti P fm 294 q7_F) : Sound P fm ⟨pf, q7_f lo :: fs7 lo, [], 0⟩ :=
  fn_sound hS hm [] (q7_f lo) rfl q7_F htie (by decide) rfl (Nat.le_of_ble_eq_true (by kernel_rfl)) (fun C hT => show LK C _ q7_c from ⟨tv, ⟨tv, tv⟩⟩) (fun x y h => (q7_e lo x).trans h)
def fs8 (lo : Lo) : List FnE := q7_f lo :: fs7 lo
def q8_L3_b : VCode :=
 (.seq (.reg [o 9 (.bin .lss (t 8) (t 7))])
 (.seq (.cond (t 9) .skip
 (.exit 0))
 (.seq (.blk 1 (.seq (.reg [mV 10 8, mV 5 10])
 (.seq (.reg [mV 11 1, mV 12 0, mV 13 5, o 14 (.iad 3 (t 12) (t 13)), o 15 (.load true 3 (t 14)), o 16 (.dyn (t 11) [(t 15)])])
 (.cond (t 16) (.seq (.reg [mV 17 5, mV 4 17])
 .ret)
 .skip))))
 (.reg [o 18 (.bin .add (t 8) (k 1)), mV 8 18]))))
def q8_L3_g : Sg := ⟨[0, 1, 7, 8], [.l Zc4, .clo 294 [], .i .i64, .i .i64], [], (cs [.l Zc4, I, I])⟩
def q8_L3_o : List Out1 := [⟨.ret, ⟨[4], [.i .i64], [], (cs [I])⟩⟩, ⟨.exit 0, ⟨[], [], [], (cs [])⟩⟩]
def q8_L3_s (lo : Lo) : Zt0 × Int × Int -> Option ((Zt0 × Int × Int) ⊕ (Int ⊕ Unit)) := fun x => match x with
  | (s0, v7, v8) => bif (decide (v8 < v7)) then (chk (0 <= v8 /\ v8 < (s0.length : Int)) (Option.bind (q7 lo ((s0.getD v8.toNat ((0 : Int), (0 : Int), (ByteArray.mk #[]))).1) ((s0.getD v8.toNat ((0 : Int), (0 : Int), (ByteArray.mk #[]))).2.1) ((s0.getD v8.toNat ((0 : Int), (0 : Int), (ByteArray.mk #[]))).2.2)) fun y21 => bif y21 then (some (.inr (.inl v8))) else (some (.inl (s0, v7, (IntKind.wrap .i64 (v8 + (1 : Int)))))))) else (some (.inr (.inr ())))
theorem q8_L3_e (lo : Lo) : ∀ x : Zt0 × Int × Int, stepL (⟨pf, fs8 lo, [], 0⟩ : Tabs) [] q8_L3_g q8_L3_o q8_L3_b x = q8_L3_s lo x := fun x => by kernel_rfl
def q8_L3 (lo : Lo) : Zt0 × Int × Int -> Option (Int ⊕ Unit) := lo.run (q8_L3_s lo)
def q8_L3_p (lo : Lo) : LpE := ⟨3, [], q8_L3_g, q8_L3_o, q8_L3 lo⟩
theorem q8_L3_k {lo : Lo} (hlo : LoOK lo) (C : Ctx) (hT : TOK (⟨pf, fs8 lo, [], 0⟩ : Tabs) C) {Fr : Nat -> Prop} {H0 : Heap} (hf : FrOK Fr H0) : LpSound Fr H0 0 C (.loop q8_L3_b.er) (q8_L3_p lo) :=
  loop_sound hT hf (show LsOK Fr H0 C (⟨pf, fs8 lo, [], 0⟩ : Tabs) q8_L3_b from ⟨tv, ⟨⟨tv, tv⟩, ⟨⟨tv, ⟨tv, ⟨⟨tv, tv⟩, tv⟩⟩⟩, tv⟩⟩⟩) (fun x y h => loopO_congr (q8_L3_e lo) (hlo _ _ _ h))
def q8 (lo : Lo) (s0 : List (Int × Int × ByteArray)) : Option Int :=
  Option.bind (q8_L3 lo (s0, (s0.length : Int), (0 : Int))) fun y22 => alt2 y22 (fun y23 => some y23) (fun y24 => some (-1 : Int))
def q8_c : VCode :=
 (.seq (.reg [o 4 (.mv (k 0))])
 (.seq (.seq (.reg [mV 6 0, lN 7 6, o 8 (.mv (k 0))])
 (.blk 0 (.loop 3 q8_L3_b)))
 (.seq (.reg [o 4 (.mv (k (-1)))])
 .ret)))
def q8_F : VFn := ⟨true, 19, [.t 4], q8_c⟩
def q8_f (lo : Lo) : FnE := ⟨309, false, ⟨[0, 1], [.l Zc4, .clo 294 []], [], (cs [.l Zc4])⟩, .i .i64, [], (cs [I]), (fun x => q8 lo x : Zt0 -> Option Int)⟩
theorem q8_e (lo : Lo) : ∀ x : Zt0, evI (⟨pf, fs8 lo, [q8_L3_p lo], 0⟩ : Tabs) q8_F ⟨[0, 1], [.l Zc4, .clo 294 []], [], (cs [.l Zc4])⟩ (.i .i64) [] (cs [I]) x = q8 lo x := fun x => by kernel_rfl
theorem q8_S {P : Program} {fm : FM} {lo : Lo} (hlo : LoOK lo) (hS : Sound P fm ⟨pf, fs8 lo, [], 0⟩) (hm : P.follows .mixedOrders = true) (htie : Ti P fm 309 q8_F) : Sound P fm ⟨pf, q8_f lo :: fs8 lo, [], 0⟩ :=
  fnI_sound hS hm [q8_L3_p lo] (q8_f lo) rfl q8_F htie (by decide) rfl (Nat.le_of_ble_eq_true (by kernel_rfl)) (fun C hT Fr H0 hf => show LsOK Fr H0 C (⟨pf, fs8 lo, [q8_L3_p lo], 0⟩ : Tabs) q8_c from ⟨tv, ⟨⟨tv, (lsGet (by kernel_rfl) (q8_L3_k hlo C (tok_ls hT) hf))⟩, ⟨tv, tv⟩⟩⟩) (fun x y h => (q8_e lo x).trans h)
def fs9 (lo : Lo) : List FnE := q8_f lo :: fs8 lo
def q9 (lo : Lo) (s0 : List (Int × Int × ByteArray)) : Option Bool :=
  Option.bind (q8 lo s0) fun y25 => some (decide ((0 : Int) <= y25))
def q9_c : VCode :=
 (.seq (.reg [o 4 (.mv (kb false))])
 (.seq (.reg [mV 5 0, mV 6 1, o 7 (.call 309 [(t 5), (t 6)]), o 8 (.bin .geq (t 7) (k 0)), mV 4 8])
 .ret))
def q9_F : VFn := ⟨true, 9, [.t 4], q9_c⟩
def q9_f (lo : Lo) : FnE := ⟨293, false, ⟨[0, 1], [.l Zc4, .clo 294 []], [], (cs [.l Zc4])⟩, .b, [], (cs [.b]), (fun x => q9 lo x : Zt0 -> Option Bool)⟩
theorem q9_e (lo : Lo) : ∀ x : Zt0, evI (⟨pf, fs9 lo, [], 0⟩ : Tabs) q9_F ⟨[0, 1], [.l Zc4, .clo 294 []], [], (cs [.l Zc4])⟩ (.b) [] (cs [.b]) x = q9 lo x := fun x => by kernel_rfl
theorem q9_S {P : Program} {fm : FM} {lo : Lo} (hlo : LoOK lo) (hS : Sound P fm ⟨pf, fs9 lo, [], 0⟩) (hm : P.follows .mixedOrders = true) (htie : Ti P fm 293 q9_F) : Sound P fm ⟨pf, q9_f lo :: fs9 lo, [], 0⟩ :=
  fnI_sound hS hm [] (q9_f lo) rfl q9_F htie (by decide) rfl (Nat.le_of_ble_eq_true (by kernel_rfl)) (fun C hT Fr H0 hf => show LsOK Fr H0 C (⟨pf, fs9 lo, [], 0⟩ : Tabs) q9_c from ⟨tv, ⟨tv, tv⟩⟩) (fun x y h => (q9_e lo x).trans h)
def fs10 (lo : Lo) : List FnE := q9_f lo :: fs9 lo
def q10 (lo : Lo) (l0 : List (Int × Int × ByteArray)) : Option Bool :=
  Option.bind (q9 lo l0) fun y26 => some (!y26)
def q10_c : VCode :=
 (.seq (.reg [o 2 (.mv (kb false))])
 (.seq (.reg [mV 3 0, o 4 (.call 293 [(t 3), (.c (.f 294))]), o 5 (.not (t 4)), mV 2 5])
 (.fz [2] .ret)))
def q10_F : VFn := ⟨true, 6, [.t 2], q10_c⟩
def q10_f (lo : Lo) : FnE := ⟨257, true, ⟨[0], [.l Zc4], [], (cs [.l Zc4])⟩, .b, [], (cs [.b]), (fun x => q10 lo x : Zt0 -> Option Bool)⟩
theorem q10_e (lo : Lo) : ∀ x : Zt0, evP (⟨pf, fs10 lo, [], 0⟩ : Tabs) q10_F ⟨[0], [.l Zc4], [], (cs [.l Zc4])⟩ (.b) (cs [.b]) x = q10 lo x := fun x => by kernel_rfl
theorem q10_S {P : Program} {fm : FM} {lo : Lo} (hlo : LoOK lo) (hS : Sound P fm ⟨pf, fs10 lo, [], 0⟩) (hm : P.follows .mixedOrders = true) (htie : Ti P fm 257 q10_F) : Sound P fm ⟨pf, q10_f lo :: fs10 lo, [], 0⟩ :=
  fn_sound hS hm [] (q10_f lo) rfl q10_F htie (by decide) rfl (Nat.le_of_ble_eq_true (by kernel_rfl)) (fun C hT => show LK C _ q10_c from ⟨tv, ⟨tv, tv⟩⟩) (fun x y h => (q10_e lo x).trans h)
def fs11 (lo : Lo) : List FnE := q10_f lo :: fs10 lo
def q11_L20_b : VCode :=
 (.seq (.reg [o 26 (.bin .lss (t 25) (t 24))])
 (.seq (.cond (t 26) .skip
 (.exit 0))
 (.seq (.blk 1 (.seq (.reg [mV 27 25, o 28 (.iad 1 (t 23) (t 25)), lD 29 28, mV 3 27, mV 4 29])
 (.seq (.reg [mV 30 4, o 31 (.call 255 [(t 30)]), o 32 (.not (t 31)), mV 33 32, og 34 33 false (.fad 1 (t 1)), og 35 33 false (.load false 1 (t 34)), og 36 33 false (.mv (t 3)), og 37 33 false (.slcR 1 (t 35) none (some (t 36))), og 38 33 false (.mv (t 4)), og 39 33 false (.call 256 [(t 37), (t 38)]), o 40 (.pick (t 33) (kb true) (t 39))])
 (.cond (t 40) (.seq (.reg [o 2 (.mv (k 1))])
 (.fz [2] .ret))
 .skip))))
 (.reg [o 41 (.bin .add (t 25) (k 1)), mV 25 41]))))
def q11_L20_g : Sg := ⟨[1, 23, 24, 25], [.ptr 0 0 0, .l (cs [.s]), .i .i64, .i .i64], [.st [.s, .l (cs [.s]), .l Zc1]], (cs [.l (cs [.s]), I, I, .s, .l (cs [.s]), .l Zc1])⟩
def q11_L20_o : List Out1 := [⟨.ret, ⟨[2], [.i .i64], [], (cs [I])⟩⟩, ⟨.exit 0, ⟨[1], [.ptr 0 0 0], [.st [.s, .l (cs [.s]), .l Zc1]], Zc8⟩⟩]
def q11_L20_s (lo : Lo) : Zp38 -> Option (Zp38 ⊕ (Int ⊕ (ByteArray × Zt2 × Zt3))) := fun x => match x with
  | (v23, v24, v25, t1_0, t1_1, t1_2) => bif (decide (v25 < v24)) then (chk (0 <= v25 /\ v25 < (v23.length : Int)) (Option.bind (q3 lo (v23.getD v25.toNat (ByteArray.mk #[]))) fun y11 => bif (!y11) then (some (.inr (.inl (1 : Int)))) else (chk (0 <= (0 : Int) /\ (0 : Int) <= v25 /\ v25 <= (t1_1.length : Int)) (Option.bind (q5 lo ((t1_1.take v25.toNat).drop 0) (v23.getD v25.toNat (ByteArray.mk #[]))) fun y16 => bif y16 then (some (.inr (.inl (1 : Int)))) else (some (.inl (v23, v24, (IntKind.wrap .i64 (v25 + (1 : Int))), t1_0, t1_1, t1_2))))))) else (some (.inr (.inr (t1_0, t1_1, t1_2))))
theorem q11_L20_e (lo : Lo) : ∀ x : Zp38, stepL (⟨pf, fs11 lo, [], 0⟩ : Tabs) [] q11_L20_g q11_L20_o q11_L20_b x = q11_L20_s lo x := fun x => by kernel_rfl
def q11_L20 (lo : Lo) : Zp38 -> Option (Int ⊕ (ByteArray × Zt2 × Zt3)) := lo.run (q11_L20_s lo)
def q11_L20_p (lo : Lo) : LpE := ⟨20, [], q11_L20_g, q11_L20_o, q11_L20 lo⟩
theorem q11_L20_k {lo : Lo} (hlo : LoOK lo) (C : Ctx) (hT : TOK (⟨pf, fs11 lo, [], 0⟩ : Tabs) C) : LpSound (fun _ => False) [] 0 C (.loop q11_L20_b.er) (q11_L20_p lo) :=
  loop_sound hT frNo (show LK C _ q11_L20_b from ⟨tv, ⟨⟨tv, tv⟩, ⟨⟨tv, ⟨tv, ⟨⟨tv, tv⟩, tv⟩⟩⟩, tv⟩⟩⟩) (fun x y h => loopO_congr (q11_L20_e lo) (hlo _ _ _ h))
def q11_L3_b : VCode :=
 (.seq (.reg [o 46 (.bin .lss (t 45) (t 44))])
 (.seq (.cond (t 46) .skip
 (.exit 2))
 (.seq (.blk 3 (.seq (.reg [o 47 (.iad 2 (t 43) (t 45)), o 48 (.load true 2 (t 47)), o 7 (.alloc [.i .i64 0, .e Zc4]), on (.store 2 (t 7) (t 48))])
 (.seq (.blk 4 (.seq (.reg [fD 50 0 7, lD 51 50, mV 52 5, o 53 (.bin .leq (t 51) (t 52)), mV 49 53])
 (.cond (t 49) (.seq (.reg [o 2 (.mv (k 1))])
 (.fz [2] .ret))
 (.seq (.reg [fD 55 1 7, lD 56 55, lN 57 56, fD 58 1 1, lD 59 58, lN 60 59, o 61 (.bin .neq (t 57) (t 60)), mV 54 61])
 (.cond (t 54) (.seq (.reg [o 2 (.mv (k 6))])
 (.fz [2] .ret))
 (.seq (.reg [fD 63 1 7, lD 64 63, o 65 (.call 257 [(t 64)]), o 66 (.not (t 65)), mV 62 66])
 (.cond (t 62) (.seq (.reg [o 2 (.mv (k 1))])
 (.fz [2] .ret))
 .skip)))))))
 (.reg [fD 67 0 7, lD 68 67, mV 5 68]))))
 (.reg [o 69 (.bin .add (t 45) (k 1)), mV 45 69]))))
def q11_L3_g : Sg := ⟨[1, 5, 43, 44, 45], [.ptr 0 0 0, .i .i64, .l Zc1, .i .i64, .i .i64], [.st [.s, .l (cs [.s]), .l Zc1]], (cs [I, .l Zc1, I, I, .s, .l (cs [.s]), .l Zc1])⟩
def q11_L3_o : List Out1 := [⟨.ret, ⟨[2], [.i .i64], [], (cs [I])⟩⟩, ⟨.exit 2, ⟨[], [], [], (cs [])⟩⟩]
def q11_L3_s (lo : Lo) : Zp34 -> Option (Zp34 ⊕ (Int ⊕ Unit)) := fun x => match x with
  | (last5, v43, v44, v45, t1_0, t1_1, t1_2) => bif (decide (v45 < v44)) then (chk (0 <= v45 /\ v45 < (v43.length : Int)) (bif (decide ((v43.getD v45.toNat ((0 : Int), [])).1 <= last5)) then (some (.inr (.inl (1 : Int)))) else (bif (!decide ((((v43.getD v45.toNat ((0 : Int), [])).2).length : Int) = (t1_1.length : Int))) then (some (.inr (.inl (6 : Int)))) else (Option.bind (q10 lo ((v43.getD v45.toNat ((0 : Int), [])).2)) fun y27 => bif (!y27) then (some (.inr (.inl (1 : Int)))) else (some (.inl ((v43.getD v45.toNat ((0 : Int), [])).1, v43, v44, (IntKind.wrap .i64 (v45 + (1 : Int))), t1_0, t1_1, t1_2))))))) else (some (.inr (.inr ())))
theorem q11_L3_e (lo : Lo) : ∀ x : Zp34, stepL (⟨pf, fs11 lo, [q11_L20_p lo], 0⟩ : Tabs) [] q11_L3_g q11_L3_o q11_L3_b x = q11_L3_s lo x := fun x => by kernel_rfl
def q11_L3 (lo : Lo) : Zp34 -> Option (Int ⊕ Unit) := lo.run (q11_L3_s lo)
def q11_L3_p (lo : Lo) : LpE := ⟨3, [], q11_L3_g, q11_L3_o, q11_L3 lo⟩
theorem q11_L3_k {lo : Lo} (hlo : LoOK lo) (C : Ctx) (hT : TOK (⟨pf, fs11 lo, [q11_L20_p lo], 0⟩ : Tabs) C) : LpSound (fun _ => False) [] 0 C (.loop q11_L3_b.er) (q11_L3_p lo) :=
  loop_sound hT frNo (show LK C _ q11_L3_b from ⟨tv, ⟨⟨tv, tv⟩, ⟨⟨tv, ⟨⟨tv, ⟨⟨tv, tv⟩, ⟨tv, ⟨⟨tv, tv⟩, ⟨tv, ⟨⟨tv, tv⟩, tv⟩⟩⟩⟩⟩⟩, tv⟩⟩, tv⟩⟩⟩) (fun x y h => loopO_congr (q11_L3_e lo) (hlo _ _ _ h))
def q11 (lo : Lo) (t0_0 : ByteArray) (t0_1 : List ByteArray) (t0_2 : List (Int × Zt0)) : Option Int :=
  Option.bind (q3 lo t0_0) fun y10 => bif (!y10) then (some (1 : Int)) else (bif (decide ((16 : Int) < (t0_1.length : Int))) then (some (3 : Int)) else (bif (decide ((1000 : Int) < (t0_2.length : Int))) then (some (3 : Int)) else (Option.bind (q11_L20 lo (t0_1, (t0_1.length : Int), (0 : Int), t0_0, t0_1, t0_2)) fun y17 => alt2 y17 (fun y18 => some y18) (fun y19 => Option.bind (q11_L3 lo ((0 : Int), y19.2.2, (y19.2.2.length : Int), (0 : Int), y19.1, y19.2.1, y19.2.2)) fun y28 => alt2 y28 (fun y29 => some y29) (fun y30 => some (0 : Int))))))
def q11_c : VCode :=
 (.seq (.reg [o 1 (.box (t 0)), o 2 (.mv (k 0))])
 (.seq (.seq (.reg [fD 8 0 1, lD 9 8, o 10 (.call 255 [(t 9)]), o 11 (.not (t 10))])
 (.cond (t 11) (.seq (.reg [o 2 (.mv (k 1))])
 (.fz [2] .ret))
 .skip))
 (.seq (.seq (.reg [fD 12 1 1, lD 13 12, lN 14 13, o 15 (.bin .gtr (t 14) (k 16)), mV 16 15, og 17 16 false (.fad 2 (t 1)), og 18 16 false (.load false 1 (t 17)), og 19 16 false (.len (t 18)), og 20 16 false (.bin .gtr (t 19) (k 1000)), o 21 (.pick (t 16) (kb true) (t 20))])
 (.cond (t 21) (.seq (.reg [o 2 (.mv (k 3))])
 (.fz [2] .ret))
 .skip))
 (.seq (.seq (.reg [fD 22 1 1, lD 23 22, lN 24 23, o 25 (.mv (k 0))])
 (.blk 0 (.loop 20 q11_L20_b)))
 (.seq (.reg [o 5 (.mv (k 0))])
 (.seq (.seq (.reg [fD 42 2 1, lD 43 42, lN 44 43, o 45 (.mv (k 0))])
 (.blk 2 (.loop 3 q11_L3_b)))
 (.seq (.reg [o 2 (.mv (k 0))])
 (.fz [2] .ret))))))))
def q11_F : VFn := ⟨true, 70, [.t 2], q11_c⟩
def q11_f (lo : Lo) : FnE := ⟨230, true, ⟨[0], [.ag [.s, .l (cs [.s]), .l Zc1]], [], Zc8⟩, .i .i64, [], (cs [I]), (fun x => q11 lo x.1 x.2.1 x.2.2 : ByteArray × Zt2 × Zt3 -> Option Int)⟩
theorem q11_e (lo : Lo) : ∀ x : ByteArray × Zt2 × Zt3, evP (⟨pf, fs11 lo, [q11_L3_p lo, q11_L20_p lo], 0⟩ : Tabs) q11_F ⟨[0], [.ag [.s, .l (cs [.s]), .l Zc1]], [], Zc8⟩ (.i .i64) (cs [I]) x = q11 lo x.1 x.2.1 x.2.2 := fun x => by kernel_rfl
theorem q11_S {P : Program} {fm : FM} {lo : Lo} (hlo : LoOK lo) (hS : Sound P fm ⟨pf, fs11 lo, [], 0⟩) (hm : P.follows .mixedOrders = true) (htie : Ti P fm 230 q11_F) : Sound P fm ⟨pf, q11_f lo :: fs11 lo, [], 0⟩ :=
  fn_sound hS hm [q11_L3_p lo, q11_L20_p lo] (q11_f lo) rfl q11_F htie (by decide) rfl (Nat.le_of_ble_eq_true (by kernel_rfl)) (fun C hT => show LK C _ q11_c from ⟨tv, ⟨⟨tv, ⟨⟨tv, tv⟩, tv⟩⟩, ⟨⟨tv, ⟨⟨tv, tv⟩, tv⟩⟩, ⟨⟨tv, (lsGet (by kernel_rfl) (q11_L20_k hlo C (tok_ls hT)))⟩, ⟨tv, ⟨⟨tv, (lsGet (by kernel_rfl) (q11_L3_k hlo C (tok_ls hT)))⟩, ⟨tv, tv⟩⟩⟩⟩⟩⟩⟩) (fun x y h => (q11_e lo x).trans h)
def fs12 (lo : Lo) : List FnE := q11_f lo :: fs11 lo
def q12_L3_b : VCode :=
 (.seq (.seq (.reg [mV 10 6, o 11 (.bin .geq (t 10) (k 0))])
 (.cond (t 11) .skip
 (.exit 0)))
 (.seq (.blk 1 (.reg [mV 14 0, mV 15 5, mV 16 6, o 17 (.bin .shr (t 15) (t 16)), o 18 (.conv .u8 (t 17)), o 19 (.bsl (cs [.i .u8]) 1 [(0, (t 18))]), o 20 (.appb (t 14) (t 19)), mV 0 20]))
 (.reg [mV 12 6, o 13 (.bin .sub (t 12) (k 8)), mV 6 13])))
def q12_L3_g : Sg := ⟨[0, 5, 6], [.ref 1, .i .u64, .i .i64], [.dd, .sb], (cs [.i .u64, I, .s])⟩
def q12_L3_o : List Out1 := [⟨.exit 0, ⟨[0], [.ref 1], [.dd, .sb], (cs [.s])⟩⟩]
def q12_L3_s (lo : Lo) : Int × Int × ByteArray -> Option ((Int × Int × ByteArray) ⊕ ByteArray) := fun x => match x with
  | (u5, shift6, out0) => bif (decide ((0 : Int) <= shift6)) then (chk (0 <= shift6) (bif inB ([(IntKind.wrap .u8 (u5.fdiv (2 ^ (min shift6.toNat (IntKind.bits .u64)))))]) then (chk (out0.size + ([(IntKind.wrap .u8 (u5.fdiv (2 ^ (min shift6.toNat (IntKind.bits .u64)))))]).length <= maxEl) (some (.inl (u5, (IntKind.wrap .i64 (shift6 - (8 : Int))), (out0 ++ bytesB ([(IntKind.wrap .u8 (u5.fdiv (2 ^ (min shift6.toNat (IntKind.bits .u64)))))])))))) else none)) else (some (.inr out0))
theorem q12_L3_e (lo : Lo) : ∀ x : Int × Int × ByteArray, stepL (⟨pf, fs12 lo, [], 1⟩ : Tabs) [(0, some 0, false)] q12_L3_g q12_L3_o q12_L3_b x = q12_L3_s lo x := fun x => by kernel_rfl
def q12_L3 (lo : Lo) : Int × Int × ByteArray -> Option ByteArray := lo.run (q12_L3_s lo)
def q12_L3_p (lo : Lo) : LpE := ⟨3, [(0, some 0, false)], q12_L3_g, q12_L3_o, q12_L3 lo⟩
theorem q12_L3_k {lo : Lo} (hlo : LoOK lo) (C : Ctx) (hT : TOK (⟨pf, fs12 lo, [], 1⟩ : Tabs) C) {Fr : Nat -> Prop} {H0 : Heap} (hf : FrOK Fr H0) : LpSound Fr H0 1 C (.loop q12_L3_b.er) (q12_L3_p lo) :=
  loop_sound hT hf (show LsOK Fr H0 C (⟨pf, fs12 lo, [], 1⟩ : Tabs) q12_L3_b from ⟨⟨tv, ⟨tv, tv⟩⟩, ⟨tv, tv⟩⟩) (fun x y h => loopO_congr (q12_L3_e lo) (hlo _ _ _ h))
def q12 (lo : Lo) (n1 : Int) (out0 : ByteArray) : Option ByteArray :=
  Option.bind (q12_L3 lo ((bits .xor .u64 (IntKind.wrap .u64 n1) (9223372036854775808 : Int)), (56 : Int), out0)) fun y35 => some y35
def q12_c : VCode :=
 (.seq (.reg [o 4 (.mv (ke (cs [.i .u8])))])
 (.seq (.reg [mV 7 1, o 8 (.conv .u64 (t 7)), o 9 (.bin .xor (t 8) (ki .u64 9223372036854775808)), mV 5 9])
 (.seq (.seq (.reg [o 6 (.mv (k 56))])
 (.blk 0 (.loop 3 q12_L3_b)))
 (.seq (.reg [mV 21 0, mV 4 21])
 .ret))))
def q12_F : VFn := ⟨true, 22, [.t 4], q12_c⟩
def q12_f (lo : Lo) : FnE := ⟨310, false, ⟨[0, 1], [.ref 0, .i .i64], [.sb], (cs [I, .s])⟩, .ref 1, [.dd, .sb], (cs [.s]), (fun x => q12 lo x.1 x.2 : Int × ByteArray -> Option ByteArray)⟩
theorem q12_e (lo : Lo) : ∀ x : Int × ByteArray, evI (⟨pf, fs12 lo, [q12_L3_p lo], 1⟩ : Tabs) q12_F ⟨[0, 1], [.ref 0, .i .i64], [.sb], (cs [I, .s])⟩ (.ref 1) [.dd, .sb] (cs [.s]) x = q12 lo x.1 x.2 := fun x => by kernel_rfl
theorem q12_S {P : Program} {fm : FM} {lo : Lo} (hlo : LoOK lo) (hS : Sound P fm ⟨pf, fs12 lo, [], 0⟩) (hm : P.follows .mixedOrders = true) (htie : Ti P fm 310 q12_F) : Sound P fm ⟨pf, q12_f lo :: fs12 lo, [], 0⟩ :=
  fnI_sound hS hm [q12_L3_p lo] (q12_f lo) rfl q12_F htie (by decide) rfl (Nat.le_of_ble_eq_true (by kernel_rfl)) (fun C hT Fr H0 hf => show LsOK Fr H0 C (⟨pf, fs12 lo, [q12_L3_p lo], 1⟩ : Tabs) q12_c from ⟨tv, ⟨tv, ⟨⟨tv, (lsGet (by kernel_rfl) (q12_L3_k hlo C (tok_ls hT) hf))⟩, ⟨tv, tv⟩⟩⟩⟩) (fun x y h => (q12_e lo x).trans h)
def fs13 (lo : Lo) : List FnE := q12_f lo :: fs12 lo
def q13_L5_b : VCode :=
 (.seq (.reg [o 28 (.bin .lss (t 27) (t 26))])
 (.seq (.cond (t 28) .skip
 (.exit 1))
 (.seq (.blk 2 (.seq (.reg [mV 29 27, mV 5 29])
 (.seq (.reg [mV 30 4, fD 31 2 1, lD 32 31, mV 33 5, o 34 (.idx (t 32) (t 33)), o 35 (.bsl (cs [.i .u8]) 1 [(0, (t 34))]), o 36 (.appb (t 30) (t 35)), mV 4 36])
 (.seq (.reg [fD 37 2 1, lD 38 37, mV 39 5, o 40 (.idx (t 38) (t 39)), o 41 (.bin .eql (t 40) (ki .u8 0))])
 (.cond (t 41) (.reg [mV 42 4, o 43 (.bsl (cs [.i .u8]) 1 [(0, (ki .u8 255))]), o 44 (.appb (t 42) (t 43)), mV 4 44])
 .skip)))))
 (.reg [o 45 (.bin .add (t 27) (k 1)), mV 27 45]))))
def q13_L5_g : Sg := ⟨[1, 4, 26, 27], [.ptr 0 0 0, .ref 1, .i .i64, .i .i64], [.st [.i .i64, .i .i64, .s], .sb], (cs [I, I, I, I, .s, .s])⟩
def q13_L5_o : List Out1 := [⟨.exit 1, ⟨[4], [.ref 0], [.sb], (cs [.s])⟩⟩]
def q13_L5_s (lo : Lo) : Zp35 -> Option (Zp35 ⊕ ByteArray) := fun x => match x with
  | (v26, v27, v1_0, v1_1, v1_2, out4) => bif (decide (v27 < v26)) then (chk (0 <= v27 /\ v27 < (v1_2.size : Int)) (bif inB ([(byteI v1_2 v27)]) then (chk (out4.size + ([(byteI v1_2 v27)]).length <= maxEl) (chk (0 <= v27 /\ v27 < (v1_2.size : Int)) (bif (decide ((byteI v1_2 v27) = (0 : Int))) then (bif inB ([(255 : Int)]) then (chk ((out4 ++ bytesB ([(byteI v1_2 v27)])).size + ([(255 : Int)]).length <= maxEl) (some (.inl (v26, (IntKind.wrap .i64 (v27 + (1 : Int))), v1_0, v1_1, v1_2, ((out4 ++ bytesB ([(byteI v1_2 v27)])) ++ bytesB ([(255 : Int)])))))) else none) else (some (.inl (v26, (IntKind.wrap .i64 (v27 + (1 : Int))), v1_0, v1_1, v1_2, (out4 ++ bytesB ([(byteI v1_2 v27)])))))))) else none)) else (some (.inr out4))
theorem q13_L5_e (lo : Lo) : ∀ x : Zp35, stepL (⟨pf, fs13 lo, [], 0⟩ : Tabs) [] q13_L5_g q13_L5_o q13_L5_b x = q13_L5_s lo x := fun x => by kernel_rfl
def q13_L5 (lo : Lo) : Zp35 -> Option ByteArray := lo.run (q13_L5_s lo)
def q13_L5_p (lo : Lo) : LpE := ⟨5, [], q13_L5_g, q13_L5_o, q13_L5 lo⟩
theorem q13_L5_k {lo : Lo} (hlo : LoOK lo) (C : Ctx) (hT : TOK (⟨pf, fs13 lo, [], 0⟩ : Tabs) C) : LpSound (fun _ => False) [] 0 C (.loop q13_L5_b.er) (q13_L5_p lo) :=
  loop_sound hT frNo (show LK C _ q13_L5_b from ⟨tv, ⟨⟨tv, tv⟩, ⟨⟨tv, ⟨tv, ⟨tv, ⟨tv, tv⟩⟩⟩⟩, tv⟩⟩⟩) (fun x y h => loopO_congr (q13_L5_e lo) (hlo _ _ _ h))
def q13_J17_b : VCode :=
 (.cond (t 15) (.reg [mV 18 4, fD 19 1 1, lD 20 19, o 21 (.call 310 [(t 18), (t 20)]), mV 4 21])
 (.seq (.reg [o 23 (.bin .eql (t 14) (k 2)), mV 22 23])
 (.cond (t 22) (.seq (.seq (.reg [fD 24 2 1, lD 25 24, o 26 (.lenS (t 25)), o 27 (.mv (k 0))])
 (.blk 1 (.loop 5 q13_L5_b)))
 (.reg [mV 46 4, o 47 (.bsl (cs [.i .u8]) 2 [(0, (ki .u8 0)), (1, (ki .u8 1))]), o 48 (.appb (t 46) (t 47)), mV 4 48]))
 .skip)))
def q13_J17_g : Sg := ⟨[1, 4, 14, 15], [.ptr 0 0 0, .ref 1, .i .i64, .b], [.st [.i .i64, .i .i64, .s], .sb], (cs [I, .b, I, I, .s, .s])⟩
def q13_J17_o : List Out1 := [⟨.nor, ⟨[4], [.ref 0], [.sb], (cs [.s])⟩⟩]
def q13_J17 (lo : Lo) : Int × Bool × Int × Int × ByteArray × ByteArray -> Option ByteArray := fun x => match x with
  | (v14, v15, v1_0, v1_1, v1_2, out4) => bif v15 then (Option.bind (q12 lo v1_1 out4) fun y36 => some y36) else (bif (decide (v14 = (2 : Int))) then (Option.bind (q13_L5 lo ((v1_2.size : Int), (0 : Int), v1_0, v1_1, v1_2, out4)) fun y37 => bif inB ([(0 : Int), (1 : Int)]) then (chk (y37.size + ([(0 : Int), (1 : Int)]).length <= maxEl) (some (y37 ++ bytesB ([(0 : Int), (1 : Int)])))) else none) else (some out4))
theorem q13_J17_e (lo : Lo) : ∀ x : Int × Bool × Int × Int × ByteArray × ByteArray, stepJ (⟨pf, fs13 lo, [q13_L5_p lo], 0⟩ : Tabs) q13_J17_g q13_J17_o q13_J17_b x = q13_J17 lo x := fun x => by kernel_rfl
def q13_J17_p (lo : Lo) : LpE := ⟨17, [], q13_J17_g, q13_J17_o, q13_J17 lo⟩
theorem q13_J17_k {lo : Lo} (hlo : LoOK lo) (C : Ctx) (hT : TOK (⟨pf, fs13 lo, [q13_L5_p lo], 0⟩ : Tabs) C) : LpSound (fun _ => False) [] 0 C q13_J17_b.er (q13_J17_p lo) :=
  jn_sound hT frNo (show LK C _ q13_J17_b from ⟨tv, ⟨tv, ⟨⟨⟨tv, (lsGet (by kernel_rfl) (q13_L5_k hlo C (tok_ls hT)))⟩, tv⟩, tv⟩⟩⟩) (fun x y h => (q13_J17_e lo x).trans h)
def q13 (lo : Lo) (v0_0 : Int) (v0_1 : Int) (v0_2 : ByteArray) : Option (ByteArray × Int) :=
  Option.bind (q6 lo v0_0 v0_1 v0_2) fun y34 => bif (!y34) then (some ((ByteArray.mk #[]), (1 : Int))) else (bif inB [(IntKind.wrap .u8 v0_0)] then (bif (decide (v0_0 = (1 : Int))) then (Option.bind (q13_J17 lo (v0_0, true, v0_0, v0_1, v0_2, (bytesB [(IntKind.wrap .u8 v0_0)]))) fun y38 => some (y38, (0 : Int))) else (Option.bind (q13_J17 lo (v0_0, (decide (v0_0 = (3 : Int))), v0_0, v0_1, v0_2, (bytesB [(IntKind.wrap .u8 v0_0)]))) fun y39 => some (y39, (0 : Int)))) else none)
def q13_c : VCode :=
 (.seq (.reg [o 1 (.box (t 0)), o 2 (.mv (ks (⟨#[]⟩))), o 3 (.mv (k 0))])
 (.seq (.seq (.reg [o 6 (.load true 3 (t 1)), o 7 (.call 283 [(t 6)]), o 8 (.not (t 7))])
 (.cond (t 8) (.seq (.reg [o 2 (.mv (ks (⟨#[]⟩))), o 3 (.mv (k 1))])
 (.fz [2, 3] .ret))
 .skip))
 (.seq (.reg [fD 9 0 1, lD 10 9, o 11 (.conv .u8 (t 10)), o 12 (.litb [(t 11)]), mV 4 12])
 (.seq (.seq (.reg [fD 13 0 1, lD 14 13])
 (.blk 0 (.seq (.seq (.reg [o 16 (.bin .eql (t 14) (k 1)), mV 15 16])
 (.cond (t 15) .skip
 (.reg [o 17 (.bin .eql (t 14) (k 3)), mV 15 17])))
 (.jn 17 q13_J17_b))))
 (.seq (.reg [mV 49 4, o 50 (.bstr (t 49)), mV 2 50, o 3 (.mv (k 0))])
 (.fz [2, 3] .ret))))))
def q13_F : VFn := ⟨true, 51, [.t 2, .t 3], q13_c⟩
def q13_f (lo : Lo) : FnE := ⟨296, true, ⟨[0], [.ag [.i .i64, .i .i64, .s]], [], Zc4⟩, .tp [.s, .i .i64], [], (cs [.s, I]), (fun x => q13 lo x.1 x.2.1 x.2.2 : Int × Int × ByteArray -> Option (ByteArray × Int))⟩
theorem q13_e (lo : Lo) : ∀ x : Int × Int × ByteArray, evP (⟨pf, fs13 lo, [q13_J17_p lo, q13_L5_p lo], 0⟩ : Tabs) q13_F ⟨[0], [.ag [.i .i64, .i .i64, .s]], [], Zc4⟩ (.tp [.s, .i .i64]) (cs [.s, I]) x = q13 lo x.1 x.2.1 x.2.2 := fun x => by kernel_rfl
theorem q13_S {P : Program} {fm : FM} {lo : Lo} (hlo : LoOK lo) (hS : Sound P fm ⟨pf, fs13 lo, [], 0⟩) (hm : P.follows .mixedOrders = true) (htie : Ti P fm 296 q13_F) : Sound P fm ⟨pf, q13_f lo :: fs13 lo, [], 0⟩ :=
  fn_sound hS hm [q13_J17_p lo, q13_L5_p lo] (q13_f lo) rfl q13_F htie (by decide) rfl (Nat.le_of_ble_eq_true (by kernel_rfl)) (fun C hT => show LK C _ q13_c from ⟨tv, ⟨⟨tv, ⟨⟨tv, tv⟩, tv⟩⟩, ⟨tv, ⟨⟨tv, ⟨⟨tv, ⟨tv, tv⟩⟩, (lsGet (by kernel_rfl) (q13_J17_k hlo C (tok_ls hT)))⟩⟩, ⟨tv, tv⟩⟩⟩⟩⟩) (fun x y h => (q13_e lo x).trans h)
def fs14 (lo : Lo) : List FnE := q13_f lo :: fs13 lo
def q14 (lo : Lo) (s : ByteArray) : Option ByteArray := some s
def q14_f (lo : Lo) : FnE := vchkE2 164
theorem q14_S {P : Program} {fm : FM} {lo : Lo} (hlo : LoOK lo) (hS : Sound P fm ⟨pf, fs14 lo, [], 0⟩) (hm : P.follows .mixedOrders = true) (hG : ∀ f, fm f = 164 -> callable P f = true /\ ∃ ρ : Go.Shelf.Ren, Go.Proofs.Lays.n240 P ρ /\ BldOK P fm ρ /\ ρ.f 240 = f) : Sound P fm ⟨pf, q14_f lo :: fs14 lo, [], 0⟩ :=
  vchk2_sound hS rfl hG
def fs15 (lo : Lo) : List FnE := q14_f lo :: fs14 lo
end Go.Abs.G03
namespace Go.Abs.G03
open Go Go.Abs
set_option maxRecDepth 100000
set_option maxHeartbeats 1000000
def q15 (lo : Lo) (s1 : ByteArray) (h1 : ByteArray) : Option (Int × ByteArray) :=
  Option.bind (q14 lo h1) fun y41 => chk (y41.size = h1.size) (chk (y41.size + s1.size <= maxEl) (some ((s1.size : Int), (y41 ++ s1))))
def q15_c : VCode :=
 (.seq (.reg [o 4 (.mv (k 0)), o 5 (.mv (.c (.v .nilIface)))])
 (.seq (.reg [mV 6 0, o 7 (.call 164 [(t 6)])])
 (.seq (.reg [mV 8 0, mV 9 0, o 10 (.nilc (t 9)), fD 11 1 10, lD 12 11, mV 13 1, o 14 (.apps (t 12) (t 13)), o 15 (.nilc (t 8)), fD 16 1 15, on (.store 1 (t 16) (t 14))])
 (.seq (.reg [mV 17 1, o 18 (.lenS (t 17)), mV 4 18, o 5 (.mv (.c (.v .nilIface)))])
 .ret))))
def q15_F : VFn := ⟨true, 19, [.t 4, .t 5], q15_c⟩
def q15_f (lo : Lo) : FnE := ⟨149, false, ⟨[0, 1], [.ptr 0 0 0, .s], [.st [.np 0, .ref 1], .sb], (cs [.s, .s])⟩, .tp [.i .i64, .u], [.st [.np 0, .ref 2], .dd, .sb], (cs [I, .s]), (fun x => q15 lo x.1 x.2 : ByteArray × ByteArray -> Option (Int × ByteArray))⟩
theorem q15_e (lo : Lo) : ∀ x : ByteArray × ByteArray, evI (⟨pf, fs15 lo, [], 2⟩ : Tabs) q15_F ⟨[0, 1], [.ptr 0 0 0, .s], [.st [.np 0, .ref 1], .sb], (cs [.s, .s])⟩ (.tp [.i .i64, .u]) [.st [.np 0, .ref 2], .dd, .sb] (cs [I, .s]) x = q15 lo x.1 x.2 := fun x => by kernel_rfl
theorem q15_S {P : Program} {fm : FM} {lo : Lo} (hlo : LoOK lo) (hS : Sound P fm ⟨pf, fs15 lo, [], 0⟩) (hm : P.follows .mixedOrders = true) (htie : Ti P fm 149 q15_F) : Sound P fm ⟨pf, q15_f lo :: fs15 lo, [], 0⟩ :=
  fnI_sound hS hm [] (q15_f lo) rfl q15_F htie (by decide) rfl (Nat.le_of_ble_eq_true (by kernel_rfl)) (fun C hT Fr H0 hf => show LsOK Fr H0 C (⟨pf, fs15 lo, [], 2⟩ : Tabs) q15_c from ⟨tv, ⟨tv, ⟨tv, ⟨tv, tv⟩⟩⟩⟩) (fun x y h => (q15_e lo x).trans h)
def fs16 (lo : Lo) : List FnE := q15_f lo :: fs15 lo
def q16 (lo : Lo) (s : ByteArray) : Option ByteArray := some s
def q16_f (lo : Lo) : FnE := vstrE 151
theorem q16_S {P : Program} {fm : FM} {lo : Lo} (hlo : LoOK lo) (hS : Sound P fm ⟨pf, fs16 lo, [], 0⟩) (hm : P.follows .mixedOrders = true) (hG : ∀ f, fm f = 151 -> callable P f = true /\ ∃ ρ : Go.Shelf.Ren, Go.Proofs.Lays.n169 P ρ /\ BldOK P fm ρ /\ fm.bu = ρ.t 5 /\ ρ.f 169 = f) : Sound P fm ⟨pf, q16_f lo :: fs16 lo, [], 0⟩ :=
  vstr_sound hS rfl hG
def fs17 (lo : Lo) : List FnE := q16_f lo :: fs16 lo
def q17_L3_b : VCode :=
 (.seq (.reg [o 11 (.bin .lss (t 10) (t 9))])
 (.seq (.cond (t 11) .skip
 (.exit 0))
 (.seq (.blk 1 (.seq (.reg [o 12 (.iad 3 (t 8) (t 10)), o 13 (.load true 3 (t 12)), o 5 (.alloc [.i .i64 0, .i .i64 0, .s (⟨#[]⟩)]), on (.store 3 (t 5) (t 13))])
 (.seq (.reg [o 15 (.load true 3 (t 5)), o 16 (.call 296 [(t 15)]), mV 14 16, eX 17 14 0, eX 18 14 1, mV 6 17, mV 7 18])
 (.reg [mV 19 6, o 20 (.call 149 [(t 3), (t 19)])]))))
 (.reg [o 21 (.bin .add (t 10) (k 1)), mV 10 21]))))
def q17_L3_g : Sg := ⟨[3, 8, 9, 10], [.ptr 0 0 0, .l Zc4, .i .i64, .i .i64], [.st [.np 0, .ref 1], .sb], (cs [.l Zc4, I, I, .s])⟩
def q17_L3_o : List Out1 := [⟨.exit 0, ⟨[3], [.ptr 0 0 0], [.st [.np 0, .ref 1], .sb], (cs [.s])⟩⟩]
def q17_L3_s (lo : Lo) : Zt0 × Int × Int × ByteArray -> Option ((Zt0 × Int × Int × ByteArray) ⊕ ByteArray) := fun x => match x with
  | (v8, v9, v10, h1) => bif (decide (v10 < v9)) then (chk (0 <= v10 /\ v10 < (v8.length : Int)) (Option.bind (q13 lo ((v8.getD v10.toNat ((0 : Int), (0 : Int), (ByteArray.mk #[]))).1) ((v8.getD v10.toNat ((0 : Int), (0 : Int), (ByteArray.mk #[]))).2.1) ((v8.getD v10.toNat ((0 : Int), (0 : Int), (ByteArray.mk #[]))).2.2)) fun y40 => Option.bind (q15 lo y40.1 h1) fun y42 => some (.inl (v8, v9, (IntKind.wrap .i64 (v10 + (1 : Int))), y42.2)))) else (some (.inr h1))
theorem q17_L3_e (lo : Lo) : ∀ x : Zt0 × Int × Int × ByteArray, stepL (⟨pf, fs17 lo, [], 0⟩ : Tabs) [] q17_L3_g q17_L3_o q17_L3_b x = q17_L3_s lo x := fun x => by kernel_rfl
def q17_L3 (lo : Lo) : Zt0 × Int × Int × ByteArray -> Option ByteArray := lo.run (q17_L3_s lo)
def q17_L3_p (lo : Lo) : LpE := ⟨3, [], q17_L3_g, q17_L3_o, q17_L3 lo⟩
theorem q17_L3_k {lo : Lo} (hlo : LoOK lo) (C : Ctx) (hT : TOK (⟨pf, fs17 lo, [], 0⟩ : Tabs) C) : LpSound (fun _ => False) [] 0 C (.loop q17_L3_b.er) (q17_L3_p lo) :=
  loop_sound hT frNo (show LK C _ q17_L3_b from ⟨tv, ⟨⟨tv, tv⟩, ⟨⟨tv, ⟨tv, tv⟩⟩, tv⟩⟩⟩) (fun x y h => loopO_congr (q17_L3_e lo) (hlo _ _ _ h))
def q17 (lo : Lo) (l0 : List (Int × Int × ByteArray)) : Option ByteArray :=
  Option.bind (q17_L3 lo (l0, (l0.length : Int), (0 : Int), (ByteArray.mk #[]))) fun y43 => Option.bind (q16 lo y43) fun y44 => some y44
def q17_c : VCode :=
 (.seq (.reg [o 2 (.mv (ks (⟨#[]⟩)))])
 (.seq (.reg [o 3 (.bld)])
 (.ow [(3, some 1, false)] (.seq (.seq (.reg [mV 8 0, lN 9 8, o 10 (.mv (k 0))])
 (.blk 0 (.loop 3 q17_L3_b)))
 (.seq (.reg [o 22 (.call 151 [(t 3)]), mV 2 22])
 (.fz [2] .ret))))))
def q17_F : VFn := ⟨true, 23, [.t 2], q17_c⟩
def q17_f (lo : Lo) : FnE := ⟨261, true, ⟨[0], [.l Zc4], [], (cs [.l Zc4])⟩, .s, [], (cs [.s]), (fun x => q17 lo x : Zt0 -> Option ByteArray)⟩
theorem q17_e (lo : Lo) : ∀ x : Zt0, evP (⟨pf, fs17 lo, [q17_L3_p lo], 0⟩ : Tabs) q17_F ⟨[0], [.l Zc4], [], (cs [.l Zc4])⟩ (.s) (cs [.s]) x = q17 lo x := fun x => by kernel_rfl
theorem q17_S {P : Program} {fm : FM} {lo : Lo} (hlo : LoOK lo) (hS : Sound P fm ⟨pf, fs17 lo, [], 0⟩) (hm : P.follows .mixedOrders = true) (htie : Ti P fm 261 q17_F) : Sound P fm ⟨pf, q17_f lo :: fs17 lo, [], 0⟩ :=
  fn_sound hS hm [q17_L3_p lo] (q17_f lo) rfl q17_F htie (by decide) rfl (Nat.le_of_ble_eq_true (by kernel_rfl)) (fun C hT => show LK C _ q17_c from ⟨tv, ⟨tv, ⟨⟨tv, (lsGet (by kernel_rfl) (q17_L3_k hlo C (tok_ls hT)))⟩, ⟨tv, tv⟩⟩⟩⟩) (fun x y h => (q17_e lo x).trans h)
def fs18 (lo : Lo) : List FnE := q17_f lo :: fs17 lo
def q18_L23_b : VCode :=
 (.seq (.reg [o 37 (.bin .lss (t 36) (t 35))])
 (.seq (.cond (t 37) .skip
 (.exit 0))
 (.seq (.blk 1 (.seq (.reg [mV 38 36, o 39 (.iad 1 (t 34) (t 36)), lD 40 39, mV 8 38, mV 9 40])
 (.seq (.reg [mV 41 1, mV 42 8, o 43 (.bin .shr (t 41) (t 42)), o 44 (.bin .and (t 43) (ki .u32 1)), o 45 (.bin .eql (t 44) (ki .u32 1))])
 (.cond (t 45) (.reg [fD 46 1 7, lD 47 46, mV 48 9, o 49 (.bsl (cs [.s]) 1 [(0, (t 48))]), o 50 (.app (cs [.s]) 0 (t 47) (t 49)), fD 51 1 7, on (.store 1 (t 51) (t 50))])
 .skip))))
 (.reg [o 52 (.bin .add (t 36) (k 1)), mV 36 52]))))
def q18_L23_g : Sg := ⟨[1, 2, 4, 7, 34, 35, 36], [.i .u32, .ptr 0 0 0, .ptr 1 0 0, .ptr 2 0 0, .l (cs [.s]), .i .i64, .i .i64], [.st [.s, .l (cs [.s]), .l Zc1], .st [.s, .l (cs [.s]), .l Zc1], .st [.s, .ref 3, .ref 4], .sq (cs [.s]), .sq Zc1], (cs [.i .u32, .l (cs [.s]), I, I, .s, .l (cs [.s]), .l Zc1, .s, .l (cs [.s]), .l Zc1, .s, .l (cs [.s]), .l Zc1])⟩
def q18_L23_o : List Out1 := [⟨.exit 0, ⟨[1, 2, 4, 7], [.i .u32, .ptr 0 0 0, .ptr 1 0 0, .ptr 2 0 0], [.st [.s, .l (cs [.s]), .l Zc1], .st [.s, .l (cs [.s]), .l Zc1], .st [.s, .ref 3, .ref 4], .sq (cs [.s]), .sq Zc1], (cs [.i .u32, .s, .l (cs [.s]), .l Zc1, .s, .l (cs [.s]), .l Zc1, .s, .l (cs [.s]), .l Zc1])⟩⟩]
def q18_L23_s (lo : Lo) : Zp27 -> Option (Zp27 ⊕ ((Int × ByteArray × Zt2 × Zt3 × ByteArray × Zt2 × Zt3 × ByteArray × Zt2 × Zt3))) := fun x => match x with
  | (s1, v34, v35, v36, t2_0, t2_1, t2_2, v4_0, v4_1, v4_2, out7, h3, h4) => bif (decide (v36 < v35)) then (chk (0 <= v36 /\ v36 < (v34.length : Int)) (chk (0 <= v36) (bif (decide ((bits .and .u32 (s1.fdiv (2 ^ (min v36.toNat (IntKind.bits .u32)))) (1 : Int)) = (1 : Int))) then (chk (h3.length + ([(v34.getD v36.toNat (ByteArray.mk #[]))]).length <= maxEl) (some (.inl (s1, v34, v35, (IntKind.wrap .i64 (v36 + (1 : Int))), t2_0, t2_1, t2_2, v4_0, v4_1, v4_2, out7, (h3 ++ ([(v34.getD v36.toNat (ByteArray.mk #[]))])), h4)))) else (some (.inl (s1, v34, v35, (IntKind.wrap .i64 (v36 + (1 : Int))), t2_0, t2_1, t2_2, v4_0, v4_1, v4_2, out7, h3, h4)))))) else (some (.inr (s1, t2_0, t2_1, t2_2, v4_0, v4_1, v4_2, out7, h3, h4)))
theorem q18_L23_e (lo : Lo) : ∀ x : Zp27, stepL (⟨pf, fs18 lo, [], 0⟩ : Tabs) [(7, some 1, false), (7, some 2, false)] q18_L23_g q18_L23_o q18_L23_b x = q18_L23_s lo x := fun x => by kernel_rfl
def q18_L23 (lo : Lo) : Zp27 -> Option ((Int × ByteArray × Zt2 × Zt3 × ByteArray × Zt2 × Zt3 × ByteArray × Zt2 × Zt3)) := lo.run (q18_L23_s lo)
def q18_L23_p (lo : Lo) : LpE := ⟨23, [(7, some 1, false), (7, some 2, false)], q18_L23_g, q18_L23_o, q18_L23 lo⟩
theorem q18_L23_k {lo : Lo} (hlo : LoOK lo) (C : Ctx) (hT : TOK (⟨pf, fs18 lo, [], 0⟩ : Tabs) C) : LpSound (fun _ => False) [] 0 C (.loop q18_L23_b.er) (q18_L23_p lo) :=
  loop_sound hT frNo (show LK C _ q18_L23_b from ⟨tv, ⟨⟨tv, tv⟩, ⟨⟨tv, ⟨tv, ⟨tv, tv⟩⟩⟩, tv⟩⟩⟩) (fun x y h => loopO_congr (q18_L23_e lo) (hlo _ _ _ h))
def q18_L9_b : VCode :=
 (.seq (.reg [o 68 (.bin .lss (t 67) (t 66))])
 (.seq (.cond (t 68) .skip
 (.exit 4))
 (.seq (.blk 5 (.seq (.reg [mV 69 67, o 70 (.iad 3 (t 65) (t 67)), o 71 (.load true 3 (t 70)), o 15 (.alloc [.i .i64 0, .i .i64 0, .s (⟨#[]⟩)]), mV 14 69, on (.store 3 (t 15) (t 71))])
 (.seq (.reg [mV 72 1, mV 73 14, o 74 (.bin .shr (t 72) (t 73)), o 75 (.bin .and (t 74) (ki .u32 1)), o 76 (.bin .eql (t 75) (ki .u32 1))])
 (.cond (t 76) (.reg [fD 77 1 13, lD 78 77, o 79 (.load true 3 (t 15)), o 80 (.bsl Zc4 1 [(0, (t 79))]), o 81 (.app Zc4 0 (t 78) (t 80)), fD 82 1 13, on (.store 1 (t 82) (t 81))])
 .skip))))
 (.reg [o 83 (.bin .add (t 67) (k 1)), mV 67 83]))))
def q18_L9_g : Sg := ⟨[1, 4, 7, 10, 13, 55, 56, 57, 65, 66, 67], [.i .u32, .ptr 0 0 0, .ptr 1 0 0, .np 2, .ptr 3 0 0, .l Zc1, .i .i64, .i .i64, .l Zc4, .i .i64, .i .i64], [.st [.s, .l (cs [.s]), .l Zc1], .st [.s, .ref 4, .ref 5], .st [.i .i64, .l (cs [I, .s, .b]), .b], .st [.i .i64, .ref 6], .sq (cs [.s]), .sq Zc1, .sq Zc4], Zc19⟩
def q18_L9_o : List Out1 := [⟨.exit 4, ⟨[1, 4, 7, 10, 13, 55, 56, 57], [.i .u32, .ptr 0 0 0, .ptr 1 0 0, .np 2, .ptr 3 0 0, .l Zc1, .i .i64, .i .i64], [.st [.s, .l (cs [.s]), .l Zc1], .st [.s, .ref 4, .ref 5], .st [.i .i64, .l (cs [I, .s, .b]), .b], .st [.i .i64, .ref 6], .sq (cs [.s]), .sq Zc1, .sq Zc4], (cs [.i .u32, .l Zc1, I, I, .s, .l (cs [.s]), .l Zc1, .s, I, .l (cs [I, .s, .b]), .b, I, .l (cs [.s]), .l Zc1, .l Zc4])⟩⟩]
def q18_L9_s (lo : Lo) : Zp24 -> Option (Zp24 ⊕ ((Int × Zt3 × Int × Int × ByteArray × Zt2 × Zt3 × ByteArray × Int × Zt10 × Bool × Int × Zt2 × Zt3 × Zt0))) := fun x => match x with
  | (s1, v55, v56, v57, v65, v66, v67, v4_0, v4_1, v4_2, out7, h2_0, h2_1, h2_2, p13, h4, h5, h6) => bif (decide (v67 < v66)) then (chk (0 <= v67 /\ v67 < (v65.length : Int)) (chk (0 <= v67) (bif (decide ((bits .and .u32 (s1.fdiv (2 ^ (min v67.toNat (IntKind.bits .u32)))) (1 : Int)) = (1 : Int))) then (chk (h6.length + ([(v65.getD v67.toNat ((0 : Int), (0 : Int), (ByteArray.mk #[])))]).length <= maxEl) (some (.inl (s1, v55, v56, v57, v65, v66, (IntKind.wrap .i64 (v67 + (1 : Int))), v4_0, v4_1, v4_2, out7, h2_0, h2_1, h2_2, p13, h4, h5, (h6 ++ ([(v65.getD v67.toNat ((0 : Int), (0 : Int), (ByteArray.mk #[])))])))))) else (some (.inl (s1, v55, v56, v57, v65, v66, (IntKind.wrap .i64 (v67 + (1 : Int))), v4_0, v4_1, v4_2, out7, h2_0, h2_1, h2_2, p13, h4, h5, h6)))))) else (some (.inr (s1, v55, v56, v57, v4_0, v4_1, v4_2, out7, h2_0, h2_1, h2_2, p13, h4, h5, h6)))
theorem q18_L9_e (lo : Lo) : ∀ x : Zp24, stepL (⟨pf, fs18 lo, [q18_L23_p lo], 0⟩ : Tabs) [(13, some 1, false)] q18_L9_g q18_L9_o q18_L9_b x = q18_L9_s lo x := fun x => by kernel_rfl
def q18_L9 (lo : Lo) : Zp24 -> Option ((Int × Zt3 × Int × Int × ByteArray × Zt2 × Zt3 × ByteArray × Int × Zt10 × Bool × Int × Zt2 × Zt3 × Zt0)) := lo.run (q18_L9_s lo)
def q18_L9_p (lo : Lo) : LpE := ⟨9, [(13, some 1, false)], q18_L9_g, q18_L9_o, q18_L9 lo⟩
theorem q18_L9_k {lo : Lo} (hlo : LoOK lo) (C : Ctx) (hT : TOK (⟨pf, fs18 lo, [q18_L23_p lo], 0⟩ : Tabs) C) : LpSound (fun _ => False) [] 0 C (.loop q18_L9_b.er) (q18_L9_p lo) :=
  loop_sound hT frNo (show LK C _ q18_L9_b from ⟨tv, ⟨⟨tv, tv⟩, ⟨⟨tv, ⟨tv, ⟨tv, tv⟩⟩⟩, tv⟩⟩⟩) (fun x y h => loopO_congr (q18_L9_e lo) (hlo _ _ _ h))
def q18_L3_b : VCode :=
 (.seq (.reg [o 58 (.bin .lss (t 57) (t 56))])
 (.seq (.cond (t 58) .skip
 (.exit 2))
 (.seq (.blk 3 (.seq (.reg [o 59 (.iad 2 (t 55) (t 57)), o 60 (.load true 2 (t 59)), o 12 (.alloc [.i .i64 0, .e Zc4]), on (.store 2 (t 12) (t 60))])
 (.seq (.reg [fD 61 0 12, lD 62 61, o 63 (.build [.i .i64 0, .e Zc4] [(0, 1, (t 62))]), o 13 (.alloc [.i .i64 0, .e Zc4]), on (.store 2 (t 13) (t 63))])
 (.seq (.seq (.reg [fD 64 1 12, lD 65 64, lN 66 65, o 67 (.mv (k 0))])
 (.blk 4 (.loop 9 q18_L9_b)))
 (.seq (.reg [fD 84 1 13, lD 85 84, o 86 (.call 261 [(t 85)]), mV 16 86])
 (.seq (.reg [mV 87 10, mV 88 16, o 89 (.mget none .b (cs []) false false (t 87) (t 88)), o 90 (.not (t 89))])
 (.cond (t 90) (.seq (.reg [mV 91 10, mV 92 16, on (.mput none .b (cs []) false (t 91) (t 92) (kb true))])
 (.fz [85] (.reg [fD 93 2 7, lD 94 93, o 95 (.load true 2 (t 13)), o 96 (.bsl Zc1 1 [(0, (t 95))]), o 97 (.app Zc1 0 (t 94) (t 96)), fD 98 2 7, on (.store 1 (t 98) (t 97))])))
 .skip)))))))
 (.reg [o 99 (.bin .add (t 57) (k 1)), mV 57 99]))))
def q18_L3_g : Sg := ⟨[1, 4, 7, 10, 55, 56, 57], [.i .u32, .ptr 0 0 0, .ptr 1 0 0, .np 2, .l Zc1, .i .i64, .i .i64], [.st [.s, .l (cs [.s]), .l Zc1], .st [.s, .ref 3, .ref 4], .st [.i .i64, .l (cs [I, .s, .b]), .b], .sq (cs [.s]), .sq Zc1], (cs [.i .u32, .l Zc1, I, I, .s, .l (cs [.s]), .l Zc1, .s, I, .l (cs [I, .s, .b]), .b, .l (cs [.s]), .l Zc1])⟩
def q18_L3_o : List Out1 := [⟨.exit 2, ⟨[4, 7], [.ptr 0 0 0, .ptr 1 0 0], [.st [.s, .l (cs [.s]), .l Zc1], .st [.s, .ref 2, .ref 3], .sq (cs [.s]), .sq Zc1], Zc7⟩⟩]
def q18_L3_s (lo : Lo) : Zp28 -> Option (Zp28 ⊕ (Zp36)) := fun x => match x with
  | (s1, v55, v56, v57, v4_0, v4_1, v4_2, out7, h2_0, h2_1, h2_2, h3, h4) => bif (decide (v57 < v56)) then (chk (0 <= v57 /\ v57 < (v55.length : Int)) (Option.bind (q18_L9 lo (s1, v55, v56, v57, (v55.getD v57.toNat ((0 : Int), [])).2, (((v55.getD v57.toNat ((0 : Int), [])).2).length : Int), (0 : Int), v4_0, v4_1, v4_2, out7, h2_0, h2_1, h2_2, (v55.getD v57.toNat ((0 : Int), [])).1, h3, h4, [])) fun y48 => Option.bind (q17 lo y48.2.2.2.2.2.2.2.2.2.2.2.2.2.2) fun y49 => bif (!(mgt eqS y49 y48.2.2.2.2.2.2.2.2.2.1 false)) then (chk (y48.2.2.2.2.2.2.2.2.2.2.2.2.2.1.length + ([(y48.2.2.2.2.2.2.2.2.2.2.2.1, y48.2.2.2.2.2.2.2.2.2.2.2.2.2.2)]).length <= maxEl) (some (.inl (y48.1, y48.2.1, y48.2.2.1, (IntKind.wrap .i64 (y48.2.2.2.1 + (1 : Int))), y48.2.2.2.2.1, y48.2.2.2.2.2.1, y48.2.2.2.2.2.2.1, y48.2.2.2.2.2.2.2.1, (mck eqS y48.2.2.2.2.2.2.2.2.1 y49 y48.2.2.2.2.2.2.2.2.2.1), (mpt eqS y48.2.2.2.2.2.2.2.2.1 y49 true y48.2.2.2.2.2.2.2.2.2.1), y48.2.2.2.2.2.2.2.2.2.2.1, y48.2.2.2.2.2.2.2.2.2.2.2.2.1, (y48.2.2.2.2.2.2.2.2.2.2.2.2.2.1 ++ ([(y48.2.2.2.2.2.2.2.2.2.2.2.1, y48.2.2.2.2.2.2.2.2.2.2.2.2.2.2)])))))) else (some (.inl (y48.1, y48.2.1, y48.2.2.1, (IntKind.wrap .i64 (y48.2.2.2.1 + (1 : Int))), y48.2.2.2.2.1, y48.2.2.2.2.2.1, y48.2.2.2.2.2.2.1, y48.2.2.2.2.2.2.2.1, y48.2.2.2.2.2.2.2.2.1, y48.2.2.2.2.2.2.2.2.2.1, y48.2.2.2.2.2.2.2.2.2.2.1, y48.2.2.2.2.2.2.2.2.2.2.2.2.1, y48.2.2.2.2.2.2.2.2.2.2.2.2.2.1))))) else (some (.inr (v4_0, v4_1, v4_2, out7, h3, h4)))
theorem q18_L3_e (lo : Lo) : ∀ x : Zp28, stepL (⟨pf, fs18 lo, [q18_L9_p lo, q18_L23_p lo], 0⟩ : Tabs) [] q18_L3_g q18_L3_o q18_L3_b x = q18_L3_s lo x := fun x => by kernel_rfl
def q18_L3 (lo : Lo) : Zp28 -> Option (Zp36) := lo.run (q18_L3_s lo)
def q18_L3_p (lo : Lo) : LpE := ⟨3, [], q18_L3_g, q18_L3_o, q18_L3 lo⟩
theorem q18_L3_k {lo : Lo} (hlo : LoOK lo) (C : Ctx) (hT : TOK (⟨pf, fs18 lo, [q18_L9_p lo, q18_L23_p lo], 0⟩ : Tabs) C) : LpSound (fun _ => False) [] 0 C (.loop q18_L3_b.er) (q18_L3_p lo) :=
  loop_sound hT frNo (show LK C _ q18_L3_b from ⟨tv, ⟨⟨tv, tv⟩, ⟨⟨tv, ⟨tv, ⟨⟨tv, (lsGet (by kernel_rfl) (q18_L9_k hlo C (tok_ls hT)))⟩, ⟨tv, ⟨tv, ⟨⟨tv, tv⟩, tv⟩⟩⟩⟩⟩⟩, tv⟩⟩⟩) (fun x y h => loopO_congr (q18_L3_e lo) (hlo _ _ _ h))
def q18 (lo : Lo) (t0_0 : ByteArray) (t0_1 : List ByteArray) (t0_2 : List (Int × Zt0)) (s1 : Int) : Option (ByteArray × Zt2 × Zt3 × Int) :=
  Option.bind (q11 lo t0_0 t0_1 t0_2) fun y46 => bif (!decide (y46 = (0 : Int))) then (some ((ByteArray.mk #[]), ([] : List ByteArray), ([] : List (Int × Zt0)), y46)) else (chk (0 <= (t0_1.length : Int)) (bif (!decide ((s1.fdiv (2 ^ (min (t0_1.length : Int).toNat (IntKind.bits .u32)))) = (0 : Int))) then (some ((ByteArray.mk #[]), ([] : List ByteArray), ([] : List (Int × Zt0)), (6 : Int))) else (Option.bind (q18_L23 lo (s1, t0_1, (t0_1.length : Int), (0 : Int), t0_0, t0_1, t0_2, (ByteArray.mk #[]), ([] : List ByteArray), ([] : List (Int × Zt0)), t0_0, [], [])) fun y47 => Option.bind (q18_L3 lo (y47.1, y47.2.2.2.1, (y47.2.2.2.1.length : Int), (0 : Int), y47.2.2.2.2.1, y47.2.2.2.2.2.1, y47.2.2.2.2.2.2.1, y47.2.2.2.2.2.2.2.1, (0 : Int), ([] : List (Int × ByteArray × Bool)), false, y47.2.2.2.2.2.2.2.2.1, y47.2.2.2.2.2.2.2.2.2)) fun y50 => some (y50.2.2.2.1, y50.2.2.2.2.1, y50.2.2.2.2.2, (0 : Int)))))
def q18_c : VCode :=
 (.seq (.reg [o 2 (.box (t 0)), o 4 (.alloc [.s (⟨#[]⟩), .e (cs [.s]), .e Zc1]), o 5 (.mv (k 0))])
 (.seq (.seq (.reg [o 17 (.load true 3 (t 2)), o 18 (.call 230 [(t 17)]), mV 6 18])
 (.seq (.reg [mV 19 6, o 20 (.bin .neq (t 19) (k 0))])
 (.cond (t 20) (.seq (.reg [o 21 (.build [.s (⟨#[]⟩), .e (cs [.s]), .e Zc1] []), mV 22 6, on (.store 3 (t 4) (t 21)), mV 5 22])
 (.fz [4, 5] .ret))
 .skip)))
 (.seq (.seq (.reg [mV 23 1, fD 24 1 2, lD 25 24, lN 26 25, o 27 (.bin .shr (t 23) (t 26)), o 28 (.bin .neq (t 27) (ki .u32 0))])
 (.cond (t 28) (.seq (.reg [o 29 (.build [.s (⟨#[]⟩), .e (cs [.s]), .e Zc1] []), on (.store 3 (t 4) (t 29)), o 5 (.mv (k 6))])
 (.fz [4, 5] .ret))
 .skip))
 (.seq (.reg [fD 30 0 2, lD 31 30, o 32 (.build [.s (⟨#[]⟩), .e (cs [.s]), .e Zc1] [(0, 1, (t 31))]), o 7 (.alloc [.s (⟨#[]⟩), .e (cs [.s]), .e Zc1]), on (.store 3 (t 7) (t 32))])
 (.seq (.seq (.reg [fD 33 1 2, lD 34 33, lN 35 34, o 36 (.mv (k 0))])
 (.blk 0 (.loop 23 q18_L23_b)))
 (.seq (.reg [o 53 (.mkm none .b (cs []) false), mV 10 53])
 (.seq (.seq (.reg [fD 54 2 2, lD 55 54, lN 56 55, o 57 (.mv (k 0))])
 (.blk 2 (.loop 3 q18_L3_b)))
 (.seq (.reg [o 100 (.load true 3 (t 7)), on (.store 3 (t 4) (t 100)), o 5 (.mv (k 0))])
 (.fz [4, 5] .ret)))))))))
def q18_F : VFn := ⟨true, 101, [.c 4 true 3, .t 5], q18_c⟩
def q18_f (lo : Lo) : FnE := ⟨233, true, ⟨[0, 1], [.ag [.s, .l (cs [.s]), .l Zc1], .i .u32], [], (cs [.s, .l (cs [.s]), .l Zc1, .i .u32])⟩, .tp [.ag [.s, .l (cs [.s]), .l Zc1], .i .i64], [], Zc6, (fun x => q18 lo x.1 x.2.1 x.2.2.1 x.2.2.2 : ByteArray × Zt2 × Zt3 × Int -> Option (ByteArray × Zt2 × Zt3 × Int))⟩
theorem q18_e (lo : Lo) : ∀ x : ByteArray × Zt2 × Zt3 × Int, evP (⟨pf, fs18 lo, [q18_L3_p lo, q18_L9_p lo, q18_L23_p lo], 0⟩ : Tabs) q18_F ⟨[0, 1], [.ag [.s, .l (cs [.s]), .l Zc1], .i .u32], [], (cs [.s, .l (cs [.s]), .l Zc1, .i .u32])⟩ (.tp [.ag [.s, .l (cs [.s]), .l Zc1], .i .i64]) Zc6 x = q18 lo x.1 x.2.1 x.2.2.1 x.2.2.2 := fun x => by kernel_rfl
theorem q18_S {P : Program} {fm : FM} {lo : Lo} (hlo : LoOK lo) (hS : Sound P fm ⟨pf, fs18 lo, [], 0⟩) (hm : P.follows .mixedOrders = true) (htie : Ti P fm 233 q18_F) : Sound P fm ⟨pf, q18_f lo :: fs18 lo, [], 0⟩ :=
  fn_sound hS hm [q18_L3_p lo, q18_L9_p lo, q18_L23_p lo] (q18_f lo) rfl q18_F htie (by decide) rfl (Nat.le_of_ble_eq_true (by kernel_rfl)) (fun C hT => show LK C _ q18_c from ⟨tv, ⟨⟨tv, ⟨tv, ⟨⟨tv, tv⟩, tv⟩⟩⟩, ⟨⟨tv, ⟨⟨tv, tv⟩, tv⟩⟩, ⟨tv, ⟨⟨tv, (lsGet (by kernel_rfl) (q18_L23_k hlo C (tok_ls hT)))⟩, ⟨tv, ⟨⟨tv, (lsGet (by kernel_rfl) (q18_L3_k hlo C (tok_ls hT)))⟩, ⟨tv, tv⟩⟩⟩⟩⟩⟩⟩⟩) (fun x y h => (q18_e lo x).trans h)
def fs19 (lo : Lo) : List FnE := q18_f lo :: fs18 lo
def q19 (lo : Lo) (l : List ByteArray) : Option Zt2 := bif Nat.ble l.length maxEl && Nat.ble 1 1 then some l else none
def q19_f (lo : Lo) : FnE := vcloneE 269 (cs [.s])
theorem q19_S {P : Program} {fm : FM} {lo : Lo} (hlo : LoOK lo) (hS : Sound P fm ⟨pf, fs19 lo, [], 0⟩) (hm : P.follows .mixedOrders = true) (htie : ∀ f, fm f = 269 -> fnTr P fm pf f = some (8, [.t 2], vcloneC 1 [(.string (⟨#[]⟩))])) : Sound P fm ⟨pf, q19_f lo :: fs19 lo, [], 0⟩ :=
  vclone_sound hS hm (cs [.s]) rfl [(.string (⟨#[]⟩))] 8 (by decide) htie
def fs20 (lo : Lo) : List FnE := q19_f lo :: fs19 lo
def q20_L3_b : VCode :=
 (.seq (.reg [o 21 (.bin .lss (t 20) (t 19))])
 (.seq (.cond (t 21) .skip
 (.exit 0))
 (.seq (.blk 1 (.seq (.reg [mV 22 20, o 23 (.iad 1 (t 18) (t 20)), lD 24 23, mV 11 22, mV 12 24])
 (.seq (.seq (.reg [mV 25 12, mV 26 0, lN 27 26, o 28 (.bin .lss (t 25) (t 27)), mV 29 28, og 30 29 true (.mv (t 0)), og 31 29 true (.mv (t 12)), og 32 29 true (.iad 3 (t 30) (t 31)), og 33 29 true (.load true 3 (t 32)), og 34 29 true (.mv (t 1)), og 35 29 true (.mv (t 11)), og 36 29 true (.iad 3 (t 34) (t 35)), og 37 29 true (.load true 3 (t 36)), og 38 29 true (.eqa true [1, 1, 2] (t 33) (t 37)), o 39 (.pick (t 29) (t 38) (kb false))])
 (.cond (t 39) (.seq (.reg [o 8 (.mv (ke Zc4)), o 9 (.mv (kb false))])
 (.fz [8, 9] .ret))
 .skip))
 (.reg [mV 40 10, mV 41 12, mV 42 1, mV 43 11, o 44 (.iad 3 (t 42) (t 43)), o 45 (.load true 3 (t 44)), o 46 (.iad 3 (t 40) (t 41)), on (.store 3 (t 46) (t 45))]))))
 (.reg [o 47 (.bin .add (t 20) (k 1)), mV 20 47]))))
def q20_L3_g : Sg := ⟨[0, 1, 10, 18, 19, 20], [.l Zc4, .l Zc4, .ref 0, .l (cs [I]), .i .i64, .i .i64], [.sq Zc4], (cs [.l Zc4, .l Zc4, .l (cs [I]), I, I, .l Zc4])⟩
def q20_L3_o : List Out1 := [⟨.ret, ⟨[8, 9], [.l Zc4, .b], [], (cs [.l Zc4, .b])⟩⟩, ⟨.exit 0, ⟨[10], [.ref 0], [.sq Zc4], (cs [.l Zc4])⟩⟩]
def q20_L3_s (lo : Lo) : Zp37 -> Option (Zp37 ⊕ ((Zt0 × Bool) ⊕ (Zt0))) := fun x => match x with
  | (a0, b1, v18, v19, v20, out10) => bif (decide (v20 < v19)) then (chk (0 <= v20 /\ v20 < (v18.length : Int)) (bif (decide ((v18.getD v20.toNat (0 : Int)) < (a0.length : Int))) then (chk (0 <= (v18.getD v20.toNat (0 : Int)) /\ (v18.getD v20.toNat (0 : Int)) < (a0.length : Int)) (chk (0 <= v20 /\ v20 < (b1.length : Int)) (bif (!((decide ((a0.getD ((v18.getD v20.toNat (0 : Int)).toNat) ((0 : Int), (0 : Int), (ByteArray.mk #[]))).1 = (b1.getD v20.toNat ((0 : Int), (0 : Int), (ByteArray.mk #[]))).1)) && ((decide ((a0.getD ((v18.getD v20.toNat (0 : Int)).toNat) ((0 : Int), (0 : Int), (ByteArray.mk #[]))).2.1 = (b1.getD v20.toNat ((0 : Int), (0 : Int), (ByteArray.mk #[]))).2.1)) && ((decide ((a0.getD ((v18.getD v20.toNat (0 : Int)).toNat) ((0 : Int), (0 : Int), (ByteArray.mk #[]))).2.2 = (b1.getD v20.toNat ((0 : Int), (0 : Int), (ByteArray.mk #[]))).2.2)) && true)))) then (some (.inr (.inl (([] : List (Int × Int × ByteArray)), false)))) else (chk (0 <= v20 /\ v20 < (b1.length : Int)) (chk (0 <= (v18.getD v20.toNat (0 : Int)) /\ (v18.getD v20.toNat (0 : Int)) < (out10.length : Int)) (some (.inl (a0, b1, v18, v19, (IntKind.wrap .i64 (v20 + (1 : Int))), (out10.set ((v18.getD v20.toNat (0 : Int)).toNat) (b1.getD v20.toNat ((0 : Int), (0 : Int), (ByteArray.mk #[])))))))))))) else (chk (0 <= v20 /\ v20 < (b1.length : Int)) (chk (0 <= (v18.getD v20.toNat (0 : Int)) /\ (v18.getD v20.toNat (0 : Int)) < (out10.length : Int)) (some (.inl (a0, b1, v18, v19, (IntKind.wrap .i64 (v20 + (1 : Int))), (out10.set ((v18.getD v20.toNat (0 : Int)).toNat) (b1.getD v20.toNat ((0 : Int), (0 : Int), (ByteArray.mk #[]))))))))))) else (some (.inr (.inr out10)))
theorem q20_L3_e (lo : Lo) : ∀ x : Zp37, stepL (⟨pf, fs20 lo, [], 0⟩ : Tabs) [] q20_L3_g q20_L3_o q20_L3_b x = q20_L3_s lo x := fun x => by kernel_rfl
def q20_L3 (lo : Lo) : Zp37 -> Option ((Zt0 × Bool) ⊕ (Zt0)) := lo.run (q20_L3_s lo)
def q20_L3_p (lo : Lo) : LpE := ⟨3, [], q20_L3_g, q20_L3_o, q20_L3 lo⟩
theorem q20_L3_k {lo : Lo} (hlo : LoOK lo) (C : Ctx) (hT : TOK (⟨pf, fs20 lo, [], 0⟩ : Tabs) C) : LpSound (fun _ => False) [] 0 C (.loop q20_L3_b.er) (q20_L3_p lo) :=
  loop_sound hT frNo (show LK C _ q20_L3_b from ⟨tv, ⟨⟨tv, tv⟩, ⟨⟨tv, ⟨⟨tv, ⟨⟨tv, tv⟩, tv⟩⟩, tv⟩⟩, tv⟩⟩⟩) (fun x y h => loopO_congr (q20_L3_e lo) (hlo _ _ _ h))
def q20 (lo : Lo) (a0 : List (Int × Int × ByteArray)) (b1 : List (Int × Int × ByteArray)) (place2 : List Int) (n3 : Int) : Option (Zt0 × Bool) :=
  chk (0 <= n3 /\ n3 <= n3 /\ n3 <= (maxEl : Nat)) (Option.bind (q20_L3 lo (a0, b1, place2, (place2.length : Int), (0 : Int), (a0.take (min a0.length (List.replicate n3.toNat ((0 : Int), (0 : Int), (ByteArray.mk #[]))).length) ++ (List.replicate n3.toNat ((0 : Int), (0 : Int), (ByteArray.mk #[]))).drop (min a0.length (List.replicate n3.toNat ((0 : Int), (0 : Int), (ByteArray.mk #[]))).length)))) fun y58 => alt2 y58 (fun y59 => some (y59.1, y59.2)) (fun y60 => some (y60, true)))
def q20_c : VCode :=
 (.seq (.reg [o 8 (.mv (ke Zc4)), o 9 (.mv (kb false))])
 (.seq (.reg [mV 13 3, o 14 (.mksl Zc4 0 (t 13) (t 13)), mV 10 14])
 (.seq (.reg [mV 15 10, mV 16 0, o 17 (.cpy Zc4 (t 15) (t 16))])
 (.seq (.seq (.reg [mV 18 2, lN 19 18, o 20 (.mv (k 0))])
 (.blk 0 (.loop 3 q20_L3_b)))
 (.seq (.reg [mV 48 10, mV 8 48, o 9 (.mv (kb true))])
 (.fz [8, 9] .ret))))))
def q20_F : VFn := ⟨true, 49, [.t 8, .t 9], q20_c⟩
def q20_f (lo : Lo) : FnE := ⟨270, true, ⟨[0, 1, 2, 3], [.l Zc4, .l Zc4, .l (cs [I]), .i .i64], [], (cs [.l Zc4, .l Zc4, .l (cs [I]), I])⟩, .tp [.l Zc4, .b], [], (cs [.l Zc4, .b]), (fun x => q20 lo x.1 x.2.1 x.2.2.1 x.2.2.2 : Zt0 × Zt0 × (List Int) × Int -> Option (Zt0 × Bool))⟩
theorem q20_e (lo : Lo) : ∀ x : Zt0 × Zt0 × (List Int) × Int, evP (⟨pf, fs20 lo, [q20_L3_p lo], 0⟩ : Tabs) q20_F ⟨[0, 1, 2, 3], [.l Zc4, .l Zc4, .l (cs [I]), .i .i64], [], (cs [.l Zc4, .l Zc4, .l (cs [I]), I])⟩ (.tp [.l Zc4, .b]) (cs [.l Zc4, .b]) x = q20 lo x.1 x.2.1 x.2.2.1 x.2.2.2 := fun x => by kernel_rfl
theorem q20_S {P : Program} {fm : FM} {lo : Lo} (hlo : LoOK lo) (hS : Sound P fm ⟨pf, fs20 lo, [], 0⟩) (hm : P.follows .mixedOrders = true) (htie : Ti P fm 270 q20_F) : Sound P fm ⟨pf, q20_f lo :: fs20 lo, [], 0⟩ :=
  fn_sound hS hm [q20_L3_p lo] (q20_f lo) rfl q20_F htie (by decide) rfl (Nat.le_of_ble_eq_true (by kernel_rfl)) (fun C hT => show LK C _ q20_c from ⟨tv, ⟨tv, ⟨tv, ⟨⟨tv, (lsGet (by kernel_rfl) (q20_L3_k hlo C (tok_ls hT)))⟩, ⟨tv, tv⟩⟩⟩⟩⟩) (fun x y h => (q20_e lo x).trans h)
def fs21 (lo : Lo) : List FnE := q20_f lo :: fs20 lo
def q21_J9_b : VCode :=
 (.seq (.seq (.reg [mV 13 0, o 14 (.bin .geq (t 13) (ki .u64 256))])
 (.cond (t 14) (.seq (.reg [mV 15 0, o 16 (.bin .shr (t 15) (ki .u64 8)), mV 0 16])
 (.reg [mV 17 2, o 18 (.bin .add (t 17) (k 8)), mV 2 18]))
 .skip))
 (.seq (.reg [mV 19 2, mV 20 0, o 21 (.conv .u8 (t 20)), o 22 (.idx (ks (⟨#[0, 1, 2, 2, 3, 3, 3, 3, 4, 4, 4, 4, 4, 4, 4, 4, 5, 5, 5, 5, 5, 5, 5, 5, 5, 5, 5, 5, 5, 5, 5, 5, 6, 6, 6, 6, 6, 6, 6, 6, 6, 6, 6, 6, 6, 6, 6, 6, 6, 6, 6, 6, 6, 6, 6, 6, 6, 6, 6, 6, 6, 6, 6, 6, 7, 7, 7, 7, 7, 7, 7, 7, 7, 7, 7, 7, 7, 7, 7, 7, 7, 7, 7, 7, 7, 7, 7, 7, 7, 7, 7, 7, 7, 7, 7, 7, 7, 7, 7, 7, 7, 7, 7, 7, 7, 7, 7, 7, 7, 7, 7, 7, 7, 7, 7, 7, 7, 7, 7, 7, 7, 7, 7, 7, 7, 7, 7, 7, 8, 8, 8, 8, 8, 8, 8, 8, 8, 8, 8, 8, 8, 8, 8, 8, 8, 8, 8, 8, 8, 8, 8, 8, 8, 8, 8, 8, 8, 8, 8, 8, 8, 8, 8, 8, 8, 8, 8, 8, 8, 8, 8, 8, 8, 8, 8, 8, 8, 8, 8, 8, 8, 8, 8, 8, 8, 8, 8, 8, 8, 8, 8, 8, 8, 8, 8, 8, 8, 8, 8, 8, 8, 8, 8, 8, 8, 8, 8, 8, 8, 8, 8, 8, 8, 8, 8, 8, 8, 8, 8, 8, 8, 8, 8, 8, 8, 8, 8, 8, 8, 8, 8, 8, 8, 8, 8, 8, 8, 8, 8, 8, 8, 8, 8, 8, 8, 8, 8, 8, 8, 8, 8, 8, 8, 8, 8, 8]⟩)) (t 21)), o 23 (.conv .i64 (t 22)), o 24 (.bin .add (t 19) (t 23)), mV 2 24])
 (.fz [2] .ret)))
def q21_J9_g : Sg := ⟨[0, 2], [.i .u64, .i .i64], [], (cs [.i .u64, I])⟩
def q21_J9_o : List Out1 := [⟨.ret, ⟨[2], [.i .i64], [], (cs [I])⟩⟩]
def q21_J9 (lo : Lo) : Int × Int -> Option Int := fun x => match x with
  | (x0, n2) => bif (decide ((256 : Int) <= x0)) then (chk (0 <= (8 : Int)) (chk (0 <= (IntKind.wrap .u8 (x0.fdiv (2 ^ (min (8 : Int).toNat (IntKind.bits .u64))))) /\ (IntKind.wrap .u8 (x0.fdiv (2 ^ (min (8 : Int).toNat (IntKind.bits .u64))))) < ((ByteArray.mk #[0, 1, 2, 2, 3, 3, 3, 3, 4, 4, 4, 4, 4, 4, 4, 4, 5, 5, 5, 5, 5, 5, 5, 5, 5, 5, 5, 5, 5, 5, 5, 5, 6, 6, 6, 6, 6, 6, 6, 6, 6, 6, 6, 6, 6, 6, 6, 6, 6, 6, 6, 6, 6, 6, 6, 6, 6, 6, 6, 6, 6, 6, 6, 6, 7, 7, 7, 7, 7, 7, 7, 7, 7, 7, 7, 7, 7, 7, 7, 7, 7, 7, 7, 7, 7, 7, 7, 7, 7, 7, 7, 7, 7, 7, 7, 7, 7, 7, 7, 7, 7, 7, 7, 7, 7, 7, 7, 7, 7, 7, 7, 7, 7, 7, 7, 7, 7, 7, 7, 7, 7, 7, 7, 7, 7, 7, 7, 7, 8, 8, 8, 8, 8, 8, 8, 8, 8, 8, 8, 8, 8, 8, 8, 8, 8, 8, 8, 8, 8, 8, 8, 8, 8, 8, 8, 8, 8, 8, 8, 8, 8, 8, 8, 8, 8, 8, 8, 8, 8, 8, 8, 8, 8, 8, 8, 8, 8, 8, 8, 8, 8, 8, 8, 8, 8, 8, 8, 8, 8, 8, 8, 8, 8, 8, 8, 8, 8, 8, 8, 8, 8, 8, 8, 8, 8, 8, 8, 8, 8, 8, 8, 8, 8, 8, 8, 8, 8, 8, 8, 8, 8, 8, 8, 8, 8, 8, 8, 8, 8, 8, 8, 8, 8, 8, 8, 8, 8, 8, 8, 8, 8, 8, 8, 8, 8, 8, 8, 8, 8, 8, 8, 8, 8, 8, 8, 8]).size : Int)) (some (IntKind.wrap .i64 ((IntKind.wrap .i64 (n2 + (8 : Int))) + (IntKind.wrap .i64 (byteI (ByteArray.mk #[0, 1, 2, 2, 3, 3, 3, 3, 4, 4, 4, 4, 4, 4, 4, 4, 5, 5, 5, 5, 5, 5, 5, 5, 5, 5, 5, 5, 5, 5, 5, 5, 6, 6, 6, 6, 6, 6, 6, 6, 6, 6, 6, 6, 6, 6, 6, 6, 6, 6, 6, 6, 6, 6, 6, 6, 6, 6, 6, 6, 6, 6, 6, 6, 7, 7, 7, 7, 7, 7, 7, 7, 7, 7, 7, 7, 7, 7, 7, 7, 7, 7, 7, 7, 7, 7, 7, 7, 7, 7, 7, 7, 7, 7, 7, 7, 7, 7, 7, 7, 7, 7, 7, 7, 7, 7, 7, 7, 7, 7, 7, 7, 7, 7, 7, 7, 7, 7, 7, 7, 7, 7, 7, 7, 7, 7, 7, 7, 8, 8, 8, 8, 8, 8, 8, 8, 8, 8, 8, 8, 8, 8, 8, 8, 8, 8, 8, 8, 8, 8, 8, 8, 8, 8, 8, 8, 8, 8, 8, 8, 8, 8, 8, 8, 8, 8, 8, 8, 8, 8, 8, 8, 8, 8, 8, 8, 8, 8, 8, 8, 8, 8, 8, 8, 8, 8, 8, 8, 8, 8, 8, 8, 8, 8, 8, 8, 8, 8, 8, 8, 8, 8, 8, 8, 8, 8, 8, 8, 8, 8, 8, 8, 8, 8, 8, 8, 8, 8, 8, 8, 8, 8, 8, 8, 8, 8, 8, 8, 8, 8, 8, 8, 8, 8, 8, 8, 8, 8, 8, 8, 8, 8, 8, 8, 8, 8, 8, 8, 8, 8, 8, 8, 8, 8, 8, 8]) (IntKind.wrap .u8 (x0.fdiv (2 ^ (min (8 : Int).toNat (IntKind.bits .u64)))))))))))) else (chk (0 <= (IntKind.wrap .u8 x0) /\ (IntKind.wrap .u8 x0) < ((ByteArray.mk #[0, 1, 2, 2, 3, 3, 3, 3, 4, 4, 4, 4, 4, 4, 4, 4, 5, 5, 5, 5, 5, 5, 5, 5, 5, 5, 5, 5, 5, 5, 5, 5, 6, 6, 6, 6, 6, 6, 6, 6, 6, 6, 6, 6, 6, 6, 6, 6, 6, 6, 6, 6, 6, 6, 6, 6, 6, 6, 6, 6, 6, 6, 6, 6, 7, 7, 7, 7, 7, 7, 7, 7, 7, 7, 7, 7, 7, 7, 7, 7, 7, 7, 7, 7, 7, 7, 7, 7, 7, 7, 7, 7, 7, 7, 7, 7, 7, 7, 7, 7, 7, 7, 7, 7, 7, 7, 7, 7, 7, 7, 7, 7, 7, 7, 7, 7, 7, 7, 7, 7, 7, 7, 7, 7, 7, 7, 7, 7, 8, 8, 8, 8, 8, 8, 8, 8, 8, 8, 8, 8, 8, 8, 8, 8, 8, 8, 8, 8, 8, 8, 8, 8, 8, 8, 8, 8, 8, 8, 8, 8, 8, 8, 8, 8, 8, 8, 8, 8, 8, 8, 8, 8, 8, 8, 8, 8, 8, 8, 8, 8, 8, 8, 8, 8, 8, 8, 8, 8, 8, 8, 8, 8, 8, 8, 8, 8, 8, 8, 8, 8, 8, 8, 8, 8, 8, 8, 8, 8, 8, 8, 8, 8, 8, 8, 8, 8, 8, 8, 8, 8, 8, 8, 8, 8, 8, 8, 8, 8, 8, 8, 8, 8, 8, 8, 8, 8, 8, 8, 8, 8, 8, 8, 8, 8, 8, 8, 8, 8, 8, 8, 8, 8, 8, 8, 8, 8]).size : Int)) (some (IntKind.wrap .i64 (n2 + (IntKind.wrap .i64 (byteI (ByteArray.mk #[0, 1, 2, 2, 3, 3, 3, 3, 4, 4, 4, 4, 4, 4, 4, 4, 5, 5, 5, 5, 5, 5, 5, 5, 5, 5, 5, 5, 5, 5, 5, 5, 6, 6, 6, 6, 6, 6, 6, 6, 6, 6, 6, 6, 6, 6, 6, 6, 6, 6, 6, 6, 6, 6, 6, 6, 6, 6, 6, 6, 6, 6, 6, 6, 7, 7, 7, 7, 7, 7, 7, 7, 7, 7, 7, 7, 7, 7, 7, 7, 7, 7, 7, 7, 7, 7, 7, 7, 7, 7, 7, 7, 7, 7, 7, 7, 7, 7, 7, 7, 7, 7, 7, 7, 7, 7, 7, 7, 7, 7, 7, 7, 7, 7, 7, 7, 7, 7, 7, 7, 7, 7, 7, 7, 7, 7, 7, 7, 8, 8, 8, 8, 8, 8, 8, 8, 8, 8, 8, 8, 8, 8, 8, 8, 8, 8, 8, 8, 8, 8, 8, 8, 8, 8, 8, 8, 8, 8, 8, 8, 8, 8, 8, 8, 8, 8, 8, 8, 8, 8, 8, 8, 8, 8, 8, 8, 8, 8, 8, 8, 8, 8, 8, 8, 8, 8, 8, 8, 8, 8, 8, 8, 8, 8, 8, 8, 8, 8, 8, 8, 8, 8, 8, 8, 8, 8, 8, 8, 8, 8, 8, 8, 8, 8, 8, 8, 8, 8, 8, 8, 8, 8, 8, 8, 8, 8, 8, 8, 8, 8, 8, 8, 8, 8, 8, 8, 8, 8, 8, 8, 8, 8, 8, 8, 8, 8, 8, 8, 8, 8, 8, 8, 8, 8, 8, 8]) (IntKind.wrap .u8 x0)))))))
theorem q21_J9_e (lo : Lo) : ∀ x : Int × Int, stepJ (⟨pf, fs21 lo, [], 0⟩ : Tabs) q21_J9_g q21_J9_o q21_J9_b x = q21_J9 lo x := fun x => by kernel_rfl
def q21_J9_p (lo : Lo) : LpE := ⟨9, [], q21_J9_g, q21_J9_o, q21_J9 lo⟩
theorem q21_J9_k {lo : Lo} (hlo : LoOK lo) (C : Ctx) (hT : TOK (⟨pf, fs21 lo, [], 0⟩ : Tabs) C) : LpSound (fun _ => False) [] 0 C q21_J9_b.er (q21_J9_p lo) :=
  jn_sound hT frNo (show LK C _ q21_J9_b from ⟨⟨tv, ⟨⟨tv, tv⟩, tv⟩⟩, ⟨tv, tv⟩⟩) (fun x y h => (q21_J9_e lo x).trans h)
def q21 (lo : Lo) (x0 : Int) : Option Int :=
  bif (decide ((4294967296 : Int) <= x0)) then (chk (0 <= (32 : Int)) (bif (decide ((65536 : Int) <= (x0.fdiv (2 ^ (min (32 : Int).toNat (IntKind.bits .u64)))))) then (chk (0 <= (16 : Int)) (Option.bind (q21_J9 lo (((x0.fdiv (2 ^ (min (32 : Int).toNat (IntKind.bits .u64)))).fdiv (2 ^ (min (16 : Int).toNat (IntKind.bits .u64)))), (IntKind.wrap .i64 ((32 : Int) + (16 : Int))))) fun y93 => some y93)) else (Option.bind (q21_J9 lo ((x0.fdiv (2 ^ (min (32 : Int).toNat (IntKind.bits .u64)))), (32 : Int))) fun y94 => some y94))) else (bif (decide ((65536 : Int) <= x0)) then (chk (0 <= (16 : Int)) (Option.bind (q21_J9 lo ((x0.fdiv (2 ^ (min (16 : Int).toNat (IntKind.bits .u64)))), (IntKind.wrap .i64 ((0 : Int) + (16 : Int))))) fun y95 => some y95)) else (Option.bind (q21_J9 lo (x0, (0 : Int))) fun y96 => some y96))
def q21_c : VCode :=
 (.seq (.reg [o 2 (.mv (k 0))])
 (.seq (.seq (.reg [mV 3 0, o 4 (.bin .geq (t 3) (ki .u64 4294967296))])
 (.cond (t 4) (.seq (.reg [mV 5 0, o 6 (.bin .shr (t 5) (ki .u64 32)), mV 0 6])
 (.reg [o 2 (.mv (k 32))]))
 .skip))
 (.seq (.seq (.reg [mV 7 0, o 8 (.bin .geq (t 7) (ki .u64 65536))])
 (.cond (t 8) (.seq (.reg [mV 9 0, o 10 (.bin .shr (t 9) (ki .u64 16)), mV 0 10])
 (.reg [mV 11 2, o 12 (.bin .add (t 11) (k 16)), mV 2 12]))
 .skip))
 (.jn 9 q21_J9_b))))
def q21_F : VFn := ⟨true, 25, [.t 2], q21_c⟩
def q21_f (lo : Lo) : FnE := ⟨187, true, ⟨[0], [.i .u64], [], (cs [.i .u64])⟩, .i .i64, [], (cs [I]), (fun x => q21 lo x : Int -> Option Int)⟩
theorem q21_e (lo : Lo) : ∀ x : Int, evP (⟨pf, fs21 lo, [q21_J9_p lo], 0⟩ : Tabs) q21_F ⟨[0], [.i .u64], [], (cs [.i .u64])⟩ (.i .i64) (cs [I]) x = q21 lo x := fun x => by kernel_rfl
theorem q21_S {P : Program} {fm : FM} {lo : Lo} (hlo : LoOK lo) (hS : Sound P fm ⟨pf, fs21 lo, [], 0⟩) (hm : P.follows .mixedOrders = true) (htie : Ti P fm 187 q21_F) : Sound P fm ⟨pf, q21_f lo :: fs21 lo, [], 0⟩ :=
  fn_sound hS hm [q21_J9_p lo] (q21_f lo) rfl q21_F htie (by decide) rfl (Nat.le_of_ble_eq_true (by kernel_rfl)) (fun C hT => show LK C _ q21_c from ⟨tv, ⟨⟨tv, ⟨⟨tv, tv⟩, tv⟩⟩, ⟨⟨tv, ⟨⟨tv, tv⟩, tv⟩⟩, (lsGet (by kernel_rfl) (q21_J9_k hlo C (tok_ls hT)))⟩⟩⟩) (fun x y h => (q21_e lo x).trans h)
def fs22 (lo : Lo) : List FnE := q21_f lo :: fs21 lo
def q22 (lo : Lo) (x0 : Int) : Option Int :=
  Option.bind (q21 lo x0) fun y97 => some y97
def q22_c : VCode :=
 (.seq (.reg [o 2 (.mv (k 0))])
 (.seq (.cond (kb false) (.seq (.reg [mV 3 0, o 4 (.conv .u32 (t 3)), o 5 (.call 186 [(t 4)]), mV 2 5])
 (.fz [2] .ret))
 .skip)
 (.seq (.reg [mV 6 0, o 7 (.call 187 [(t 6)]), mV 2 7])
 (.fz [2] .ret))))
def q22_F : VFn := ⟨true, 8, [.t 2], q22_c⟩
def q22_f (lo : Lo) : FnE := ⟨163, true, ⟨[0], [.i .u64], [], (cs [.i .u64])⟩, .i .i64, [], (cs [I]), (fun x => q22 lo x : Int -> Option Int)⟩
theorem q22_e (lo : Lo) : ∀ x : Int, evP (⟨pf, fs22 lo, [], 0⟩ : Tabs) q22_F ⟨[0], [.i .u64], [], (cs [.i .u64])⟩ (.i .i64) (cs [I]) x = q22 lo x := fun x => by kernel_rfl
theorem q22_S {P : Program} {fm : FM} {lo : Lo} (hlo : LoOK lo) (hS : Sound P fm ⟨pf, fs22 lo, [], 0⟩) (hm : P.follows .mixedOrders = true) (htie : Ti P fm 163 q22_F) : Sound P fm ⟨pf, q22_f lo :: fs22 lo, [], 0⟩ :=
  fn_sound hS hm [] (q22_f lo) rfl q22_F htie (by decide) rfl (Nat.le_of_ble_eq_true (by kernel_rfl)) (fun C hT => show LK C _ q22_c from ⟨tv, ⟨⟨⟨tv, tv⟩, tv⟩, ⟨tv, tv⟩⟩⟩) (fun x y h => (q22_e lo x).trans h)
def fs23 (lo : Lo) : List FnE := q22_f lo :: fs22 lo
def q23 (lo : Lo) (x0 : ByteArray) : Option Bool :=
  some (!decide (x0 = x0))
def q23_c : VCode :=
 (.seq (.reg [o 2 (.mv (kb false))])
 (.seq (.reg [mV 3 0, mV 4 0, o 5 (.bin .neq (t 3) (t 4)), mV 2 5])
 (.fz [2] .ret)))
def q23_F : VFn := ⟨true, 6, [.t 2], q23_c⟩
def q23_f (lo : Lo) : FnE := ⟨325, true, ⟨[0], [.s], [], (cs [.s])⟩, .b, [], (cs [.b]), (fun x => q23 lo x : ByteArray -> Option Bool)⟩
theorem q23_e (lo : Lo) : ∀ x : ByteArray, evP (⟨pf, fs23 lo, [], 0⟩ : Tabs) q23_F ⟨[0], [.s], [], (cs [.s])⟩ (.b) (cs [.b]) x = q23 lo x := fun x => by kernel_rfl
theorem q23_S {P : Program} {fm : FM} {lo : Lo} (hlo : LoOK lo) (hS : Sound P fm ⟨pf, fs23 lo, [], 0⟩) (hm : P.follows .mixedOrders = true) (htie : Ti P fm 325 q23_F) : Sound P fm ⟨pf, q23_f lo :: fs23 lo, [], 0⟩ :=
  fn_sound hS hm [] (q23_f lo) rfl q23_F htie (by decide) rfl (Nat.le_of_ble_eq_true (by kernel_rfl)) (fun C hT => show LK C _ q23_c from ⟨tv, ⟨tv, tv⟩⟩) (fun x y h => (q23_e lo x).trans h)
def fs24 (lo : Lo) : List FnE := q23_f lo :: fs23 lo
def q24 (lo : Lo) (x0 : ByteArray) (y1 : ByteArray) : Option Bool :=
  Option.bind (q23 lo x0) fun y99 => bif y99 then (Option.bind (q23 lo y1) fun y100 => bif (!y100) then (some true) else (some (Op.bytesLess x0.toList y1.toList))) else (some (Op.bytesLess x0.toList y1.toList))
def q24_c : VCode :=
 (.seq (.reg [o 4 (.mv (kb false))])
 (.seq (.reg [mV 5 0, o 6 (.call 325 [(t 5)]), mV 7 6, og 8 7 true (.mv (t 1)), og 9 7 true (.call 325 [(t 8)]), og 10 7 true (.not (t 9)), o 11 (.pick (t 7) (t 10) (kb false)), mV 12 11, og 13 12 false (.mv (t 0)), og 14 12 false (.mv (t 1)), og 15 12 false (.bin .lss (t 13) (t 14)), o 16 (.pick (t 12) (kb true) (t 15)), mV 4 16])
 (.fz [4] .ret)))
def q24_F : VFn := ⟨true, 17, [.t 4], q24_c⟩
def q24_f (lo : Lo) : FnE := ⟨317, true, ⟨[0, 1], [.s, .s], [], (cs [.s, .s])⟩, .b, [], (cs [.b]), (fun x => q24 lo x.1 x.2 : ByteArray × ByteArray -> Option Bool)⟩
theorem q24_e (lo : Lo) : ∀ x : ByteArray × ByteArray, evP (⟨pf, fs24 lo, [], 0⟩ : Tabs) q24_F ⟨[0, 1], [.s, .s], [], (cs [.s, .s])⟩ (.b) (cs [.b]) x = q24 lo x.1 x.2 := fun x => by kernel_rfl
theorem q24_S {P : Program} {fm : FM} {lo : Lo} (hlo : LoOK lo) (hS : Sound P fm ⟨pf, fs24 lo, [], 0⟩) (hm : P.follows .mixedOrders = true) (htie : Ti P fm 317 q24_F) : Sound P fm ⟨pf, q24_f lo :: fs24 lo, [], 0⟩ :=
  fn_sound hS hm [] (q24_f lo) rfl q24_F htie (by decide) rfl (Nat.le_of_ble_eq_true (by kernel_rfl)) (fun C hT => show LK C _ q24_c from ⟨tv, ⟨tv, tv⟩⟩) (fun x y h => (q24_e lo x).trans h)
def fs25 (lo : Lo) : List FnE := q24_f lo :: fs24 lo
end Go.Abs.G03
namespace Go.Abs.G03
open Go Go.Abs
set_option maxRecDepth 100000
set_option maxHeartbeats 1000000
def q25_L3_b : VCode :=
 (.seq (.seq (.reg [mV 16 7, mV 17 1, o 18 (.bin .gtr (t 16) (t 17)), mV 19 18, og 20 19 true (.mv (t 0)), og 21 19 true (.mv (t 7)), og 22 19 true (.iad 1 (t 20) (t 21)), og 23 19 true (.load false 1 (t 22)), og 24 19 true (.mv (t 0)), og 25 19 true (.mv (t 7)), og 26 19 true (.bin .sub (t 25) (k 1)), og 27 19 true (.iad 1 (t 24) (t 26)), og 28 19 true (.load false 1 (t 27)), og 29 19 true (.call 317 [(t 23), (t 28)]), o 30 (.pick (t 19) (t 29) (kb false))])
 (.cond (t 30) .skip
 (.exit 2)))
 (.seq (.blk 3 (.reg [mV 33 0, mV 34 7, mV 35 0, mV 36 7, o 37 (.bin .sub (t 36) (k 1)), mV 38 0, mV 39 7, o 40 (.bin .sub (t 39) (k 1)), o 41 (.iad 1 (t 38) (t 40)), lD 42 41, mV 43 0, mV 44 7, o 45 (.iad 1 (t 43) (t 44)), lD 46 45, o 47 (.iad 1 (t 33) (t 34)), on (.store 1 (t 47) (t 42)), o 48 (.iad 1 (t 35) (t 37)), on (.store 1 (t 48) (t 46))]))
 (.reg [mV 31 7, o 32 (.bin .sub (t 31) (k 1)), mV 7 32])))
def q25_L3_g : Sg := ⟨[0, 1, 2, 6, 7], [.ref 0, .i .i64, .i .i64, .i .i64, .i .i64], [.sq (cs [.s])], (cs [I, I, I, I, .l (cs [.s])])⟩
def q25_L3_o : List Out1 := [⟨.exit 2, ⟨[0, 1, 2, 6], [.ref 0, .i .i64, .i .i64, .i .i64], [.sq (cs [.s])], Zc14⟩⟩]
def q25_L3_s (lo : Lo) : Int × Int × Int × Int × Zt2 -> Option ((Int × Int × Int × Int × Zt2) ⊕ ((Int × Int × Int × Zt2))) := fun x => match x with
  | (a1, b2, i6, j7, data0) => bif (decide (a1 < j7)) then (chk (0 <= j7 /\ j7 < (data0.length : Int)) (chk (0 <= (IntKind.wrap .i64 (j7 - (1 : Int))) /\ (IntKind.wrap .i64 (j7 - (1 : Int))) < (data0.length : Int)) (Option.bind (q24 lo (data0.getD j7.toNat (ByteArray.mk #[])) (data0.getD ((IntKind.wrap .i64 (j7 - (1 : Int))).toNat) (ByteArray.mk #[]))) fun y101 => bif y101 then (chk (0 <= (IntKind.wrap .i64 (j7 - (1 : Int))) /\ (IntKind.wrap .i64 (j7 - (1 : Int))) < (data0.length : Int)) (chk (0 <= j7 /\ j7 < (data0.length : Int)) (chk (0 <= j7 /\ j7 < (data0.length : Int)) (chk (0 <= (IntKind.wrap .i64 (j7 - (1 : Int))) /\ (IntKind.wrap .i64 (j7 - (1 : Int))) < ((data0.set j7.toNat (data0.getD ((IntKind.wrap .i64 (j7 - (1 : Int))).toNat) (ByteArray.mk #[]))).length : Int)) (some (.inl (a1, b2, i6, (IntKind.wrap .i64 (j7 - (1 : Int))), ((data0.set j7.toNat (data0.getD ((IntKind.wrap .i64 (j7 - (1 : Int))).toNat) (ByteArray.mk #[]))).set ((IntKind.wrap .i64 (j7 - (1 : Int))).toNat) (data0.getD j7.toNat (ByteArray.mk #[])))))))))) else (some (.inr (a1, b2, i6, data0)))))) else (some (.inr (a1, b2, i6, data0)))
theorem q25_L3_e (lo : Lo) : ∀ x : Int × Int × Int × Int × Zt2, stepL (⟨pf, fs25 lo, [], 1⟩ : Tabs) [] q25_L3_g q25_L3_o q25_L3_b x = q25_L3_s lo x := fun x => by kernel_rfl
def q25_L3 (lo : Lo) : Int × Int × Int × Int × Zt2 -> Option ((Int × Int × Int × Zt2)) := lo.run (q25_L3_s lo)
def q25_L3_p (lo : Lo) : LpE := ⟨3, [], q25_L3_g, q25_L3_o, q25_L3 lo⟩
theorem q25_L3_k {lo : Lo} (hlo : LoOK lo) (C : Ctx) (hT : TOK (⟨pf, fs25 lo, [], 1⟩ : Tabs) C) {Fr : Nat -> Prop} {H0 : Heap} (hf : FrOK Fr H0) : LpSound Fr H0 1 C (.loop q25_L3_b.er) (q25_L3_p lo) :=
  loop_sound hT hf (show LsOK Fr H0 C (⟨pf, fs25 lo, [], 1⟩ : Tabs) q25_L3_b from ⟨⟨tv, ⟨tv, tv⟩⟩, ⟨tv, tv⟩⟩) (fun x y h => loopO_congr (q25_L3_e lo) (hlo _ _ _ h))
def q25_L1_b : VCode :=
 (.seq (.seq (.reg [mV 10 6, mV 11 2, o 12 (.bin .lss (t 10) (t 11))])
 (.cond (t 12) .skip
 (.exit 0)))
 (.seq (.blk 1 (.seq (.reg [mV 15 6, mV 7 15])
 (.blk 2 (.loop 3 q25_L3_b))))
 (.reg [mV 13 6, o 14 (.bin .add (t 13) (k 1)), mV 6 14])))
def q25_L1_g : Sg := ⟨[0, 1, 2, 6], [.ref 0, .i .i64, .i .i64, .i .i64], [.sq (cs [.s])], Zc14⟩
def q25_L1_o : List Out1 := [⟨.exit 0, ⟨[], [], [.sq (cs [.s])], Zc11⟩⟩]
def q25_L1_s (lo : Lo) : Int × Int × Int × Zt2 -> Option ((Int × Int × Int × Zt2) ⊕ ((Zt2))) := fun x => match x with
  | (a1, b2, i6, data0) => bif (decide (i6 < b2)) then (Option.bind (q25_L3 lo (a1, b2, i6, i6, data0)) fun y102 => some (.inl (y102.1, y102.2.1, (IntKind.wrap .i64 (y102.2.2.1 + (1 : Int))), y102.2.2.2))) else (some (.inr data0))
theorem q25_L1_e (lo : Lo) : ∀ x : Int × Int × Int × Zt2, stepL (⟨pf, fs25 lo, [q25_L3_p lo], 1⟩ : Tabs) [] q25_L1_g q25_L1_o q25_L1_b x = q25_L1_s lo x := fun x => by kernel_rfl
def q25_L1 (lo : Lo) : Int × Int × Int × Zt2 -> Option ((Zt2)) := lo.run (q25_L1_s lo)
def q25_L1_p (lo : Lo) : LpE := ⟨1, [], q25_L1_g, q25_L1_o, q25_L1 lo⟩
theorem q25_L1_k {lo : Lo} (hlo : LoOK lo) (C : Ctx) (hT : TOK (⟨pf, fs25 lo, [q25_L3_p lo], 1⟩ : Tabs) C) {Fr : Nat -> Prop} {H0 : Heap} (hf : FrOK Fr H0) : LpSound Fr H0 1 C (.loop q25_L1_b.er) (q25_L1_p lo) :=
  loop_sound hT hf (show LsOK Fr H0 C (⟨pf, fs25 lo, [q25_L3_p lo], 1⟩ : Tabs) q25_L1_b from ⟨⟨tv, ⟨tv, tv⟩⟩, ⟨⟨tv, (lsGet (by kernel_rfl) (q25_L3_k hlo C (tok_ls hT) hf))⟩, tv⟩⟩) (fun x y h => loopO_congr (q25_L1_e lo) (hlo _ _ _ h))
def q25 (lo : Lo) (a1 : Int) (b2 : Int) (data0 : List ByteArray) : Option (Zt2) :=
  Option.bind (q25_L1 lo (a1, b2, (IntKind.wrap .i64 (a1 + (1 : Int))), data0)) fun y103 => some y103
def q25_c : VCode :=
 (.seq (.reg [mV 8 1, o 9 (.bin .add (t 8) (k 1)), mV 6 9])
 (.blk 0 (.loop 1 q25_L1_b)))
def q25_F : VFn := ⟨true, 49, [], q25_c⟩
def q25_f (lo : Lo) : FnE := ⟨311, false, ⟨[0, 1, 2], [.ref 0, .i .i64, .i .i64], [.sq (cs [.s])], Zc21⟩, .tp [], [.sq (cs [.s])], Zc11, (fun x => q25 lo x.1 x.2.1 x.2.2 : Int × Int × Zt2 -> Option (Zt2))⟩
theorem q25_e (lo : Lo) : ∀ x : Int × Int × Zt2, evI (⟨pf, fs25 lo, [q25_L1_p lo, q25_L3_p lo], 1⟩ : Tabs) q25_F ⟨[0, 1, 2], [.ref 0, .i .i64, .i .i64], [.sq (cs [.s])], Zc21⟩ (.tp []) [.sq (cs [.s])] Zc11 x = q25 lo x.1 x.2.1 x.2.2 := fun x => by kernel_rfl
theorem q25_S {P : Program} {fm : FM} {lo : Lo} (hlo : LoOK lo) (hS : Sound P fm ⟨pf, fs25 lo, [], 0⟩) (hm : P.follows .mixedOrders = true) (htie : Ti P fm 311 q25_F) : Sound P fm ⟨pf, q25_f lo :: fs25 lo, [], 0⟩ :=
  fnI_sound hS hm [q25_L1_p lo, q25_L3_p lo] (q25_f lo) rfl q25_F htie (by decide) rfl (Nat.le_of_ble_eq_true (by kernel_rfl)) (fun C hT Fr H0 hf => show LsOK Fr H0 C (⟨pf, fs25 lo, [q25_L1_p lo, q25_L3_p lo], 1⟩ : Tabs) q25_c from ⟨tv, (lsGet (by kernel_rfl) (q25_L1_k hlo C (tok_ls hT) hf))⟩) (fun x y h => (q25_e lo x).trans h)
def fs26 (lo : Lo) : List FnE := q25_f lo :: fs25 lo
def q26 (lo : Lo) (x0 : Int) (x1 : Int) (x2 : List ByteArray) : Option (Zt2) := none
def q26_f (lo : Lo) : FnE := ⟨312, false, ⟨[0, 1, 2], [.ref 0, .i .i64, .i .i64], [.sq (cs [.s])], Zc21⟩, .tp [], [.sq (cs [.s])], Zc11, (fun x => q26 lo x.1 x.2.1 x.2.2 : Int × Int × Zt2 -> Option (Zt2))⟩
theorem q26_S {P : Program} {fm : FM} {lo : Lo} (hlo : LoOK lo) (hS : Sound P fm ⟨pf, fs26 lo, [], 0⟩) (hm : P.follows .mixedOrders = true) (hN : True) : Sound P fm ⟨pf, q26_f lo :: fs26 lo, [], 0⟩ :=
  none_sound hS (q26_f lo) (fun _ => rfl)
def fs27 (lo : Lo) : List FnE := q26_f lo :: fs26 lo
def q27 (lo : Lo) (x0 : Int) (x1 : Int) (x2 : List ByteArray) : Option (Zt2) := none
def q27_f (lo : Lo) : FnE := ⟨313, false, ⟨[0, 1, 2], [.ref 0, .i .i64, .i .i64], [.sq (cs [.s])], Zc21⟩, .tp [], [.sq (cs [.s])], Zc11, (fun x => q27 lo x.1 x.2.1 x.2.2 : Int × Int × Zt2 -> Option (Zt2))⟩
theorem q27_S {P : Program} {fm : FM} {lo : Lo} (hlo : LoOK lo) (hS : Sound P fm ⟨pf, fs27 lo, [], 0⟩) (hm : P.follows .mixedOrders = true) (hN : True) : Sound P fm ⟨pf, q27_f lo :: fs27 lo, [], 0⟩ :=
  none_sound hS (q27_f lo) (fun _ => rfl)
def fs28 (lo : Lo) : List FnE := q27_f lo :: fs27 lo
def q28 (lo : Lo) (x0 : List ByteArray) (x1 : Int) (x2 : Int) : Option (Int × Int) := none
def q28_f (lo : Lo) : FnE := ⟨314, true, ⟨[0, 1, 2], [.l (cs [.s]), .i .i64, .i .i64], [], (cs [.l (cs [.s]), I, I])⟩, .tp [.i .i64, .i .i64], [], (cs [I, I]), (fun x => q28 lo x.1 x.2.1 x.2.2 : Zt2 × Int × Int -> Option (Int × Int))⟩
theorem q28_S {P : Program} {fm : FM} {lo : Lo} (hlo : LoOK lo) (hS : Sound P fm ⟨pf, fs28 lo, [], 0⟩) (hm : P.follows .mixedOrders = true) (hN : True) : Sound P fm ⟨pf, q28_f lo :: fs28 lo, [], 0⟩ :=
  none_sound hS (q28_f lo) (fun _ => rfl)
def fs29 (lo : Lo) : List FnE := q28_f lo :: fs28 lo
def q29 (lo : Lo) (x0 : Int) (x1 : Int) (x2 : List ByteArray) : Option (Zt2) := none
def q29_f (lo : Lo) : FnE := ⟨315, false, ⟨[0, 1, 2], [.ref 0, .i .i64, .i .i64], [.sq (cs [.s])], Zc21⟩, .tp [], [.sq (cs [.s])], Zc11, (fun x => q29 lo x.1 x.2.1 x.2.2 : Int × Int × Zt2 -> Option (Zt2))⟩
theorem q29_S {P : Program} {fm : FM} {lo : Lo} (hlo : LoOK lo) (hS : Sound P fm ⟨pf, fs29 lo, [], 0⟩) (hm : P.follows .mixedOrders = true) (hN : True) : Sound P fm ⟨pf, q29_f lo :: fs29 lo, [], 0⟩ :=
  none_sound hS (q29_f lo) (fun _ => rfl)
def fs30 (lo : Lo) : List FnE := q29_f lo :: fs29 lo
def q30 (lo : Lo) (x0 : Int) (x1 : Int) (x2 : List ByteArray) : Option (Bool × Zt2) := none
def q30_f (lo : Lo) : FnE := ⟨316, false, ⟨[0, 1, 2], [.ref 0, .i .i64, .i .i64], [.sq (cs [.s])], Zc21⟩, .b, [.sq (cs [.s])], (cs [.b, .l (cs [.s])]), (fun x => q30 lo x.1 x.2.1 x.2.2 : Int × Int × Zt2 -> Option (Bool × Zt2))⟩
theorem q30_S {P : Program} {fm : FM} {lo : Lo} (hlo : LoOK lo) (hS : Sound P fm ⟨pf, fs30 lo, [], 0⟩) (hm : P.follows .mixedOrders = true) (hN : True) : Sound P fm ⟨pf, q30_f lo :: fs30 lo, [], 0⟩ :=
  none_sound hS (q30_f lo) (fun _ => rfl)
def fs31 (lo : Lo) : List FnE := q30_f lo :: fs30 lo
def q31 (lo : Lo) (x0 : Int) (x1 : Int) (x2 : Int) (x3 : List ByteArray) : Option (Int × Zt2) := none
def q31_f (lo : Lo) : FnE := ⟨318, false, ⟨[0, 1, 2, 3], [.ref 0, .i .i64, .i .i64, .i .i64], [.sq (cs [.s])], Zc14⟩, .i .i64, [.sq (cs [.s])], (cs [I, .l (cs [.s])]), (fun x => q31 lo x.1 x.2.1 x.2.2.1 x.2.2.2 : Int × Int × Int × Zt2 -> Option (Int × Zt2))⟩
theorem q31_S {P : Program} {fm : FM} {lo : Lo} (hlo : LoOK lo) (hS : Sound P fm ⟨pf, fs31 lo, [], 0⟩) (hm : P.follows .mixedOrders = true) (hN : True) : Sound P fm ⟨pf, q31_f lo :: fs31 lo, [], 0⟩ :=
  none_sound hS (q31_f lo) (fun _ => rfl)
def fs32 (lo : Lo) : List FnE := q31_f lo :: fs31 lo
def q32 (lo : Lo) (x0 : Int) (x1 : Int) (x2 : Int) (x3 : List ByteArray) : Option (Int × Bool × Zt2) := none
def q32_f (lo : Lo) : FnE := ⟨319, false, ⟨[0, 1, 2, 3], [.ref 0, .i .i64, .i .i64, .i .i64], [.sq (cs [.s])], Zc14⟩, .tp [.i .i64, .b], [.sq (cs [.s])], (cs [I, .b, .l (cs [.s])]), (fun x => q32 lo x.1 x.2.1 x.2.2.1 x.2.2.2 : Int × Int × Int × Zt2 -> Option (Int × Bool × Zt2))⟩
theorem q32_S {P : Program} {fm : FM} {lo : Lo} (hlo : LoOK lo) (hS : Sound P fm ⟨pf, fs32 lo, [], 0⟩) (hm : P.follows .mixedOrders = true) (hN : True) : Sound P fm ⟨pf, q32_f lo :: fs32 lo, [], 0⟩ :=
  none_sound hS (q32_f lo) (fun _ => rfl)
def fs33 (lo : Lo) : List FnE := q32_f lo :: fs32 lo
def q33_q (F : Int × Int × Int × Zt2 -> Option (Zt2)) : FnE := ⟨301, false, ⟨[0, 1, 2, 3], [.ref 0, .i .i64, .i .i64, .i .i64], [.sq (cs [.s])], Zc14⟩, .tp [], [.sq (cs [.s])], Zc11, F⟩
def q33_J20_b : VCode :=
 (.seq (.seq (.reg [mV 73 1, o 74 (.bin .gtr (t 73) (k 0)), mV 75 74, og 76 75 true (.mv (t 0)), og 77 75 true (.mv (t 1)), og 78 75 true (.bin .sub (t 77) (k 1)), og 79 75 true (.iad 1 (t 76) (t 78)), og 80 75 true (.load false 1 (t 79)), og 81 75 true (.mv (t 0)), og 82 75 true (.mv (t 11)), og 83 75 true (.iad 1 (t 81) (t 82)), og 84 75 true (.load false 1 (t 83)), og 85 75 true (.call 317 [(t 80), (t 84)]), og 86 75 true (.not (t 85)), o 87 (.pick (t 75) (t 86) (kb false))])
 (.cond (t 87) (.seq (.reg [mV 88 0, mV 89 1, mV 90 2, mV 91 11, o 92 (.call 318 [(t 88), (t 89), (t 90), (t 91)]), mV 13 92])
 (.seq (.reg [mV 93 13, mV 1 93])
 (.exit 1)))
 .skip))
 (.seq (.reg [mV 95 0, mV 96 1, mV 97 2, mV 98 11, o 99 (.call 319 [(t 95), (t 96), (t 97), (t 98)]), mV 94 99, eX 100 94 0, eX 101 94 1, mV 14 100, mV 15 101])
 (.seq (.reg [mV 102 15, mV 9 102])
 (.seq (.reg [mV 103 14, mV 104 1, o 105 (.bin .sub (t 103) (t 104)), mV 106 2, mV 107 14, o 108 (.bin .sub (t 106) (t 107)), mV 16 105, mV 17 108])
 (.seq (.reg [mV 109 10, o 110 (.bin .quo (t 109) (k 8)), mV 18 110])
 (.seq (.reg [mV 111 16, mV 112 17, o 113 (.bin .lss (t 111) (t 112))])
 (.cond (t 113) (.seq (.reg [mV 114 16, mV 115 18, o 116 (.bin .geq (t 114) (t 115)), mV 8 116])
 (.seq (.reg [mV 117 0, mV 118 1, mV 119 14, mV 120 3, o 121 (.call 301 [(t 117), (t 118), (t 119), (t 120)])])
 (.reg [mV 122 14, o 123 (.bin .add (t 122) (k 1)), mV 1 123])))
 (.seq (.reg [mV 124 17, mV 125 18, o 126 (.bin .geq (t 124) (t 125)), mV 8 126])
 (.seq (.reg [mV 127 0, mV 128 14, o 129 (.bin .add (t 128) (k 1)), mV 130 2, mV 131 3, o 132 (.call 301 [(t 127), (t 129), (t 130), (t 131)])])
 (.reg [mV 133 14, mV 2 133]))))))))))
def q33_J20_g : Sg := ⟨[0, 1, 2, 3, 8, 9, 10, 11], [.ref 0, .i .i64, .i .i64, .i .i64, .b, .b, .i .i64, .i .i64], [.sq (cs [.s])], (cs [I, I, I, .b, .b, I, I, .l (cs [.s])])⟩
def q33_J20_o : List Out1 := [⟨.exit 1, ⟨[0, 1, 2, 3, 8, 9], [.ref 0, .i .i64, .i .i64, .i .i64, .b, .b], [.sq (cs [.s])], Zc12⟩⟩, ⟨.nor, ⟨[0, 1, 2, 3, 8, 9], [.ref 0, .i .i64, .i .i64, .i .i64, .b, .b], [.sq (cs [.s])], Zc12⟩⟩]
def q33_J20 (lo : Lo) (rec : Int × Int × Int × Zt2 -> Option (Zt2)) : Int × Int × Int × Bool × Bool × Int × Int × Zt2 -> Option (Zp39 ⊕ Zp39) := fun x => match x with
  | (a1, b2, limit3, wasBalanced8, wasPartitioned9, length10, pivot11, data0) => bif (decide ((0 : Int) < a1)) then (chk (0 <= (IntKind.wrap .i64 (a1 - (1 : Int))) /\ (IntKind.wrap .i64 (a1 - (1 : Int))) < (data0.length : Int)) (chk (0 <= pivot11 /\ pivot11 < (data0.length : Int)) (Option.bind (q24 lo (data0.getD ((IntKind.wrap .i64 (a1 - (1 : Int))).toNat) (ByteArray.mk #[])) (data0.getD pivot11.toNat (ByteArray.mk #[]))) fun y110 => bif (!y110) then (Option.bind (q31 lo a1 b2 pivot11 data0) fun y111 => chk (y111.2.length = data0.length) (some (.inl (y111.1, b2, limit3, wasBalanced8, wasPartitioned9, y111.2)))) else (Option.bind (q32 lo a1 b2 pivot11 data0) fun y112 => chk (y112.2.2.length = data0.length) (chk ((8 : Int) ≠ 0) (bif (decide ((IntKind.wrap .i64 (y112.1 - a1)) < (IntKind.wrap .i64 (b2 - y112.1)))) then (Option.bind (rec (a1, y112.1, limit3, y112.2.2)) fun y113 => chk (y113.length = y112.2.2.length) (some (.inr ((IntKind.wrap .i64 (y112.1 + (1 : Int))), b2, limit3, (decide ((IntKind.wrap .i64 (length10.tdiv (8 : Int))) <= (IntKind.wrap .i64 (y112.1 - a1)))), y112.2.1, y113)))) else (Option.bind (rec ((IntKind.wrap .i64 (y112.1 + (1 : Int))), b2, limit3, y112.2.2)) fun y114 => chk (y114.length = y112.2.2.length) (some (.inr (a1, y112.1, limit3, (decide ((IntKind.wrap .i64 (length10.tdiv (8 : Int))) <= (IntKind.wrap .i64 (b2 - y112.1)))), y112.2.1, y114)))))))))) else (Option.bind (q32 lo a1 b2 pivot11 data0) fun y115 => chk (y115.2.2.length = data0.length) (chk ((8 : Int) ≠ 0) (bif (decide ((IntKind.wrap .i64 (y115.1 - a1)) < (IntKind.wrap .i64 (b2 - y115.1)))) then (Option.bind (rec (a1, y115.1, limit3, y115.2.2)) fun y116 => chk (y116.length = y115.2.2.length) (some (.inr ((IntKind.wrap .i64 (y115.1 + (1 : Int))), b2, limit3, (decide ((IntKind.wrap .i64 (length10.tdiv (8 : Int))) <= (IntKind.wrap .i64 (y115.1 - a1)))), y115.2.1, y116)))) else (Option.bind (rec ((IntKind.wrap .i64 (y115.1 + (1 : Int))), b2, limit3, y115.2.2)) fun y117 => chk (y117.length = y115.2.2.length) (some (.inr (a1, y115.1, limit3, (decide ((IntKind.wrap .i64 (length10.tdiv (8 : Int))) <= (IntKind.wrap .i64 (b2 - y115.1)))), y115.2.1, y117)))))))
theorem q33_J20_e (lo : Lo) (rec : Int × Int × Int × Zt2 -> Option (Zt2)) : ∀ x : Int × Int × Int × Bool × Bool × Int × Int × Zt2, stepJ (⟨pf, q33_q rec :: fs33 lo, [], 1⟩ : Tabs) q33_J20_g q33_J20_o q33_J20_b x = q33_J20 lo rec x := fun x => by kernel_rfl
def q33_J20_p (lo : Lo) (rec : Int × Int × Int × Zt2 -> Option (Zt2)) : LpE := ⟨20, [], q33_J20_g, q33_J20_o, q33_J20 lo rec⟩
theorem q33_J20_k {lo : Lo} (hlo : LoOK lo) (rec : Int × Int × Int × Zt2 -> Option (Zt2)) (C : Ctx) (hT : TOK (⟨pf, q33_q rec :: fs33 lo, [], 1⟩ : Tabs) C) {Fr : Nat -> Prop} {H0 : Heap} (hf : FrOK Fr H0) : LpSound Fr H0 1 C q33_J20_b.er (q33_J20_p lo rec) :=
  jn_sound hT hf (show LsOK Fr H0 C (⟨pf, q33_q rec :: fs33 lo, [], 1⟩ : Tabs) q33_J20_b from ⟨⟨tv, ⟨⟨tv, ⟨tv, tv⟩⟩, tv⟩⟩, ⟨tv, ⟨tv, ⟨tv, ⟨tv, ⟨tv, ⟨⟨tv, ⟨tv, tv⟩⟩, ⟨tv, ⟨tv, tv⟩⟩⟩⟩⟩⟩⟩⟩⟩) (fun x y h => (q33_J20_e lo rec x).trans h)
def q33_J25_b : VCode :=
 (.seq (.seq (.reg [mV 61 8, mV 62 61, og 63 62 true (.mv (t 9)), o 64 (.pick (t 62) (t 63) (kb false)), mV 65 64, og 66 65 true (.mv (t 12)), og 67 65 true (.bin .eql (t 66) (k 1)), o 68 (.pick (t 65) (t 67) (kb false))])
 (.cond (t 68) (.seq (.reg [mV 69 0, mV 70 1, mV 71 2, o 72 (.call 316 [(t 69), (t 70), (t 71)])])
 (.cond (t 72) .ret
 .skip))
 .skip))
 (.jn 20 q33_J20_b))
def q33_J25_g : Sg := ⟨[0, 1, 2, 3, 8, 9, 10, 11, 12], [.ref 0, .i .i64, .i .i64, .i .i64, .b, .b, .i .i64, .i .i64, .i .i64], [.sq (cs [.s])], (cs [I, I, I, .b, .b, I, I, I, .l (cs [.s])])⟩
def q33_J25_o : List Out1 := [⟨.ret, ⟨[], [], [.sq (cs [.s])], Zc11⟩⟩, ⟨.exit 1, ⟨[0, 1, 2, 3, 8, 9], [.ref 0, .i .i64, .i .i64, .i .i64, .b, .b], [.sq (cs [.s])], Zc12⟩⟩, ⟨.nor, ⟨[0, 1, 2, 3, 8, 9], [.ref 0, .i .i64, .i .i64, .i .i64, .b, .b], [.sq (cs [.s])], Zc12⟩⟩]
def q33_J25 (lo : Lo) (rec : Int × Int × Int × Zt2 -> Option (Zt2)) : Int × Int × Int × Bool × Bool × Int × Int × Int × Zt2 -> Option ((Zt2) ⊕ Zp39 ⊕ Zp39) := fun x => match x with
  | (a1, b2, limit3, wasBalanced8, wasPartitioned9, length10, pivot11, hint12, data0) => bif wasBalanced8 then (bif wasPartitioned9 then (bif (decide (hint12 = (1 : Int))) then (Option.bind (q30 lo a1 b2 data0) fun y109 => chk (y109.2.length = data0.length) (bif y109.1 then (some (.inl y109.2)) else (Option.bind (q33_J20 lo rec (a1, b2, limit3, wasBalanced8, wasPartitioned9, length10, pivot11, y109.2)) fun y118 => alt2 y118 (fun y119 => some (.inr (.inl (y119.1, y119.2.1, y119.2.2.1, y119.2.2.2.1, y119.2.2.2.2.1, y119.2.2.2.2.2)))) (fun y120 => some (.inr (.inr (y120.1, y120.2.1, y120.2.2.1, y120.2.2.2.1, y120.2.2.2.2.1, y120.2.2.2.2.2))))))) else (Option.bind (q33_J20 lo rec (a1, b2, limit3, wasBalanced8, wasPartitioned9, length10, pivot11, data0)) fun y121 => alt2 y121 (fun y122 => some (.inr (.inl (y122.1, y122.2.1, y122.2.2.1, y122.2.2.2.1, y122.2.2.2.2.1, y122.2.2.2.2.2)))) (fun y123 => some (.inr (.inr (y123.1, y123.2.1, y123.2.2.1, y123.2.2.2.1, y123.2.2.2.2.1, y123.2.2.2.2.2)))))) else (Option.bind (q33_J20 lo rec (a1, b2, limit3, wasBalanced8, wasPartitioned9, length10, pivot11, data0)) fun y124 => alt2 y124 (fun y125 => some (.inr (.inl (y125.1, y125.2.1, y125.2.2.1, y125.2.2.2.1, y125.2.2.2.2.1, y125.2.2.2.2.2)))) (fun y126 => some (.inr (.inr (y126.1, y126.2.1, y126.2.2.1, y126.2.2.2.1, y126.2.2.2.2.1, y126.2.2.2.2.2)))))) else (Option.bind (q33_J20 lo rec (a1, b2, limit3, wasBalanced8, wasPartitioned9, length10, pivot11, data0)) fun y127 => alt2 y127 (fun y128 => some (.inr (.inl (y128.1, y128.2.1, y128.2.2.1, y128.2.2.2.1, y128.2.2.2.2.1, y128.2.2.2.2.2)))) (fun y129 => some (.inr (.inr (y129.1, y129.2.1, y129.2.2.1, y129.2.2.2.1, y129.2.2.2.2.1, y129.2.2.2.2.2)))))
theorem q33_J25_e (lo : Lo) (rec : Int × Int × Int × Zt2 -> Option (Zt2)) : ∀ x : Int × Int × Int × Bool × Bool × Int × Int × Int × Zt2, stepJ (⟨pf, q33_q rec :: fs33 lo, [q33_J20_p lo rec], 1⟩ : Tabs) q33_J25_g q33_J25_o q33_J25_b x = q33_J25 lo rec x := fun x => by kernel_rfl
def q33_J25_p (lo : Lo) (rec : Int × Int × Int × Zt2 -> Option (Zt2)) : LpE := ⟨25, [], q33_J25_g, q33_J25_o, q33_J25 lo rec⟩
theorem q33_J25_k {lo : Lo} (hlo : LoOK lo) (rec : Int × Int × Int × Zt2 -> Option (Zt2)) (C : Ctx) (hT : TOK (⟨pf, q33_q rec :: fs33 lo, [q33_J20_p lo rec], 1⟩ : Tabs) C) {Fr : Nat -> Prop} {H0 : Heap} (hf : FrOK Fr H0) : LpSound Fr H0 1 C q33_J25_b.er (q33_J25_p lo rec) :=
  jn_sound hT hf (show LsOK Fr H0 C (⟨pf, q33_q rec :: fs33 lo, [q33_J20_p lo rec], 1⟩ : Tabs) q33_J25_b from ⟨⟨tv, ⟨⟨tv, ⟨tv, tv⟩⟩, tv⟩⟩, (lsGet (by kernel_rfl) (q33_J20_k hlo rec C (tok_ls hT) hf))⟩) (fun x y h => (q33_J25_e lo rec x).trans h)
def q33_J30_b : VCode :=
 (.seq (.reg [mV 43 0, mV 44 1, mV 45 2, o 46 (.call 314 [(t 43), (t 44), (t 45)]), mV 42 46, eX 47 42 0, eX 48 42 1, mV 11 47, mV 12 48])
 (.seq (.seq (.reg [mV 49 12, o 50 (.bin .eql (t 49) (k 2))])
 (.cond (t 50) (.seq (.reg [mV 51 0, mV 52 1, mV 53 2, o 54 (.call 315 [(t 51), (t 52), (t 53)])])
 (.seq (.reg [mV 55 2, o 56 (.bin .sub (t 55) (k 1)), mV 57 11, mV 58 1, o 59 (.bin .sub (t 57) (t 58)), o 60 (.bin .sub (t 56) (t 59)), mV 11 60])
 (.reg [o 12 (.mv (k 1))])))
 .skip))
 (.jn 25 q33_J25_b)))
def q33_J30_g : Sg := ⟨[0, 1, 2, 3, 8, 9, 10], [.ref 0, .i .i64, .i .i64, .i .i64, .b, .b, .i .i64], [.sq (cs [.s])], (cs [I, I, I, .b, .b, I, .l (cs [.s])])⟩
def q33_J30_o : List Out1 := [⟨.ret, ⟨[], [], [.sq (cs [.s])], Zc11⟩⟩, ⟨.exit 1, ⟨[0, 1, 2, 3, 8, 9], [.ref 0, .i .i64, .i .i64, .i .i64, .b, .b], [.sq (cs [.s])], Zc12⟩⟩, ⟨.nor, ⟨[0, 1, 2, 3, 8, 9], [.ref 0, .i .i64, .i .i64, .i .i64, .b, .b], [.sq (cs [.s])], Zc12⟩⟩]
def q33_J30 (lo : Lo) (rec : Int × Int × Int × Zt2 -> Option (Zt2)) : Int × Int × Int × Bool × Bool × Int × Zt2 -> Option ((Zt2) ⊕ Zp39 ⊕ Zp39) := fun x => match x with
  | (a1, b2, limit3, wasBalanced8, wasPartitioned9, length10, data0) => Option.bind (q28 lo data0 a1 b2) fun y107 => bif (decide (y107.2 = (2 : Int))) then (Option.bind (q29 lo a1 b2 data0) fun y108 => chk (y108.length = data0.length) (Option.bind (q33_J25 lo rec (a1, b2, limit3, wasBalanced8, wasPartitioned9, length10, (IntKind.wrap .i64 ((IntKind.wrap .i64 (b2 - (1 : Int))) - (IntKind.wrap .i64 (y107.1 - a1)))), (1 : Int), y108)) fun y130 => alt2 y130 (fun y131 => some (.inl y131)) (fun y132 => alt2 y132 (fun y133 => some (.inr (.inl (y133.1, y133.2.1, y133.2.2.1, y133.2.2.2.1, y133.2.2.2.2.1, y133.2.2.2.2.2)))) (fun y134 => some (.inr (.inr (y134.1, y134.2.1, y134.2.2.1, y134.2.2.2.1, y134.2.2.2.2.1, y134.2.2.2.2.2))))))) else (Option.bind (q33_J25 lo rec (a1, b2, limit3, wasBalanced8, wasPartitioned9, length10, y107.1, y107.2, data0)) fun y135 => alt2 y135 (fun y136 => some (.inl y136)) (fun y137 => alt2 y137 (fun y138 => some (.inr (.inl (y138.1, y138.2.1, y138.2.2.1, y138.2.2.2.1, y138.2.2.2.2.1, y138.2.2.2.2.2)))) (fun y139 => some (.inr (.inr (y139.1, y139.2.1, y139.2.2.1, y139.2.2.2.1, y139.2.2.2.2.1, y139.2.2.2.2.2))))))
theorem q33_J30_e (lo : Lo) (rec : Int × Int × Int × Zt2 -> Option (Zt2)) : ∀ x : Int × Int × Int × Bool × Bool × Int × Zt2, stepJ (⟨pf, q33_q rec :: fs33 lo, [q33_J25_p lo rec, q33_J20_p lo rec], 1⟩ : Tabs) q33_J30_g q33_J30_o q33_J30_b x = q33_J30 lo rec x := fun x => by kernel_rfl
def q33_J30_p (lo : Lo) (rec : Int × Int × Int × Zt2 -> Option (Zt2)) : LpE := ⟨30, [], q33_J30_g, q33_J30_o, q33_J30 lo rec⟩
theorem q33_J30_k {lo : Lo} (hlo : LoOK lo) (rec : Int × Int × Int × Zt2 -> Option (Zt2)) (C : Ctx) (hT : TOK (⟨pf, q33_q rec :: fs33 lo, [q33_J25_p lo rec, q33_J20_p lo rec], 1⟩ : Tabs) C) {Fr : Nat -> Prop} {H0 : Heap} (hf : FrOK Fr H0) : LpSound Fr H0 1 C q33_J30_b.er (q33_J30_p lo rec) :=
  jn_sound hT hf (show LsOK Fr H0 C (⟨pf, q33_q rec :: fs33 lo, [q33_J25_p lo rec, q33_J20_p lo rec], 1⟩ : Tabs) q33_J30_b from ⟨tv, ⟨⟨tv, ⟨⟨tv, ⟨tv, tv⟩⟩, tv⟩⟩, (lsGet (by kernel_rfl) (q33_J25_k hlo rec C (tok_ls hT) hf))⟩⟩) (fun x y h => (q33_J30_e lo rec x).trans h)
def q33_L1_b : VCode :=
 (.blk 1 (.seq (.reg [mV 19 2, mV 20 1, o 21 (.bin .sub (t 19) (t 20)), mV 10 21])
 (.seq (.seq (.reg [mV 22 10, o 23 (.bin .leq (t 22) (k 12))])
 (.cond (t 23) (.seq (.reg [mV 24 0, mV 25 1, mV 26 2, o 27 (.call 311 [(t 24), (t 25), (t 26)])])
 .ret)
 .skip))
 (.seq (.seq (.reg [mV 28 3, o 29 (.bin .eql (t 28) (k 0))])
 (.cond (t 29) (.seq (.reg [mV 30 0, mV 31 1, mV 32 2, o 33 (.call 312 [(t 30), (t 31), (t 32)])])
 .ret)
 .skip))
 (.seq (.seq (.reg [mV 34 8, o 35 (.not (t 34))])
 (.cond (t 35) (.seq (.reg [mV 36 0, mV 37 1, mV 38 2, o 39 (.call 313 [(t 36), (t 37), (t 38)])])
 (.reg [mV 40 3, o 41 (.bin .sub (t 40) (k 1)), mV 3 41]))
 .skip))
 (.jn 30 q33_J30_b))))))
def q33_L1_g : Sg := ⟨[0, 1, 2, 3, 8, 9], [.ref 0, .i .i64, .i .i64, .i .i64, .b, .b], [.sq (cs [.s])], Zc12⟩
def q33_L1_o : List Out1 := [⟨.ret, ⟨[], [], [.sq (cs [.s])], Zc11⟩⟩]
def q33_L1_s (lo : Lo) (rec : Int × Int × Int × Zt2 -> Option (Zt2)) : Zp39 -> Option (Zp39 ⊕ ((Zt2))) := fun x => match x with
  | (a1, b2, limit3, wasBalanced8, wasPartitioned9, data0) => bif (decide ((IntKind.wrap .i64 (b2 - a1)) <= (12 : Int))) then (Option.bind (q25 lo a1 b2 data0) fun y104 => chk (y104.length = data0.length) (some (.inr y104))) else (bif (decide (limit3 = (0 : Int))) then (Option.bind (q26 lo a1 b2 data0) fun y105 => chk (y105.length = data0.length) (some (.inr y105))) else (bif (!wasBalanced8) then (Option.bind (q27 lo a1 b2 data0) fun y106 => chk (y106.length = data0.length) (Option.bind (q33_J30 lo rec (a1, b2, (IntKind.wrap .i64 (limit3 - (1 : Int))), wasBalanced8, wasPartitioned9, (IntKind.wrap .i64 (b2 - a1)), y106)) fun y140 => alt2 y140 (fun y141 => some (.inr y141)) (fun y142 => alt2 y142 (fun y143 => some (.inl (y143.1, y143.2.1, y143.2.2.1, y143.2.2.2.1, y143.2.2.2.2.1, y143.2.2.2.2.2))) (fun y144 => some (.inl (y144.1, y144.2.1, y144.2.2.1, y144.2.2.2.1, y144.2.2.2.2.1, y144.2.2.2.2.2)))))) else (Option.bind (q33_J30 lo rec (a1, b2, limit3, wasBalanced8, wasPartitioned9, (IntKind.wrap .i64 (b2 - a1)), data0)) fun y145 => alt2 y145 (fun y146 => some (.inr y146)) (fun y147 => alt2 y147 (fun y148 => some (.inl (y148.1, y148.2.1, y148.2.2.1, y148.2.2.2.1, y148.2.2.2.2.1, y148.2.2.2.2.2))) (fun y149 => some (.inl (y149.1, y149.2.1, y149.2.2.1, y149.2.2.2.1, y149.2.2.2.2.1, y149.2.2.2.2.2)))))))
theorem q33_L1_e (lo : Lo) (rec : Int × Int × Int × Zt2 -> Option (Zt2)) : ∀ x : Zp39, stepL (⟨pf, q33_q rec :: fs33 lo, [q33_J30_p lo rec, q33_J25_p lo rec, q33_J20_p lo rec], 1⟩ : Tabs) [] q33_L1_g q33_L1_o q33_L1_b x = q33_L1_s lo rec x := fun x => by kernel_rfl
def q33_L1 (lo : Lo) (rec : Int × Int × Int × Zt2 -> Option (Zt2)) : Zp39 -> Option ((Zt2)) := lo.run (q33_L1_s lo rec)
def q33_L1_p (lo : Lo) (rec : Int × Int × Int × Zt2 -> Option (Zt2)) : LpE := ⟨1, [], q33_L1_g, q33_L1_o, q33_L1 lo rec⟩
theorem q33_L1_k {lo : Lo} (hlo : LoOK lo) (rec : Int × Int × Int × Zt2 -> Option (Zt2)) (C : Ctx) (hT : TOK (⟨pf, q33_q rec :: fs33 lo, [q33_J30_p lo rec, q33_J25_p lo rec, q33_J20_p lo rec], 1⟩ : Tabs) C) {Fr : Nat -> Prop} {H0 : Heap} (hf : FrOK Fr H0) : LpSound Fr H0 1 C (.loop q33_L1_b.er) (q33_L1_p lo rec) :=
  loop_sound hT hf (show LsOK Fr H0 C (⟨pf, q33_q rec :: fs33 lo, [q33_J30_p lo rec, q33_J25_p lo rec, q33_J20_p lo rec], 1⟩ : Tabs) q33_L1_b from ⟨tv, ⟨⟨tv, ⟨⟨tv, tv⟩, tv⟩⟩, ⟨⟨tv, ⟨⟨tv, tv⟩, tv⟩⟩, ⟨⟨tv, ⟨⟨tv, tv⟩, tv⟩⟩, (lsGet (by kernel_rfl) (q33_J30_k hlo rec C (tok_ls hT) hf))⟩⟩⟩⟩) (fun x y h => loopO_congr (q33_L1_e lo rec) (hlo _ _ _ h))
def q33_r (lo : Lo) (rec : Int × Int × Int × Zt2 -> Option (Zt2)) (a1 : Int) (b2 : Int) (limit3 : Int) (data0 : List ByteArray) : Option (Zt2) :=
  Option.bind (q33_L1 lo rec (a1, b2, limit3, true, true, data0)) fun y150 => some y150
def q33_n (lo : Lo) : Nat -> Int × Int × Int × Zt2 -> Option (Zt2)
  | 0, _ => none
  | n + 1, x => q33_r lo (q33_n lo n) x.1 x.2.1 x.2.2.1 x.2.2.2
def q33 (lo : Lo) (a1 : Int) (b2 : Int) (limit3 : Int) (data0 : List ByteArray) : Option (Zt2) := lo.run (fixS (q33_n lo)) (0, (a1, b2, limit3, data0))
def q33_c : VCode :=
 (.seq (.reg [o 8 (.mv (kb true))])
 (.seq (.reg [o 9 (.mv (kb true))])
 (.blk 0 (.loop 1 q33_L1_b))))
def q33_F : VFn := ⟨true, 134, [], q33_c⟩
def q33_f (lo : Lo) : FnE := ⟨301, false, ⟨[0, 1, 2, 3], [.ref 0, .i .i64, .i .i64, .i .i64], [.sq (cs [.s])], Zc14⟩, .tp [], [.sq (cs [.s])], Zc11, (fun x => q33 lo x.1 x.2.1 x.2.2.1 x.2.2.2 : Int × Int × Int × Zt2 -> Option (Zt2))⟩
theorem q33_e (lo : Lo) (rec : Int × Int × Int × Zt2 -> Option (Zt2)) : ∀ x : Int × Int × Int × Zt2, evI (⟨pf, q33_q rec :: fs33 lo, [q33_L1_p lo rec, q33_J30_p lo rec, q33_J25_p lo rec, q33_J20_p lo rec], 1⟩ : Tabs) q33_F ⟨[0, 1, 2, 3], [.ref 0, .i .i64, .i .i64, .i .i64], [.sq (cs [.s])], Zc14⟩ (.tp []) [.sq (cs [.s])] Zc11 x = q33_r lo rec x.1 x.2.1 x.2.2.1 x.2.2.2 := fun x => by kernel_rfl
theorem q33_S {P : Program} {fm : FM} {lo : Lo} (hlo : LoOK lo) (hS : Sound P fm ⟨pf, fs33 lo, [], 0⟩) (hm : P.follows .mixedOrders = true) (htie : Ti P fm 301 q33_F) : Sound P fm ⟨pf, q33_f lo :: fs33 lo, [], 0⟩ :=
  fnI_rec hS hm (q33_f lo) rfl (q33_n lo) (fun n => (fun (rec : Int × Int × Int × Zt2 -> Option (Zt2)) => ([q33_L1_p lo rec, q33_J30_p lo rec, q33_J25_p lo rec, q33_J20_p lo rec] : List LpE)) (q33_n lo n)) q33_F htie (by decide) rfl (Nat.le_of_ble_eq_true (by kernel_rfl)) (fun _ => rfl) (fun x y h => fix_lim (hlo _ _ _ h))
    (fun n C hT Fr H0 hf => (fun (rec : Int × Int × Int × Zt2 -> Option (Zt2)) (hT : TOK (⟨pf, q33_q rec :: fs33 lo, [q33_L1_p lo rec, q33_J30_p lo rec, q33_J25_p lo rec, q33_J20_p lo rec], 1⟩ : Tabs) C) => show LsOK Fr H0 C (⟨pf, q33_q rec :: fs33 lo, [q33_L1_p lo rec, q33_J30_p lo rec, q33_J25_p lo rec, q33_J20_p lo rec], 1⟩ : Tabs) q33_c from ⟨tv, ⟨tv, (lsGet (by kernel_rfl) (q33_L1_k hlo rec C (tok_ls hT) hf))⟩⟩) (q33_n lo n) hT) (fun n x y h => (q33_e lo (q33_n lo n) x).trans h)
def fs34 (lo : Lo) : List FnE := q33_f lo :: fs33 lo
def q34 (lo : Lo) (x0 : List ByteArray) : Option (Zt2) :=
  Option.bind (q22 lo (IntKind.wrap .u64 (x0.length : Int))) fun y98 => Option.bind (q33 lo (0 : Int) (x0.length : Int) y98 x0) fun y151 => chk (y151.length = x0.length) (some y151)
def q34_c : VCode :=
 (.seq (.reg [mV 3 0, lN 4 3, mV 2 4])
 (.reg [mV 5 0, mV 6 2, mV 7 2, o 8 (.conv .u64 (t 7)), o 9 (.call 163 [(t 8)]), o 10 (.call 301 [(t 5), (k 0), (t 6), (t 9)])]))
def q34_F : VFn := ⟨true, 11, [], q34_c⟩
def q34_f (lo : Lo) : FnE := ⟨271, false, ⟨[0], [.ref 0], [.sq (cs [.s])], Zc11⟩, .tp [], [.sq (cs [.s])], Zc11, (fun x => q34 lo x : Zt2 -> Option (Zt2))⟩
theorem q34_e (lo : Lo) : ∀ x : Zt2, evI (⟨pf, fs34 lo, [], 1⟩ : Tabs) q34_F ⟨[0], [.ref 0], [.sq (cs [.s])], Zc11⟩ (.tp []) [.sq (cs [.s])] Zc11 x = q34 lo x := fun x => by kernel_rfl
theorem q34_S {P : Program} {fm : FM} {lo : Lo} (hlo : LoOK lo) (hS : Sound P fm ⟨pf, fs34 lo, [], 0⟩) (hm : P.follows .mixedOrders = true) (htie : Ti P fm 271 q34_F) : Sound P fm ⟨pf, q34_f lo :: fs34 lo, [], 0⟩ :=
  fnI_sound hS hm [] (q34_f lo) rfl q34_F htie (by decide) rfl (Nat.le_of_ble_eq_true (by kernel_rfl)) (fun C hT Fr H0 hf => show LsOK Fr H0 C (⟨pf, fs34 lo, [], 1⟩ : Tabs) q34_c from ⟨tv, tv⟩) (fun x y h => (q34_e lo x).trans h)
def fs35 (lo : Lo) : List FnE := q34_f lo :: fs34 lo
def q35 (lo : Lo) (l : List ByteArray) : Option Zt2 := vsortS (q34 lo) l
def q35_f (lo : Lo) : FnE := vsortE 271 (.cons (.s) .nil) (q35 lo)
theorem q35_S {P : Program} {fm : FM} {lo : Lo} (hlo : LoOK lo) (hS : Sound P fm ⟨pf, fs35 lo, [], 0⟩) (hm : P.follows .mixedOrders = true) (hG : ∀ f, fm f = 271 -> callable P f = true /\ ∃ ρ : Go.Shelf.Ren, Go.Proofs.Lays.n190 P ρ /\ ρ.f 190 = f) : Sound P fm ⟨pf, q35_f lo :: fs35 lo, [], 0⟩ :=
  vsortS_sound hS rfl (F0 := q34 lo) (List.mem_cons_self ..) hG
def fs36 (lo : Lo) : List FnE := q35_f lo :: fs35 lo
end Go.Abs.G03
namespace Go.Abs.G03
open Go Go.Abs
set_option maxRecDepth 100000
set_option maxHeartbeats 1000000
def q36_L42_b : VCode :=
 (.seq (.reg [o 46 (.bin .lss (t 45) (t 44))])
 (.seq (.cond (t 46) .skip
 (.exit 0))
 (.seq (.blk 1 (.seq (.reg [o 47 (.iad 1 (t 43) (t 45)), lD 48 47, mV 11 48])
 (.seq (.reg [fD 49 1 8, lD 50 49, mV 51 11, o 52 (.call 173 [(t 50), (t 51)]), mV 12 52])
 (.seq (.seq (.reg [mV 53 12, o 54 (.bin .lss (t 53) (k 0))])
 (.cond (t 54) (.seq (.reg [fD 55 1 8, lD 56 55, lN 57 56, mV 12 57])
 (.reg [fD 58 1 8, lD 59 58, mV 60 11, o 61 (.bsl (cs [.s]) 1 [(0, (t 60))]), o 62 (.app (cs [.s]) 0 (t 59) (t 61)), fD 63 1 8, on (.store 1 (t 63) (t 62))]))
 .skip))
 (.reg [mV 64 9, mV 65 12, o 66 (.bsl (cs [I]) 1 [(0, (t 65))]), o 67 (.app (cs [I]) 0 (t 64) (t 66)), mV 9 67])))))
 (.reg [o 68 (.bin .add (t 45) (k 1)), mV 45 68]))))
def q36_L42_g : Sg := ⟨[2, 3, 4, 8, 9, 43, 44, 45], [.ptr 0 0 0, .ptr 1 0 0, .ptr 2 0 0, .ptr 3 0 0, .ref 4, .l (cs [.s]), .i .i64, .i .i64], [.st [.s, .l (cs [.s]), .l Zc1], .st [.s, .l (cs [.s]), .l Zc1], .st [.s, .l (cs [.s]), .l Zc1], .st [.s, .ref 5, .ref 6], .sq (cs [I]), .sq (cs [.s]), .sq Zc1], Zc18⟩
def q36_L42_o : List Out1 := [⟨.exit 0, ⟨[2, 3, 4, 8, 9], [.ptr 0 0 0, .ptr 1 0 0, .ptr 2 0 0, .ptr 3 0 0, .ref 4], [.st [.s, .l (cs [.s]), .l Zc1], .st [.s, .l (cs [.s]), .l Zc1], .st [.s, .l (cs [.s]), .l Zc1], .st [.s, .ref 5, .ref 6], .sq (cs [I]), .sq (cs [.s]), .sq Zc1], (cs [.s, .l (cs [.s]), .l Zc1, .s, .l (cs [.s]), .l Zc1, .s, .l (cs [.s]), .l Zc1, .s, .l (cs [I]), .l (cs [.s]), .l Zc1])⟩⟩]
def q36_L42_s (lo : Lo) : Zp23 -> Option (Zp23 ⊕ ((ByteArray × Zt2 × Zt3 × ByteArray × Zt2 × Zt3 × ByteArray × Zt2 × Zt3 × ByteArray × (List Int) × Zt2 × Zt3))) := fun x => match x with
  | (v43, v44, v45, a2_0, a2_1, a2_2, b3_0, b3_1, b3_2, v4_0, v4_1, v4_2, out8, place9, h5, h6) => bif (decide (v45 < v44)) then (chk (0 <= v45 /\ v45 < (v43.length : Int)) (Option.bind (q4 lo h5 (v43.getD v45.toNat (ByteArray.mk #[]))) fun y80 => bif (decide (y80 < (0 : Int))) then (chk (h5.length + ([(v43.getD v45.toNat (ByteArray.mk #[]))]).length <= maxEl) (chk (place9.length + ([(h5.length : Int)]).length <= maxEl) (some (.inl (v43, v44, (IntKind.wrap .i64 (v45 + (1 : Int))), a2_0, a2_1, a2_2, b3_0, b3_1, b3_2, v4_0, v4_1, v4_2, out8, (place9 ++ ([(h5.length : Int)])), (h5 ++ ([(v43.getD v45.toNat (ByteArray.mk #[]))])), h6))))) else (chk (place9.length + [y80].length <= maxEl) (some (.inl (v43, v44, (IntKind.wrap .i64 (v45 + (1 : Int))), a2_0, a2_1, a2_2, b3_0, b3_1, b3_2, v4_0, v4_1, v4_2, out8, (place9 ++ [y80]), h5, h6)))))) else (some (.inr (a2_0, a2_1, a2_2, b3_0, b3_1, b3_2, v4_0, v4_1, v4_2, out8, place9, h5, h6)))
theorem q36_L42_e (lo : Lo) : ∀ x : Zp23, stepL (⟨pf, fs36 lo, [], 0⟩ : Tabs) [(8, some 2, false), (9, none, false)] q36_L42_g q36_L42_o q36_L42_b x = q36_L42_s lo x := fun x => by kernel_rfl
def q36_L42 (lo : Lo) : Zp23 -> Option ((ByteArray × Zt2 × Zt3 × ByteArray × Zt2 × Zt3 × ByteArray × Zt2 × Zt3 × ByteArray × (List Int) × Zt2 × Zt3)) := lo.run (q36_L42_s lo)
def q36_L42_p (lo : Lo) : LpE := ⟨42, [(8, some 2, false), (9, none, false)], q36_L42_g, q36_L42_o, q36_L42 lo⟩
theorem q36_L42_k {lo : Lo} (hlo : LoOK lo) (C : Ctx) (hT : TOK (⟨pf, fs36 lo, [], 0⟩ : Tabs) C) : LpSound (fun _ => False) [] 0 C (.loop q36_L42_b.er) (q36_L42_p lo) :=
  loop_sound hT frNo (show LK C _ q36_L42_b from ⟨tv, ⟨⟨tv, tv⟩, ⟨⟨tv, ⟨tv, ⟨⟨tv, ⟨⟨tv, tv⟩, tv⟩⟩, tv⟩⟩⟩, tv⟩⟩⟩) (fun x y h => loopO_congr (q36_L42_e lo) (hlo _ _ _ h))
def q36_L21_b : VCode :=
 (.seq (.reg [o 86 (.bin .lss (t 85) (t 84))])
 (.seq (.cond (t 86) .skip
 (.exit 4))
 (.seq (.blk 5 (.seq (.reg [o 87 (.iad 2 (t 83) (t 85)), o 88 (.load true 2 (t 87)), o 17 (.alloc [.i .i64 0, .e Zc4]), on (.store 2 (t 17) (t 88))])
 (.seq (.fz [9] (.reg [fD 90 1 15, lD 91 90, fD 92 1 17, lD 93 92, mV 94 9, fD 95 1 8, lD 96 95, lN 97 96, o 98 (.call 270 [(t 91), (t 93), (t 94), (t 97)]), mV 89 98, eX 99 89 0, eX 100 89 1, mV 18 99, mV 19 100]))
 (.seq (.seq (.reg [mV 101 19, o 102 (.not (t 101))])
 (.cond (t 102) (.exit 5)
 .skip))
 (.seq (.reg [mV 103 13, mV 104 18, o 105 (.call 261 [(t 104)]), mV 106 18, on (.mput none (.l Zc4) (cs []) false (t 103) (t 105) (t 106))])
 (.seq (.reg [mV 107 13, o 108 (.mlen (t 107)), o 109 (.bin .gtr (t 108) (k 1000))])
 (.cond (t 109) (.seq (.reg [o 110 (.build [.s (⟨#[]⟩), .e (cs [.s]), .e Zc1] []), on (.store 3 (t 4) (t 110)), o 5 (.mv (k 3))])
 (.fz [4, 5] .ret))
 .skip)))))))
 (.reg [o 111 (.bin .add (t 85) (k 1)), mV 85 111]))))
def q36_L21_g : Sg := ⟨[3, 4, 8, 9, 13, 15, 76, 77, 78, 83, 84, 85], [.ptr 0 0 0, .ptr 1 0 0, .ptr 2 0 0, .l (cs [I]), .np 3, .ptr 4 0 0, .l Zc1, .i .i64, .i .i64, .l Zc1, .i .i64, .i .i64], [.st [.s, .l (cs [.s]), .l Zc1], .st [.s, .l (cs [.s]), .l Zc1], .st [.s, .ref 5, .ref 6], .st [.i .i64, .l Zc13, .b], .st [.i .i64, .l Zc4], .sq (cs [.s]), .sq Zc1], Zc15⟩
def q36_L21_o : List Out1 := [⟨.ret, ⟨[4, 5], [.ptr 0 0 0, .i .i64], [.st [.s, .l (cs [.s]), .l Zc1]], (cs [I, .s, .l (cs [.s]), .l Zc1])⟩⟩, ⟨.exit 4, ⟨[3, 4, 8, 9, 13, 76, 77, 78], [.ptr 0 0 0, .ptr 1 0 0, .ptr 2 0 0, .l (cs [I]), .np 3, .l Zc1, .i .i64, .i .i64], [.st [.s, .l (cs [.s]), .l Zc1], .st [.s, .l (cs [.s]), .l Zc1], .st [.s, .ref 4, .ref 5], .st [.i .i64, .l Zc13, .b], .sq (cs [.s]), .sq Zc1], Zc9⟩⟩]
def q36_L21_s (lo : Lo) : Zp22 -> Option (Zp22 ⊕ ((Int × ByteArray × Zt2 × Zt3) ⊕ Zp25)) := fun x => match x with
  | (place9, v76, v77, v78, v83, v84, v85, b3_0, b3_1, b3_2, v4_0, v4_1, v4_2, out8, h3_0, h3_1, h3_2, r15_0, r15_1, h5, h6) => bif (decide (v85 < v84)) then (chk (0 <= v85 /\ v85 < (v83.length : Int)) (Option.bind (q20 lo r15_1 ((v83.getD v85.toNat ((0 : Int), [])).2) place9 (h5.length : Int)) fun y82 => bif (!y82.2) then (some (.inl (place9, v76, v77, v78, v83, v84, (IntKind.wrap .i64 (v85 + (1 : Int))), b3_0, b3_1, b3_2, v4_0, v4_1, v4_2, out8, h3_0, h3_1, h3_2, r15_0, r15_1, h5, h6))) else (Option.bind (q17 lo y82.1) fun y83 => bif (decide ((1000 : Int) < ((mpt eqS h3_0 y83 y82.1 h3_1).length : Int))) then (some (.inr (.inl ((3 : Int), (ByteArray.mk #[]), ([] : List ByteArray), ([] : List (Int × Zt0)))))) else (some (.inl (place9, v76, v77, v78, v83, v84, (IntKind.wrap .i64 (v85 + (1 : Int))), b3_0, b3_1, b3_2, v4_0, v4_1, v4_2, out8, (mck eqS h3_0 y83 h3_1), (mpt eqS h3_0 y83 y82.1 h3_1), h3_2, r15_0, r15_1, h5, h6)))))) else (some (.inr (.inr (place9, v76, v77, v78, b3_0, b3_1, b3_2, v4_0, v4_1, v4_2, out8, h3_0, h3_1, h3_2, h5, h6))))
theorem q36_L21_e (lo : Lo) : ∀ x : Zp22, stepL (⟨pf, fs36 lo, [q36_L42_p lo], 0⟩ : Tabs) [] q36_L21_g q36_L21_o q36_L21_b x = q36_L21_s lo x := fun x => by kernel_rfl
def q36_L21 (lo : Lo) : Zp22 -> Option ((Int × ByteArray × Zt2 × Zt3) ⊕ Zp25) := lo.run (q36_L21_s lo)
def q36_L21_p (lo : Lo) : LpE := ⟨21, [], q36_L21_g, q36_L21_o, q36_L21 lo⟩
theorem q36_L21_k {lo : Lo} (hlo : LoOK lo) (C : Ctx) (hT : TOK (⟨pf, fs36 lo, [q36_L42_p lo], 0⟩ : Tabs) C) : LpSound (fun _ => False) [] 0 C (.loop q36_L21_b.er) (q36_L21_p lo) :=
  loop_sound hT frNo (show LK C _ q36_L21_b from ⟨tv, ⟨⟨tv, tv⟩, ⟨⟨tv, ⟨tv, ⟨⟨tv, ⟨tv, tv⟩⟩, ⟨tv, ⟨tv, ⟨⟨tv, tv⟩, tv⟩⟩⟩⟩⟩⟩, tv⟩⟩⟩) (fun x y h => loopO_congr (q36_L21_e lo) (hlo _ _ _ h))
def q36_L19_b : VCode :=
 (.seq (.reg [o 79 (.bin .lss (t 78) (t 77))])
 (.seq (.cond (t 79) .skip
 (.exit 2))
 (.seq (.blk 3 (.seq (.reg [o 80 (.iad 2 (t 76) (t 78)), o 81 (.load true 2 (t 80)), o 15 (.alloc [.i .i64 0, .e Zc4]), on (.store 2 (t 15) (t 81))])
 (.seq (.reg [fD 82 2 3, lD 83 82, lN 84 83, o 85 (.mv (k 0))])
 (.blk 4 (.fz [9] (.loop 21 q36_L21_b))))))
 (.reg [o 112 (.bin .add (t 78) (k 1)), mV 78 112]))))
def q36_L19_g : Sg := ⟨[3, 4, 8, 9, 13, 76, 77, 78], [.ptr 0 0 0, .ptr 1 0 0, .ptr 2 0 0, .l (cs [I]), .np 3, .l Zc1, .i .i64, .i .i64], [.st [.s, .l (cs [.s]), .l Zc1], .st [.s, .l (cs [.s]), .l Zc1], .st [.s, .ref 4, .ref 5], .st [.i .i64, .l Zc13, .b], .sq (cs [.s]), .sq Zc1], Zc9⟩
def q36_L19_o : List Out1 := [⟨.ret, ⟨[4, 5], [.ptr 0 0 0, .i .i64], [.st [.s, .l (cs [.s]), .l Zc1]], (cs [I, .s, .l (cs [.s]), .l Zc1])⟩⟩, ⟨.exit 2, ⟨[4, 8, 13], [.ptr 0 0 0, .ptr 1 0 0, .np 2], [.st [.s, .l (cs [.s]), .l Zc1], .st [.s, .ref 3, .ref 4], .st [.i .i64, .l Zc13, .b], .sq (cs [.s]), .sq Zc1], (cs [.s, .l (cs [.s]), .l Zc1, .s, I, .l Zc13, .b, .l (cs [.s]), .l Zc1])⟩⟩]
def q36_L19_s (lo : Lo) : Zp25 -> Option (Zp25 ⊕ ((Int × ByteArray × Zt2 × Zt3) ⊕ (ByteArray × Zt2 × Zt3 × ByteArray × Int × Zt5 × Bool × Zt2 × Zt3))) := fun x => match x with
  | (place9, v76, v77, v78, b3_0, b3_1, b3_2, v4_0, v4_1, v4_2, out8, h3_0, h3_1, h3_2, h4, h5) => bif (decide (v78 < v77)) then (chk (0 <= v78 /\ v78 < (v76.length : Int)) (Option.bind (q36_L21 lo (place9, v76, v77, v78, b3_2, (b3_2.length : Int), (0 : Int), b3_0, b3_1, b3_2, v4_0, v4_1, v4_2, out8, h3_0, h3_1, h3_2, (v76.getD v78.toNat ((0 : Int), [])).1, (v76.getD v78.toNat ((0 : Int), [])).2, h4, h5)) fun y84 => alt2 y84 (fun y85 => some (.inr (.inl (y85.1, y85.2.1, y85.2.2.1, y85.2.2.2)))) (fun y86 => some (.inl (y86.1, y86.2.1, y86.2.2.1, (IntKind.wrap .i64 (y86.2.2.2.1 + (1 : Int))), y86.2.2.2.2.1, y86.2.2.2.2.2.1, y86.2.2.2.2.2.2.1, y86.2.2.2.2.2.2.2.1, y86.2.2.2.2.2.2.2.2.1, y86.2.2.2.2.2.2.2.2.2.1, y86.2.2.2.2.2.2.2.2.2.2.1, y86.2.2.2.2.2.2.2.2.2.2.2.1, y86.2.2.2.2.2.2.2.2.2.2.2.2.1, y86.2.2.2.2.2.2.2.2.2.2.2.2.2.1, y86.2.2.2.2.2.2.2.2.2.2.2.2.2.2.1, y86.2.2.2.2.2.2.2.2.2.2.2.2.2.2.2))))) else (some (.inr (.inr (v4_0, v4_1, v4_2, out8, h3_0, h3_1, h3_2, h4, h5))))
theorem q36_L19_e (lo : Lo) : ∀ x : Zp25, stepL (⟨pf, fs36 lo, [q36_L21_p lo, q36_L42_p lo], 0⟩ : Tabs) [] q36_L19_g q36_L19_o q36_L19_b x = q36_L19_s lo x := fun x => by kernel_rfl
def q36_L19 (lo : Lo) : Zp25 -> Option ((Int × ByteArray × Zt2 × Zt3) ⊕ (ByteArray × Zt2 × Zt3 × ByteArray × Int × Zt5 × Bool × Zt2 × Zt3)) := lo.run (q36_L19_s lo)
def q36_L19_p (lo : Lo) : LpE := ⟨19, [], q36_L19_g, q36_L19_o, q36_L19 lo⟩
theorem q36_L19_k {lo : Lo} (hlo : LoOK lo) (C : Ctx) (hT : TOK (⟨pf, fs36 lo, [q36_L21_p lo, q36_L42_p lo], 0⟩ : Tabs) C) : LpSound (fun _ => False) [] 0 C (.loop q36_L19_b.er) (q36_L19_p lo) :=
  loop_sound hT frNo (show LK C _ q36_L19_b from ⟨tv, ⟨⟨tv, tv⟩, ⟨⟨tv, ⟨tv, (lsGet (by kernel_rfl) (q36_L21_k hlo C (tok_ls hT)))⟩⟩, tv⟩⟩⟩) (fun x y h => loopO_congr (q36_L19_e lo) (hlo _ _ _ h))
def q36_L3_b : VCode :=
 (.seq (.reg [o 128 (.bin .lss (t 127) (t 126))])
 (.seq (.cond (t 128) .skip
 (.exit 8))
 (.seq (.blk 9 (.seq (.reg [mV 129 127, o 130 (.iad 1 (t 125) (t 127)), lD 131 130, mV 22 129, mV 23 131])
 (.reg [fD 132 2 8, lD 133 132, mV 134 22, o 135 (.bin .add (t 134) (k 1)), mV 136 13, mV 137 23, o 138 (.mget none (.l Zc4) (cs []) false false (t 136) (t 137)), o 139 (.build [.i .i64 0, .e Zc4] [(0, 1, (t 135)), (1, 1, (t 138))]), o 140 (.bsl Zc1 1 [(0, (t 139))]), o 141 (.app Zc1 0 (t 133) (t 140)), fD 142 2 8, on (.store 1 (t 142) (t 141))])))
 (.reg [o 143 (.bin .add (t 127) (k 1)), mV 127 143]))))
def q36_L3_g : Sg := ⟨[4, 8, 13, 125, 126, 127], [.ptr 0 0 0, .ptr 1 0 0, .np 2, .ref 3, .i .i64, .i .i64], [.st [.s, .l (cs [.s]), .l Zc1], .st [.s, .ref 4, .ref 5], .st [.i .i64, .l Zc13, .b], .sq (cs [.s]), .sq (cs [.s]), .sq Zc1], (cs [I, I, .s, .l (cs [.s]), .l Zc1, .s, I, .l Zc13, .b, .l (cs [.s]), .l (cs [.s]), .l Zc1])⟩
def q36_L3_o : List Out1 := [⟨.exit 8, ⟨[4, 8], [.ptr 0 0 0, .ptr 1 0 0], [.st [.s, .l (cs [.s]), .l Zc1], .st [.s, .ref 2, .ref 3], .sq (cs [.s]), .sq Zc1], Zc7⟩⟩]
def q36_L3_s (lo : Lo) : Zp29 -> Option (Zp29 ⊕ (Zp36)) := fun x => match x with
  | (v126, v127, v4_0, v4_1, v4_2, out8, h2_0, h2_1, h2_2, v125, h4, h5) => bif (decide (v127 < v126)) then (chk (0 <= v127 /\ v127 < (v125.length : Int)) (chk (h5.length + ([((IntKind.wrap .i64 (v127 + (1 : Int))), (mgt eqS (v125.getD v127.toNat (ByteArray.mk #[])) h2_1 []))]).length <= maxEl) (some (.inl (v126, (IntKind.wrap .i64 (v127 + (1 : Int))), v4_0, v4_1, v4_2, out8, h2_0, h2_1, h2_2, v125, h4, (h5 ++ ([((IntKind.wrap .i64 (v127 + (1 : Int))), (mgt eqS (v125.getD v127.toNat (ByteArray.mk #[])) h2_1 []))]))))))) else (some (.inr (v4_0, v4_1, v4_2, out8, h4, h5)))
theorem q36_L3_e (lo : Lo) : ∀ x : Zp29, stepL (⟨pf, fs36 lo, [q36_L19_p lo, q36_L21_p lo, q36_L42_p lo], 0⟩ : Tabs) [] q36_L3_g q36_L3_o q36_L3_b x = q36_L3_s lo x := fun x => by kernel_rfl
def q36_L3 (lo : Lo) : Zp29 -> Option (Zp36) := lo.run (q36_L3_s lo)
def q36_L3_p (lo : Lo) : LpE := ⟨3, [], q36_L3_g, q36_L3_o, q36_L3 lo⟩
theorem q36_L3_k {lo : Lo} (hlo : LoOK lo) (C : Ctx) (hT : TOK (⟨pf, fs36 lo, [q36_L19_p lo, q36_L21_p lo, q36_L42_p lo], 0⟩ : Tabs) C) : LpSound (fun _ => False) [] 0 C (.loop q36_L3_b.er) (q36_L3_p lo) :=
  loop_sound hT frNo (show LK C _ q36_L3_b from ⟨tv, ⟨⟨tv, tv⟩, ⟨⟨tv, tv⟩, tv⟩⟩⟩) (fun x y h => loopO_congr (q36_L3_e lo) (hlo _ _ _ h))
def q36_J17_pr : VCode :=
 (.reg [mV 113 13, o 114 (.mrng (t 113))])
def q36_J17_bb : VCode :=
 (.blk 7 (.seq (.reg [o 117 (.ment none (.l Zc4) (cs []) false (t 114)), eX 118 117 0, mV 21 118])
 (.reg [mV 119 20, mV 120 21, o 121 (.bsl (cs [.s]) 1 [(0, (t 120))]), o 122 (.app (cs [.s]) 0 (t 119) (t 121)), mV 20 122])))
def q36_J17_re : VCode :=
 (.seq (.reg [mV 123 20, o 124 (.call 271 [(t 123)])])
 (.seq (.seq (.reg [mV 125 20, lN 126 125, o 127 (.mv (k 0))])
 (.blk 8 (.loop 3 q36_L3_b)))
 (.seq (.reg [o 144 (.load true 3 (t 8)), on (.store 3 (t 4) (t 144)), o 5 (.mv (k 0))])
 (.fz [4, 5] .ret))))
def q36_J17_b : VCode := .seq (.seq q36_J17_pr (.blk 6 (.loop 11 (.seq (.reg [o 115 (.mnxt (t 114)), eX 116 115 0]) (rcode 116 6 q36_J17_bb))))) q36_J17_re
def q36_J17_g : Sg := ⟨[4, 8, 13, 20], [.ptr 0 0 0, .ptr 1 0 0, .np 2, .ref 3], [.st [.s, .l (cs [.s]), .l Zc1], .st [.s, .ref 4, .ref 5], .st [.i .i64, .l Zc13, .b], .sq (cs [.s]), .sq (cs [.s]), .sq Zc1], (cs [.s, .l (cs [.s]), .l Zc1, .s, I, .l Zc13, .b, .l (cs [.s]), .l (cs [.s]), .l Zc1])⟩
def q36_J17_h : Sg := ⟨[4, 8, 13, 20, 114], [.ptr 0 0 0, .ptr 1 0 0, .np 2, .ref 3, .np 4], [.st [.s, .l (cs [.s]), .l Zc1], .st [.s, .ref 5, .ref 6], .st [.i .i64, .l Zc13, .b], .sq (cs [.s]), .st [.np 2, .i .i64, .i .i64, .l (cs [I]), .b], .sq (cs [.s]), .sq Zc1], (cs [.s, .l (cs [.s]), .l Zc1, .s, I, .l Zc13, .b, .l (cs [.s]), I, I, .l (cs [I]), .b, .l (cs [.s]), .l Zc1])⟩
def q36_J17_o : List Out1 := [⟨.ret, ⟨[4, 5], [.ptr 0 0 0, .i .i64], [.st [.s, .l (cs [.s]), .l Zc1]], (cs [I, .s, .l (cs [.s]), .l Zc1])⟩⟩]
def q36_J17_u (lo : Lo) : Zp30 -> Option (ByteArray × Zt2 × Zt3 × ByteArray × Int × Zt5 × Bool × Zt2 × Int × Int × (List Int) × Bool × Zt2 × Zt3) := fun x => match x with
  | (v4_0, v4_1, v4_2, out8, rows13_0, rows13_1, rows13_2, keys20, h4, h5) => some (v4_0, v4_1, v4_2, out8, rows13_0, rows13_1, rows13_2, keys20, rows13_0, rows13_0, ([] : List Int), false, h4, h5)
def q36_J17_i : Zp26 -> ItP := fun x => match x with
  | (v4_0, v4_1, v4_2, out8, rows13_0, rows13_1, rows13_2, keys20, v114_0, v114_1, v114_2, v114_3, h5, h6) => (rows13_1.map (fun e => e.1), v114_2, rows13_0, v114_0, v114_1)
def q36_J17_t (lo : Lo) : Zp26 -> Int -> Option (ByteArray × Zt2 × Zt3 × ByteArray × Int × Zt5 × Bool × Zt2 × Int × Int × (List Int) × Bool × Zt2 × Zt3) := fun x b => match x with
  | (v4_0, v4_1, v4_2, out8, rows13_0, rows13_1, rows13_2, keys20, v114_0, v114_1, v114_2, v114_3, h5, h6) => chk (v114_1 = rows13_0) (Option.bind (addI v114_2 b).getLast? fun y91 => Option.bind (mbf y91 rows13_1) fun y92 => chk (keys20.length + [y92.1].length <= maxEl) (some (v4_0, v4_1, v4_2, out8, rows13_0, rows13_1, rows13_2, (keys20 ++ [y92.1]), v114_0, v114_1, (addI v114_2 b), v114_3, h5, h6)))
def q36_J17_r (lo : Lo) : Zp26 -> Option ((Int × ByteArray × Zt2 × Zt3)) := fun x => match x with
  | (v4_0, v4_1, v4_2, out8, rows13_0, rows13_1, rows13_2, keys20, v114_0, v114_1, v114_2, v114_3, h5, h6) => Option.bind (q35 lo keys20) fun y152 => chk (y152.length = keys20.length) (Option.bind (q36_L3 lo ((y152.length : Int), (0 : Int), v4_0, v4_1, v4_2, out8, rows13_0, rows13_1, rows13_2, y152, h5, h6)) fun y153 => some ((0 : Int), y153.2.2.2.1, y153.2.2.2.2.1, y153.2.2.2.2.2))
noncomputable def q36_J17 (lo : Lo) : Zp30 -> Option ((Int × ByteArray × Zt2 × Zt3)) := fun x => Option.bind (q36_J17_u lo x) (rngF q36_J17_i (q36_J17_t lo) (q36_J17_r lo))
theorem q36_J17_ue (lo : Lo) : ∀ x : Zp30, preR (⟨pf, fs36 lo, [q36_L3_p lo, q36_L19_p lo, q36_L21_p lo, q36_L42_p lo], 0⟩ : Tabs) q36_J17_pr [(20, none, false)] q36_J17_g q36_J17_h x = q36_J17_u lo x := fun x => by kernel_rfl
theorem q36_J17_ie : ∀ x : Zp26, itR q36_J17_h 114 x = some (q36_J17_i x) := fun x => by kernel_rfl
theorem q36_J17_te (lo : Lo) : ∀ (x : (ByteArray × Zt2 × Zt3 × ByteArray × Int × Zt5 × Bool × Zt2 × Int × Int × (List Int) × Bool × Zt2 × Zt3)) (b : Int), stepR (⟨pf, fs36 lo, [q36_L3_p lo, q36_L19_p lo, q36_L21_p lo, q36_L42_p lo], 0⟩ : Tabs) [(20, none, false)] q36_J17_h 114 115 116 6 q36_J17_bb x b = q36_J17_t lo x b := fun x b => by kernel_rfl
theorem q36_J17_ree (lo : Lo) : ∀ x : Zp26, endR (⟨pf, fs36 lo, [q36_L3_p lo, q36_L19_p lo, q36_L21_p lo, q36_L42_p lo], 0⟩ : Tabs) q36_J17_h 115 116 6 q36_J17_bb q36_J17_re q36_J17_o x = q36_J17_r lo x := fun x => by kernel_rfl
noncomputable def q36_J17_p (lo : Lo) : LpE := ⟨17, [(20, none, false)], q36_J17_g, q36_J17_o, q36_J17 lo⟩
theorem q36_J17_k {lo : Lo} (hlo : LoOK lo) (C : Ctx) (hT : TOK (⟨pf, fs36 lo, [q36_L3_p lo, q36_L19_p lo, q36_L21_p lo, q36_L42_p lo], 0⟩ : Tabs) C) : LpSound (fun _ => False) [] 0 C q36_J17_b.er (q36_J17_p lo) :=
  rng_sound (T := (⟨pf, fs36 lo, [q36_L3_p lo, q36_L19_p lo, q36_L21_p lo, q36_L42_p lo], 0⟩ : Tabs)) hT frNo (id := 17) (own0 := [(20, none, false)]) (own := [(20, none, false)]) (g0 := q36_J17_g) (g := q36_J17_h) (outs := q36_J17_o) (pre := q36_J17_pr) (bb := q36_J17_bb) (rest := q36_J17_re) (show LK C _ q36_J17_pr from tv) (show LK C (⟨pf, fs36 lo, [q36_L3_p lo, q36_L19_p lo, q36_L21_p lo, q36_L42_p lo], 0⟩ : Tabs) (rcode 116 6 q36_J17_bb) from ⟨⟨tv, tv⟩, ⟨tv, tv⟩⟩) (show LK C _ q36_J17_re from ⟨tv, ⟨⟨tv, (lsGet (by kernel_rfl) (q36_L3_k hlo C (tok_ls hT)))⟩, ⟨tv, tv⟩⟩⟩) q36_J17_ie (q36_J17_te lo) (q36_J17_ree lo) (q36_J17_ue lo) (fun x y h => rng_bind h)
noncomputable def q36 (lo : Lo) (a0_0 : ByteArray) (a0_1 : List ByteArray) (a0_2 : List (Int × Zt0)) (b1_0 : ByteArray) (b1_1 : List ByteArray) (b1_2 : List (Int × Zt0)) : Option (ByteArray × Zt2 × Zt3 × Int) :=
  Option.bind (q11 lo a0_0 a0_1 a0_2) fun y77 => bif (!decide (y77 = (0 : Int))) then (some ((ByteArray.mk #[]), ([] : List ByteArray), ([] : List (Int × Zt0)), y77)) else (Option.bind (q11 lo b1_0 b1_1 b1_2) fun y78 => bif (!decide (y78 = (0 : Int))) then (some ((ByteArray.mk #[]), ([] : List ByteArray), ([] : List (Int × Zt0)), y78)) else (Option.bind (q19 lo a0_1) fun y79 => Option.bind (q36_L42 lo (b1_1, (b1_1.length : Int), (0 : Int), a0_0, a0_1, a0_2, b1_0, b1_1, b1_2, (ByteArray.mk #[]), ([] : List ByteArray), ([] : List (Int × Zt0)), a0_0, [], y79, [])) fun y81 => bif (decide ((16 : Int) < (y81.2.2.2.2.2.2.2.2.2.2.2.1.length : Int))) then (some ((ByteArray.mk #[]), ([] : List ByteArray), ([] : List (Int × Zt0)), (3 : Int))) else (Option.bind (q36_L19 lo (y81.2.2.2.2.2.2.2.2.2.2.1, y81.2.2.1, (y81.2.2.1.length : Int), (0 : Int), y81.2.2.2.1, y81.2.2.2.2.1, y81.2.2.2.2.2.1, y81.2.2.2.2.2.2.1, y81.2.2.2.2.2.2.2.1, y81.2.2.2.2.2.2.2.2.1, y81.2.2.2.2.2.2.2.2.2.1, (0 : Int), ([] : List (Int × ByteArray × Zt0)), false, y81.2.2.2.2.2.2.2.2.2.2.2.1, y81.2.2.2.2.2.2.2.2.2.2.2.2)) fun y87 => alt2 y87 (fun y88 => some (y88.2.1, y88.2.2.1, y88.2.2.2, y88.1)) (fun y89 => Option.bind (q36_J17 lo (y89.1, y89.2.1, y89.2.2.1, y89.2.2.2.1, y89.2.2.2.2.1, y89.2.2.2.2.2.1, y89.2.2.2.2.2.2.1, [], y89.2.2.2.2.2.2.2.1, y89.2.2.2.2.2.2.2.2)) fun y154 => some (y154.2.1, y154.2.2.1, y154.2.2.2, y154.1)))))
def q36_c : VCode :=
 (.seq (.reg [o 2 (.box (t 0)), o 3 (.box (t 1)), o 4 (.alloc [.s (⟨#[]⟩), .e (cs [.s]), .e Zc1]), o 5 (.mv (k 0))])
 (.seq (.seq (.reg [o 24 (.load true 3 (t 2)), o 25 (.call 230 [(t 24)]), mV 6 25])
 (.seq (.reg [mV 26 6, o 27 (.bin .neq (t 26) (k 0))])
 (.cond (t 27) (.seq (.reg [o 28 (.build [.s (⟨#[]⟩), .e (cs [.s]), .e Zc1] []), mV 29 6, on (.store 3 (t 4) (t 28)), mV 5 29])
 (.fz [4, 5] .ret))
 .skip)))
 (.seq (.seq (.reg [o 30 (.load true 3 (t 3)), o 31 (.call 230 [(t 30)]), mV 7 31])
 (.seq (.reg [mV 32 7, o 33 (.bin .neq (t 32) (k 0))])
 (.cond (t 33) (.seq (.reg [o 34 (.build [.s (⟨#[]⟩), .e (cs [.s]), .e Zc1] []), mV 35 7, on (.store 3 (t 4) (t 34)), mV 5 35])
 (.fz [4, 5] .ret))
 .skip)))
 (.seq (.reg [fD 36 0 2, ⟨some 37, .load false 1 (t 36), none, true, false⟩, fD 38 1 2, ⟨some 39, .load false 1 (t 38), none, true, false⟩, o 40 (.callN 269 [(t 39)]), o 41 (.build [.s (⟨#[]⟩), .e (cs [.s]), .e Zc1] [(0, 1, (t 37)), (1, 1, (t 40))]), o 8 (.alloc [.s (⟨#[]⟩), .e (cs [.s]), .e Zc1]), on (.store 3 (t 8) (t 41))])
 (.seq (.reg [o 9 (.mv (ke (cs [I])))])
 (.seq (.seq (.reg [fD 42 1 3, lD 43 42, lN 44 43, o 45 (.mv (k 0))])
 (.blk 0 (.loop 42 q36_L42_b)))
 (.seq (.seq (.reg [fD 69 1 8, lD 70 69, lN 71 70, o 72 (.bin .gtr (t 71) (k 16))])
 (.cond (t 72) (.seq (.reg [o 73 (.build [.s (⟨#[]⟩), .e (cs [.s]), .e Zc1] []), on (.store 3 (t 4) (t 73)), o 5 (.mv (k 3))])
 (.fz [4, 5] .ret))
 .skip))
 (.seq (.reg [o 74 (.mkm none (.l Zc4) (cs []) false), mV 13 74])
 (.seq (.seq (.reg [fD 75 2 2, lD 76 75, lN 77 76, o 78 (.mv (k 0))])
 (.blk 2 (.fz [9] (.loop 19 q36_L19_b))))
 (.seq (.reg [o 20 (.mv (ke (cs [.s])))])
 (.jn 17 q36_J17_b)))))))))))
def q36_F : VFn := ⟨true, 145, [.c 4 true 3, .t 5], q36_c⟩
noncomputable def q36_f (lo : Lo) : FnE := ⟨237, true, ⟨[0, 1], [.ag [.s, .l (cs [.s]), .l Zc1], .ag [.s, .l (cs [.s]), .l Zc1]], [], Zc7⟩, .tp [.ag [.s, .l (cs [.s]), .l Zc1], .i .i64], [], Zc6, (fun x => q36 lo x.1 x.2.1 x.2.2.1 x.2.2.2.1 x.2.2.2.2.1 x.2.2.2.2.2 : Zp36 -> Option (ByteArray × Zt2 × Zt3 × Int))⟩
theorem q36_e (lo : Lo) : ∀ x : Zp36, evP (⟨pf, fs36 lo, [q36_J17_p lo, q36_L3_p lo, q36_L19_p lo, q36_L21_p lo, q36_L42_p lo], 0⟩ : Tabs) q36_F ⟨[0, 1], [.ag [.s, .l (cs [.s]), .l Zc1], .ag [.s, .l (cs [.s]), .l Zc1]], [], Zc7⟩ (.tp [.ag [.s, .l (cs [.s]), .l Zc1], .i .i64]) Zc6 x = q36 lo x.1 x.2.1 x.2.2.1 x.2.2.2.1 x.2.2.2.2.1 x.2.2.2.2.2 := fun x => by kernel_rfl
theorem q36_S {P : Program} {fm : FM} {lo : Lo} (hlo : LoOK lo) (hS : Sound P fm ⟨pf, fs36 lo, [], 0⟩) (hm : P.follows .mixedOrders = true) (htie : Ti P fm 237 q36_F) : Sound P fm ⟨pf, q36_f lo :: fs36 lo, [], 0⟩ :=
  fn_sound hS hm [q36_J17_p lo, q36_L3_p lo, q36_L19_p lo, q36_L21_p lo, q36_L42_p lo] (q36_f lo) rfl q36_F htie (by decide) rfl (Nat.le_of_ble_eq_true (by kernel_rfl)) (fun C hT => show LK C _ q36_c from ⟨tv, ⟨⟨tv, ⟨tv, ⟨⟨tv, tv⟩, tv⟩⟩⟩, ⟨⟨tv, ⟨tv, ⟨⟨tv, tv⟩, tv⟩⟩⟩, ⟨tv, ⟨tv, ⟨⟨tv, (lsGet (by kernel_rfl) (q36_L42_k hlo C (tok_ls hT)))⟩, ⟨⟨tv, ⟨⟨tv, tv⟩, tv⟩⟩, ⟨tv, ⟨⟨tv, (lsGet (by kernel_rfl) (q36_L19_k hlo C (tok_ls hT)))⟩, ⟨tv, (lsGet (by kernel_rfl) (q36_J17_k hlo C (tok_ls hT)))⟩⟩⟩⟩⟩⟩⟩⟩⟩⟩) (fun x y h => (q36_e lo x).trans h)
noncomputable def fs37 (lo : Lo) : List FnE := q36_f lo :: fs36 lo
def q37_L3_b : VCode :=
 (.seq (.reg [o 14 (.bin .lss (t 13) (t 12))])
 (.seq (.cond (t 14) .skip
 (.exit 0))
 (.seq (.blk 1 (.seq (.reg [mV 15 13, mV 5 15])
 (.seq (.reg [mV 16 0, mV 17 5, o 18 (.iad 1 (t 16) (t 17)), lD 19 18, mV 20 1, mV 21 5, o 22 (.iad 1 (t 20) (t 21)), lD 23 22, o 24 (.bin .neq (t 19) (t 23))])
 (.cond (t 24) (.seq (.reg [o 4 (.mv (kb false))])
 (.fz [4] .ret))
 .skip))))
 (.reg [o 25 (.bin .add (t 13) (k 1)), mV 13 25]))))
def q37_L3_g : Sg := ⟨[0, 1, 12, 13], [.l (cs [.s]), .l (cs [.s]), .i .i64, .i .i64], [], (cs [.l (cs [.s]), .l (cs [.s]), I, I])⟩
def q37_L3_o : List Out1 := [⟨.ret, ⟨[4], [.b], [], (cs [.b])⟩⟩, ⟨.exit 0, ⟨[], [], [], (cs [])⟩⟩]
def q37_L3_s (lo : Lo) : Zt2 × Zt2 × Int × Int -> Option ((Zt2 × Zt2 × Int × Int) ⊕ (Bool ⊕ Unit)) := fun x => match x with
  | (s10, s21, v12, v13) => bif (decide (v13 < v12)) then (chk (0 <= v13 /\ v13 < (s10.length : Int)) (chk (0 <= v13 /\ v13 < (s21.length : Int)) (bif (!decide ((s10.getD v13.toNat (ByteArray.mk #[])) = (s21.getD v13.toNat (ByteArray.mk #[])))) then (some (.inr (.inl false))) else (some (.inl (s10, s21, v12, (IntKind.wrap .i64 (v13 + (1 : Int))))))))) else (some (.inr (.inr ())))
theorem q37_L3_e (lo : Lo) : ∀ x : Zt2 × Zt2 × Int × Int, stepL (⟨pf, fs37 lo, [], 0⟩ : Tabs) [] q37_L3_g q37_L3_o q37_L3_b x = q37_L3_s lo x := fun x => by kernel_rfl
def q37_L3 (lo : Lo) : Zt2 × Zt2 × Int × Int -> Option (Bool ⊕ Unit) := lo.run (q37_L3_s lo)
def q37_L3_p (lo : Lo) : LpE := ⟨3, [], q37_L3_g, q37_L3_o, q37_L3 lo⟩
theorem q37_L3_k {lo : Lo} (hlo : LoOK lo) (C : Ctx) (hT : TOK (⟨pf, fs37 lo, [], 0⟩ : Tabs) C) : LpSound (fun _ => False) [] 0 C (.loop q37_L3_b.er) (q37_L3_p lo) :=
  loop_sound hT frNo (show LK C _ q37_L3_b from ⟨tv, ⟨⟨tv, tv⟩, ⟨⟨tv, ⟨tv, ⟨⟨tv, tv⟩, tv⟩⟩⟩, tv⟩⟩⟩) (fun x y h => loopO_congr (q37_L3_e lo) (hlo _ _ _ h))
def q37 (lo : Lo) (s10 : List ByteArray) (s21 : List ByteArray) : Option Bool :=
  bif (!decide ((s10.length : Int) = (s21.length : Int))) then (some false) else (Option.bind (q37_L3 lo (s10, s21, (s10.length : Int), (0 : Int))) fun y158 => alt2 y158 (fun y159 => some y159) (fun y160 => some true))
def q37_c : VCode :=
 (.seq (.reg [o 4 (.mv (kb false))])
 (.seq (.seq (.reg [mV 6 0, lN 7 6, mV 8 1, lN 9 8, o 10 (.bin .neq (t 7) (t 9))])
 (.cond (t 10) (.seq (.reg [o 4 (.mv (kb false))])
 (.fz [4] .ret))
 .skip))
 (.seq (.seq (.reg [mV 11 0, lN 12 11, o 13 (.mv (k 0))])
 (.blk 0 (.loop 3 q37_L3_b)))
 (.seq (.reg [o 4 (.mv (kb true))])
 (.fz [4] .ret)))))
def q37_F : VFn := ⟨true, 26, [.t 4], q37_c⟩
def q37_f (lo : Lo) : FnE := ⟨267, true, ⟨[0, 1], [.l (cs [.s]), .l (cs [.s])], [], (cs [.l (cs [.s]), .l (cs [.s])])⟩, .b, [], (cs [.b]), (fun x => q37 lo x.1 x.2 : Zt2 × Zt2 -> Option Bool)⟩
theorem q37_e (lo : Lo) : ∀ x : Zt2 × Zt2, evP (⟨pf, fs37 lo, [q37_L3_p lo], 0⟩ : Tabs) q37_F ⟨[0, 1], [.l (cs [.s]), .l (cs [.s])], [], (cs [.l (cs [.s]), .l (cs [.s])])⟩ (.b) (cs [.b]) x = q37 lo x.1 x.2 := fun x => by kernel_rfl
theorem q37_S {P : Program} {fm : FM} {lo : Lo} (hlo : LoOK lo) (hS : Sound P fm ⟨pf, fs37 lo, [], 0⟩) (hm : P.follows .mixedOrders = true) (htie : Ti P fm 267 q37_F) : Sound P fm ⟨pf, q37_f lo :: fs37 lo, [], 0⟩ :=
  fn_sound hS hm [q37_L3_p lo] (q37_f lo) rfl q37_F htie (by decide) rfl (Nat.le_of_ble_eq_true (by kernel_rfl)) (fun C hT => show LK C _ q37_c from ⟨tv, ⟨⟨tv, ⟨⟨tv, tv⟩, tv⟩⟩, ⟨⟨tv, (lsGet (by kernel_rfl) (q37_L3_k hlo C (tok_ls hT)))⟩, ⟨tv, tv⟩⟩⟩⟩) (fun x y h => (q37_e lo x).trans h)
noncomputable def fs38 (lo : Lo) : List FnE := q37_f lo :: fs37 lo
def q38_L3_b : VCode :=
 (.seq (.reg [o 14 (.bin .lss (t 13) (t 12))])
 (.seq (.cond (t 14) .skip
 (.exit 0))
 (.seq (.blk 1 (.seq (.reg [mV 15 13, mV 5 15])
 (.seq (.reg [mV 16 0, mV 17 5, o 18 (.iad 3 (t 16) (t 17)), o 19 (.load true 3 (t 18)), mV 20 1, mV 21 5, o 22 (.iad 3 (t 20) (t 21)), o 23 (.load true 3 (t 22)), o 24 (.eqa true [1, 1, 2] (t 19) (t 23))])
 (.cond (t 24) (.seq (.reg [o 4 (.mv (kb false))])
 (.fz [4] .ret))
 .skip))))
 (.reg [o 25 (.bin .add (t 13) (k 1)), mV 13 25]))))
def q38_L3_g : Sg := ⟨[0, 1, 12, 13], [.l Zc4, .l Zc4, .i .i64, .i .i64], [], (cs [.l Zc4, .l Zc4, I, I])⟩
def q38_L3_o : List Out1 := [⟨.ret, ⟨[4], [.b], [], (cs [.b])⟩⟩, ⟨.exit 0, ⟨[], [], [], (cs [])⟩⟩]
def q38_L3_s (lo : Lo) : Zt0 × Zt0 × Int × Int -> Option ((Zt0 × Zt0 × Int × Int) ⊕ (Bool ⊕ Unit)) := fun x => match x with
  | (s10, s21, v12, v13) => bif (decide (v13 < v12)) then (chk (0 <= v13 /\ v13 < (s10.length : Int)) (chk (0 <= v13 /\ v13 < (s21.length : Int)) (bif (!((decide ((s10.getD v13.toNat ((0 : Int), (0 : Int), (ByteArray.mk #[]))).1 = (s21.getD v13.toNat ((0 : Int), (0 : Int), (ByteArray.mk #[]))).1)) && ((decide ((s10.getD v13.toNat ((0 : Int), (0 : Int), (ByteArray.mk #[]))).2.1 = (s21.getD v13.toNat ((0 : Int), (0 : Int), (ByteArray.mk #[]))).2.1)) && ((decide ((s10.getD v13.toNat ((0 : Int), (0 : Int), (ByteArray.mk #[]))).2.2 = (s21.getD v13.toNat ((0 : Int), (0 : Int), (ByteArray.mk #[]))).2.2)) && true)))) then (some (.inr (.inl false))) else (some (.inl (s10, s21, v12, (IntKind.wrap .i64 (v13 + (1 : Int))))))))) else (some (.inr (.inr ())))
theorem q38_L3_e (lo : Lo) : ∀ x : Zt0 × Zt0 × Int × Int, stepL (⟨pf, fs38 lo, [], 0⟩ : Tabs) [] q38_L3_g q38_L3_o q38_L3_b x = q38_L3_s lo x := fun x => by kernel_rfl
def q38_L3 (lo : Lo) : Zt0 × Zt0 × Int × Int -> Option (Bool ⊕ Unit) := lo.run (q38_L3_s lo)
def q38_L3_p (lo : Lo) : LpE := ⟨3, [], q38_L3_g, q38_L3_o, q38_L3 lo⟩
theorem q38_L3_k {lo : Lo} (hlo : LoOK lo) (C : Ctx) (hT : TOK (⟨pf, fs38 lo, [], 0⟩ : Tabs) C) : LpSound (fun _ => False) [] 0 C (.loop q38_L3_b.er) (q38_L3_p lo) :=
  loop_sound hT frNo (show LK C _ q38_L3_b from ⟨tv, ⟨⟨tv, tv⟩, ⟨⟨tv, ⟨tv, ⟨⟨tv, tv⟩, tv⟩⟩⟩, tv⟩⟩⟩) (fun x y h => loopO_congr (q38_L3_e lo) (hlo _ _ _ h))
def q38 (lo : Lo) (s10 : List (Int × Int × ByteArray)) (s21 : List (Int × Int × ByteArray)) : Option Bool :=
  bif (!decide ((s10.length : Int) = (s21.length : Int))) then (some false) else (Option.bind (q38_L3 lo (s10, s21, (s10.length : Int), (0 : Int))) fun y162 => alt2 y162 (fun y163 => some y163) (fun y164 => some true))
def q38_c : VCode :=
 (.seq (.reg [o 4 (.mv (kb false))])
 (.seq (.seq (.reg [mV 6 0, lN 7 6, mV 8 1, lN 9 8, o 10 (.bin .neq (t 7) (t 9))])
 (.cond (t 10) (.seq (.reg [o 4 (.mv (kb false))])
 (.fz [4] .ret))
 .skip))
 (.seq (.seq (.reg [mV 11 0, lN 12 11, o 13 (.mv (k 0))])
 (.blk 0 (.loop 3 q38_L3_b)))
 (.seq (.reg [o 4 (.mv (kb true))])
 (.fz [4] .ret)))))
def q38_F : VFn := ⟨true, 26, [.t 4], q38_c⟩
def q38_f (lo : Lo) : FnE := ⟨300, true, ⟨[0, 1], [.l Zc4, .l Zc4], [], (cs [.l Zc4, .l Zc4])⟩, .b, [], (cs [.b]), (fun x => q38 lo x.1 x.2 : Zt0 × Zt0 -> Option Bool)⟩
theorem q38_e (lo : Lo) : ∀ x : Zt0 × Zt0, evP (⟨pf, fs38 lo, [q38_L3_p lo], 0⟩ : Tabs) q38_F ⟨[0, 1], [.l Zc4, .l Zc4], [], (cs [.l Zc4, .l Zc4])⟩ (.b) (cs [.b]) x = q38 lo x.1 x.2 := fun x => by kernel_rfl
theorem q38_S {P : Program} {fm : FM} {lo : Lo} (hlo : LoOK lo) (hS : Sound P fm ⟨pf, fs38 lo, [], 0⟩) (hm : P.follows .mixedOrders = true) (htie : Ti P fm 300 q38_F) : Sound P fm ⟨pf, q38_f lo :: fs38 lo, [], 0⟩ :=
  fn_sound hS hm [q38_L3_p lo] (q38_f lo) rfl q38_F htie (by decide) rfl (Nat.le_of_ble_eq_true (by kernel_rfl)) (fun C hT => show LK C _ q38_c from ⟨tv, ⟨⟨tv, ⟨⟨tv, tv⟩, tv⟩⟩, ⟨⟨tv, (lsGet (by kernel_rfl) (q38_L3_k hlo C (tok_ls hT)))⟩, ⟨tv, tv⟩⟩⟩⟩) (fun x y h => (q38_e lo x).trans h)
noncomputable def fs39 (lo : Lo) : List FnE := q38_f lo :: fs38 lo
def q39 (lo : Lo) (s0_0 : Int) (s0_1 : List (Int × Int × ByteArray)) (v1_0 : Int) (v1_1 : List (Int × Int × ByteArray)) : Option (Bool × Int × Zt0) :=
  Option.bind (q38 lo v1_1 s0_1) fun y165 => some (y165, v1_0, v1_1)
def q39_c : VCode :=
 (.seq (.reg [o 2 (.box (t 0)), o 3 (.mv (kb false))])
 (.seq (.reg [fD 4 1 1, lD 5 4, fD 6 1 2, lD 7 6, o 8 (.call 300 [(t 5), (t 7)]), mV 3 8])
 .ret))
def q39_F : VFn := ⟨true, 9, [.t 3], q39_c⟩
def q39_f (lo : Lo) : FnE := ⟨299, false, ⟨[0, 1], [.ag [.i .i64, .l Zc4], .ptr 0 0 0], [.st [.i .i64, .l Zc4]], (cs [I, .l Zc4, I, .l Zc4])⟩, .b, [.st [.i .i64, .l Zc4]], (cs [.b, I, .l Zc4]), (fun x => q39 lo x.1 x.2.1 x.2.2.1 x.2.2.2 : Int × Zt0 × Int × Zt0 -> Option (Bool × Int × Zt0))⟩
theorem q39_e (lo : Lo) : ∀ x : Int × Zt0 × Int × Zt0, evI (⟨pf, fs39 lo, [], 1⟩ : Tabs) q39_F ⟨[0, 1], [.ag [.i .i64, .l Zc4], .ptr 0 0 0], [.st [.i .i64, .l Zc4]], (cs [I, .l Zc4, I, .l Zc4])⟩ (.b) [.st [.i .i64, .l Zc4]] (cs [.b, I, .l Zc4]) x = q39 lo x.1 x.2.1 x.2.2.1 x.2.2.2 := fun x => by kernel_rfl
theorem q39_S {P : Program} {fm : FM} {lo : Lo} (hlo : LoOK lo) (hS : Sound P fm ⟨pf, fs39 lo, [], 0⟩) (hm : P.follows .mixedOrders = true) (htie : Ti P fm 299 q39_F) : Sound P fm ⟨pf, q39_f lo :: fs39 lo, [], 0⟩ :=
  fnI_sound hS hm [] (q39_f lo) rfl q39_F htie (by decide) rfl (Nat.le_of_ble_eq_true (by kernel_rfl)) (fun C hT Fr H0 hf => show LsOK Fr H0 C (⟨pf, fs39 lo, [], 1⟩ : Tabs) q39_c from ⟨tv, ⟨tv, tv⟩⟩) (fun x y h => (q39_e lo x).trans h)
noncomputable def fs40 (lo : Lo) : List FnE := q39_f lo :: fs39 lo
end Go.Abs.G03
namespace Go.Abs.G03
open Go Go.Abs
set_option maxRecDepth 100000
set_option maxHeartbeats 1000000
def q40_L3_b : VCode :=
 (.seq (.reg [o 9 (.bin .lss (t 8) (t 7))])
 (.seq (.cond (t 9) .skip
 (.exit 0))
 (.seq (.blk 1 (.seq (.reg [mV 10 8, mV 5 10])
 (.seq (.reg [mV 11 1, mV 12 0, mV 13 5, o 14 (.iad 2 (t 12) (t 13)), o 15 (.load true 2 (t 14)), o 16 (.dyn (t 11) [(t 15)])])
 (.cond (t 16) (.seq (.reg [mV 17 5, mV 4 17])
 .ret)
 .skip))))
 (.reg [o 18 (.bin .add (t 8) (k 1)), mV 8 18]))))
def q40_L3_g : Sg := ⟨[0, 1, 7, 8], [.l Zc1, .clo 299 [.ptr 0 0 0], .i .i64, .i .i64], [.st [.i .i64, .l Zc4]], (cs [.l Zc1, I, I, I, .l Zc4])⟩
def q40_L3_o : List Out1 := [⟨.ret, ⟨[4], [.i .i64], [.st [.i .i64, .l Zc4]], (cs [I, I, .l Zc4])⟩⟩, ⟨.exit 0, ⟨[], [], [.st [.i .i64, .l Zc4]], Zc1⟩⟩]
def q40_L3_s (lo : Lo) : Zt3 × Int × Int × Int × Zt0 -> Option ((Zt3 × Int × Int × Int × Zt0) ⊕ ((Int × Int × Zt0) ⊕ (Int × Zt0))) := fun x => match x with
  | (s0, v7, v8, h0_0, h0_1) => bif (decide (v8 < v7)) then (chk (0 <= v8 /\ v8 < (s0.length : Int)) (Option.bind (q39 lo ((s0.getD v8.toNat ((0 : Int), [])).1) ((s0.getD v8.toNat ((0 : Int), [])).2) h0_0 h0_1) fun y166 => bif y166.1 then (some (.inr (.inl (v8, y166.2.1, y166.2.2)))) else (some (.inl (s0, v7, (IntKind.wrap .i64 (v8 + (1 : Int))), y166.2.1, y166.2.2))))) else (some (.inr (.inr (h0_0, h0_1))))
theorem q40_L3_e (lo : Lo) : ∀ x : Zt3 × Int × Int × Int × Zt0, stepL (⟨pf, fs40 lo, [], 1⟩ : Tabs) [] q40_L3_g q40_L3_o q40_L3_b x = q40_L3_s lo x := fun x => by kernel_rfl
def q40_L3 (lo : Lo) : Zt3 × Int × Int × Int × Zt0 -> Option ((Int × Int × Zt0) ⊕ (Int × Zt0)) := lo.run (q40_L3_s lo)
def q40_L3_p (lo : Lo) : LpE := ⟨3, [], q40_L3_g, q40_L3_o, q40_L3 lo⟩
theorem q40_L3_k {lo : Lo} (hlo : LoOK lo) (C : Ctx) (hT : TOK (⟨pf, fs40 lo, [], 1⟩ : Tabs) C) {Fr : Nat -> Prop} {H0 : Heap} (hf : FrOK Fr H0) : LpSound Fr H0 1 C (.loop q40_L3_b.er) (q40_L3_p lo) :=
  loop_sound hT hf (show LsOK Fr H0 C (⟨pf, fs40 lo, [], 1⟩ : Tabs) q40_L3_b from ⟨tv, ⟨⟨tv, tv⟩, ⟨⟨tv, ⟨tv, ⟨⟨tv, tv⟩, tv⟩⟩⟩, tv⟩⟩⟩) (fun x y h => loopO_congr (q40_L3_e lo) (hlo _ _ _ h))
def q40 (lo : Lo) (s0 : List (Int × Zt0)) (h0_0 : Int) (h0_1 : List (Int × Int × ByteArray)) : Option (Int × Int × Zt0) :=
  Option.bind (q40_L3 lo (s0, (s0.length : Int), (0 : Int), h0_0, h0_1)) fun y167 => alt2 y167 (fun y168 => some (y168.1, y168.2.1, y168.2.2)) (fun y169 => some ((-1 : Int), y169.1, y169.2))
def q40_c : VCode :=
 (.seq (.reg [o 4 (.mv (k 0))])
 (.seq (.seq (.reg [mV 6 0, lN 7 6, o 8 (.mv (k 0))])
 (.blk 0 (.loop 3 q40_L3_b)))
 (.seq (.reg [o 4 (.mv (k (-1)))])
 .ret)))
def q40_F : VFn := ⟨true, 19, [.t 4], q40_c⟩
def q40_f (lo : Lo) : FnE := ⟨277, false, ⟨[0, 1], [.l Zc1, .clo 299 [.ptr 0 0 0]], [.st [.i .i64, .l Zc4]], (cs [.l Zc1, I, .l Zc4])⟩, .i .i64, [.st [.i .i64, .l Zc4]], (cs [I, I, .l Zc4]), (fun x => q40 lo x.1 x.2.1 x.2.2 : Zt3 × Int × Zt0 -> Option (Int × Int × Zt0))⟩
theorem q40_e (lo : Lo) : ∀ x : Zt3 × Int × Zt0, evI (⟨pf, fs40 lo, [q40_L3_p lo], 1⟩ : Tabs) q40_F ⟨[0, 1], [.l Zc1, .clo 299 [.ptr 0 0 0]], [.st [.i .i64, .l Zc4]], (cs [.l Zc1, I, .l Zc4])⟩ (.i .i64) [.st [.i .i64, .l Zc4]] (cs [I, I, .l Zc4]) x = q40 lo x.1 x.2.1 x.2.2 := fun x => by kernel_rfl
theorem q40_S {P : Program} {fm : FM} {lo : Lo} (hlo : LoOK lo) (hS : Sound P fm ⟨pf, fs40 lo, [], 0⟩) (hm : P.follows .mixedOrders = true) (htie : Ti P fm 277 q40_F) : Sound P fm ⟨pf, q40_f lo :: fs40 lo, [], 0⟩ :=
  fnI_sound hS hm [q40_L3_p lo] (q40_f lo) rfl q40_F htie (by decide) rfl (Nat.le_of_ble_eq_true (by kernel_rfl)) (fun C hT Fr H0 hf => show LsOK Fr H0 C (⟨pf, fs40 lo, [q40_L3_p lo], 1⟩ : Tabs) q40_c from ⟨tv, ⟨⟨tv, (lsGet (by kernel_rfl) (q40_L3_k hlo C (tok_ls hT) hf))⟩, ⟨tv, tv⟩⟩⟩) (fun x y h => (q40_e lo x).trans h)
noncomputable def fs41 (lo : Lo) : List FnE := q40_f lo :: fs40 lo
def q41 (lo : Lo) (s0 : List (Int × Zt0)) (h0_0 : Int) (h0_1 : List (Int × Int × ByteArray)) : Option (Bool × Int × Zt0) :=
  Option.bind (q40 lo s0 h0_0 h0_1) fun y170 => some ((decide ((0 : Int) <= y170.1)), y170.2.1, y170.2.2)
def q41_c : VCode :=
 (.seq (.reg [o 4 (.mv (kb false))])
 (.seq (.reg [mV 5 0, mV 6 1, o 7 (.call 277 [(t 5), (t 6)]), o 8 (.bin .geq (t 7) (k 0)), mV 4 8])
 .ret))
def q41_F : VFn := ⟨true, 9, [.t 4], q41_c⟩
def q41_f (lo : Lo) : FnE := ⟨298, false, ⟨[0, 1], [.l Zc1, .clo 299 [.ptr 0 0 0]], [.st [.i .i64, .l Zc4]], (cs [.l Zc1, I, .l Zc4])⟩, .b, [.st [.i .i64, .l Zc4]], (cs [.b, I, .l Zc4]), (fun x => q41 lo x.1 x.2.1 x.2.2 : Zt3 × Int × Zt0 -> Option (Bool × Int × Zt0))⟩
theorem q41_e (lo : Lo) : ∀ x : Zt3 × Int × Zt0, evI (⟨pf, fs41 lo, [], 1⟩ : Tabs) q41_F ⟨[0, 1], [.l Zc1, .clo 299 [.ptr 0 0 0]], [.st [.i .i64, .l Zc4]], (cs [.l Zc1, I, .l Zc4])⟩ (.b) [.st [.i .i64, .l Zc4]] (cs [.b, I, .l Zc4]) x = q41 lo x.1 x.2.1 x.2.2 := fun x => by kernel_rfl
theorem q41_S {P : Program} {fm : FM} {lo : Lo} (hlo : LoOK lo) (hS : Sound P fm ⟨pf, fs41 lo, [], 0⟩) (hm : P.follows .mixedOrders = true) (htie : Ti P fm 298 q41_F) : Sound P fm ⟨pf, q41_f lo :: fs41 lo, [], 0⟩ :=
  fnI_sound hS hm [] (q41_f lo) rfl q41_F htie (by decide) rfl (Nat.le_of_ble_eq_true (by kernel_rfl)) (fun C hT Fr H0 hf => show LsOK Fr H0 C (⟨pf, fs41 lo, [], 1⟩ : Tabs) q41_c from ⟨tv, ⟨tv, tv⟩⟩) (fun x y h => (q41_e lo x).trans h)
noncomputable def fs42 (lo : Lo) : List FnE := q41_f lo :: fs41 lo
def q42_L3_b : VCode :=
 (.seq (.reg [o 10 (.bin .lss (t 9) (t 8))])
 (.seq (.cond (t 10) .skip
 (.exit 0))
 (.seq (.blk 1 (.seq (.reg [o 11 (.iad 2 (t 7) (t 9)), o 12 (.load true 2 (t 11)), o 6 (.alloc [.i .i64 0, .e Zc4]), on (.store 2 (t 6) (t 12))])
 (.seq (.reg [mV 13 0, o 14 (.mkf 299 [(t 6)]), o 15 (.call 298 [(t 13), (t 14)]), o 16 (.not (t 15))])
 (.cond (t 16) (.seq (.reg [o 4 (.mv (kb false))])
 (.fz [4] .ret))
 .skip))))
 (.reg [o 17 (.bin .add (t 9) (k 1)), mV 9 17]))))
def q42_L3_g : Sg := ⟨[0, 7, 8, 9], [.l Zc1, .l Zc1, .i .i64, .i .i64], [], (cs [.l Zc1, .l Zc1, I, I])⟩
def q42_L3_o : List Out1 := [⟨.ret, ⟨[4], [.b], [], (cs [.b])⟩⟩, ⟨.exit 0, ⟨[], [], [], (cs [])⟩⟩]
def q42_L3_s (lo : Lo) : Zt3 × Zt3 × Int × Int -> Option ((Zt3 × Zt3 × Int × Int) ⊕ (Bool ⊕ Unit)) := fun x => match x with
  | (a0, v7, v8, v9) => bif (decide (v9 < v8)) then (chk (0 <= v9 /\ v9 < (v7.length : Int)) (Option.bind (q41 lo a0 ((v7.getD v9.toNat ((0 : Int), [])).1) ((v7.getD v9.toNat ((0 : Int), [])).2)) fun y171 => bif (!y171.1) then (some (.inr (.inl false))) else (some (.inl (a0, v7, v8, (IntKind.wrap .i64 (v9 + (1 : Int)))))))) else (some (.inr (.inr ())))
theorem q42_L3_e (lo : Lo) : ∀ x : Zt3 × Zt3 × Int × Int, stepL (⟨pf, fs42 lo, [], 0⟩ : Tabs) [] q42_L3_g q42_L3_o q42_L3_b x = q42_L3_s lo x := fun x => by kernel_rfl
def q42_L3 (lo : Lo) : Zt3 × Zt3 × Int × Int -> Option (Bool ⊕ Unit) := lo.run (q42_L3_s lo)
def q42_L3_p (lo : Lo) : LpE := ⟨3, [], q42_L3_g, q42_L3_o, q42_L3 lo⟩
theorem q42_L3_k {lo : Lo} (hlo : LoOK lo) (C : Ctx) (hT : TOK (⟨pf, fs42 lo, [], 0⟩ : Tabs) C) : LpSound (fun _ => False) [] 0 C (.loop q42_L3_b.er) (q42_L3_p lo) :=
  loop_sound hT frNo (show LK C _ q42_L3_b from ⟨tv, ⟨⟨tv, tv⟩, ⟨⟨tv, ⟨tv, ⟨⟨tv, tv⟩, tv⟩⟩⟩, tv⟩⟩⟩) (fun x y h => loopO_congr (q42_L3_e lo) (hlo _ _ _ h))
def q42 (lo : Lo) (a0 : List (Int × Zt0)) (b1 : List (Int × Zt0)) : Option Bool :=
  Option.bind (q42_L3 lo (a0, b1, (b1.length : Int), (0 : Int))) fun y172 => alt2 y172 (fun y173 => some y173) (fun y174 => some true)
def q42_c : VCode :=
 (.seq (.reg [o 4 (.mv (kb false))])
 (.seq (.seq (.reg [mV 7 1, lN 8 7, o 9 (.mv (k 0))])
 (.blk 0 (.loop 3 q42_L3_b)))
 (.seq (.reg [o 4 (.mv (kb true))])
 (.fz [4] .ret))))
def q42_F : VFn := ⟨true, 18, [.t 4], q42_c⟩
def q42_f (lo : Lo) : FnE := ⟨268, true, ⟨[0, 1], [.l Zc1, .l Zc1], [], (cs [.l Zc1, .l Zc1])⟩, .b, [], (cs [.b]), (fun x => q42 lo x.1 x.2 : Zt3 × Zt3 -> Option Bool)⟩
theorem q42_e (lo : Lo) : ∀ x : Zt3 × Zt3, evP (⟨pf, fs42 lo, [q42_L3_p lo], 0⟩ : Tabs) q42_F ⟨[0, 1], [.l Zc1, .l Zc1], [], (cs [.l Zc1, .l Zc1])⟩ (.b) (cs [.b]) x = q42 lo x.1 x.2 := fun x => by kernel_rfl
theorem q42_S {P : Program} {fm : FM} {lo : Lo} (hlo : LoOK lo) (hS : Sound P fm ⟨pf, fs42 lo, [], 0⟩) (hm : P.follows .mixedOrders = true) (htie : Ti P fm 268 q42_F) : Sound P fm ⟨pf, q42_f lo :: fs42 lo, [], 0⟩ :=
  fn_sound hS hm [q42_L3_p lo] (q42_f lo) rfl q42_F htie (by decide) rfl (Nat.le_of_ble_eq_true (by kernel_rfl)) (fun C hT => show LK C _ q42_c from ⟨tv, ⟨⟨tv, (lsGet (by kernel_rfl) (q42_L3_k hlo C (tok_ls hT)))⟩, ⟨tv, tv⟩⟩⟩) (fun x y h => (q42_e lo x).trans h)
noncomputable def fs43 (lo : Lo) : List FnE := q42_f lo :: fs42 lo
def q43 (lo : Lo) (a0_0 : ByteArray) (a0_1 : List ByteArray) (a0_2 : List (Int × Zt0)) (b1_0 : ByteArray) (b1_1 : List ByteArray) (b1_2 : List (Int × Zt0)) : Option Bool :=
  Option.bind (q37 lo a0_1 b1_1) fun y161 => bif y161 then (Option.bind (q42 lo a0_2 b1_2) fun y175 => bif y175 then (Option.bind (q42 lo b1_2 a0_2) fun y176 => some y176) else (some false)) else (some false)
def q43_c : VCode :=
 (.seq (.reg [o 2 (.box (t 0)), o 3 (.box (t 1)), o 4 (.mv (kb false))])
 (.seq (.reg [fD 5 1 2, lD 6 5, fD 7 1 3, lD 8 7, o 9 (.call 267 [(t 6), (t 8)]), mV 10 9, og 11 10 true (.fad 2 (t 2)), og 12 10 true (.load false 1 (t 11)), og 13 10 true (.fad 2 (t 3)), og 14 10 true (.load false 1 (t 13)), og 15 10 true (.call 268 [(t 12), (t 14)]), o 16 (.pick (t 10) (t 15) (kb false)), mV 17 16, og 18 17 true (.fad 2 (t 3)), og 19 17 true (.load false 1 (t 18)), og 20 17 true (.fad 2 (t 2)), og 21 17 true (.load false 1 (t 20)), og 22 17 true (.call 268 [(t 19), (t 21)]), o 23 (.pick (t 17) (t 22) (kb false)), mV 4 23])
 (.fz [4] .ret)))
def q43_F : VFn := ⟨true, 24, [.t 4], q43_c⟩
def q43_f (lo : Lo) : FnE := ⟨236, true, ⟨[0, 1], [.ag [.s, .l (cs [.s]), .l Zc1], .ag [.s, .l (cs [.s]), .l Zc1]], [], Zc7⟩, .b, [], (cs [.b]), (fun x => q43 lo x.1 x.2.1 x.2.2.1 x.2.2.2.1 x.2.2.2.2.1 x.2.2.2.2.2 : Zp36 -> Option Bool)⟩
theorem q43_e (lo : Lo) : ∀ x : Zp36, evP (⟨pf, fs43 lo, [], 0⟩ : Tabs) q43_F ⟨[0, 1], [.ag [.s, .l (cs [.s]), .l Zc1], .ag [.s, .l (cs [.s]), .l Zc1]], [], Zc7⟩ (.b) (cs [.b]) x = q43 lo x.1 x.2.1 x.2.2.1 x.2.2.2.1 x.2.2.2.2.1 x.2.2.2.2.2 := fun x => by kernel_rfl
theorem q43_S {P : Program} {fm : FM} {lo : Lo} (hlo : LoOK lo) (hS : Sound P fm ⟨pf, fs43 lo, [], 0⟩) (hm : P.follows .mixedOrders = true) (htie : Ti P fm 236 q43_F) : Sound P fm ⟨pf, q43_f lo :: fs43 lo, [], 0⟩ :=
  fn_sound hS hm [] (q43_f lo) rfl q43_F htie (by decide) rfl (Nat.le_of_ble_eq_true (by kernel_rfl)) (fun C hT => show LK C _ q43_c from ⟨tv, ⟨tv, tv⟩⟩) (fun x y h => (q43_e lo x).trans h)
noncomputable def fs44 (lo : Lo) : List FnE := q43_f lo :: fs43 lo
noncomputable def q44 (lo : Lo) : Option Bool :=
  Option.bind (q2 lo) fun y6 => Option.bind (q18 lo y6.1 y6.2.1 y6.2.2 (1 : Int)) fun y51 => Option.bind (q18 lo y6.1 y6.2.1 y6.2.2 (2 : Int)) fun y52 => Option.bind (q36 lo y6.1 y6.2.1 y6.2.2 y52.1 y52.2.1 y52.2.2.1) fun y155 => Option.bind (q36 lo y51.1 y51.2.1 y51.2.2.1 y52.1 y52.2.1 y52.2.2.1) fun y156 => bif (decide (y51.2.2.2 = (0 : Int))) then (bif (decide (y52.2.2.2 = (0 : Int))) then (bif (decide (y155.2.2.2 = (0 : Int))) then (bif (decide (y156.2.2.2 = (0 : Int))) then (Option.bind (q11 lo y6.1 y6.2.1 y6.2.2) fun y157 => bif (decide (y157 = (0 : Int))) then (bif (decide ((y51.2.2.1.length : Int) = (2 : Int))) then (chk (0 <= (1 : Int) /\ (1 : Int) < (y51.2.2.1.length : Int)) (bif (decide ((y51.2.2.1.getD 1 ((0 : Int), [])).1 = (4 : Int))) then (Option.bind (q43 lo y155.1 y155.2.1 y155.2.2.1 y6.1 y6.2.1 y6.2.2) fun y177 => bif y177 then (bif (decide ((y156.2.2.1.length : Int) = (4 : Int))) then (chk (0 <= (1 : Int) /\ (1 : Int) < (y156.2.2.1.length : Int)) (chk (0 <= (1 : Int) /\ (1 : Int) < (((y156.2.2.1.getD 1 ((0 : Int), [])).2).length : Int)) (bif (decide ((((y156.2.2.1.getD 1 ((0 : Int), [])).2).getD 1 ((0 : Int), (0 : Int), (ByteArray.mk #[]))).2.2 = (ByteArray.mk #[121]))) then (chk (0 <= (3 : Int) /\ (3 : Int) < (y156.2.2.1.length : Int)) (some (decide ((y156.2.2.1.getD 3 ((0 : Int), [])).1 = (4 : Int))))) else (some false)))) else (some false)) else (some false)) else (some false))) else (some false)) else (some false)) else (some false)) else (some false)) else (some false)) else (some false)
def q44_c : VCode :=
 (.seq (.reg [o 0 (.mv (kb false))])
 (.seq (.reg [o 11 (.call 254 []), o 1 (.alloc [.s (⟨#[]⟩), .e (cs [.s]), .e Zc1]), on (.store 3 (t 1) (t 11))])
 (.seq (.reg [o 13 (.load true 3 (t 1)), o 14 (.call 233 [(t 13), (ki .u32 1)]), mV 12 14, eX 15 12 0, eX 16 12 1, o 2 (.alloc [.s (⟨#[]⟩), .e (cs [.s]), .e Zc1]), on (.store 3 (t 2) (t 15)), mV 3 16])
 (.seq (.reg [o 18 (.load true 3 (t 1)), o 19 (.call 233 [(t 18), (ki .u32 2)]), mV 17 19, eX 20 17 0, eX 21 17 1, o 4 (.alloc [.s (⟨#[]⟩), .e (cs [.s]), .e Zc1]), on (.store 3 (t 4) (t 20)), mV 5 21])
 (.seq (.reg [o 23 (.load true 3 (t 1)), o 24 (.load true 3 (t 4)), o 25 (.call 237 [(t 23), (t 24)]), mV 22 25, eX 26 22 0, eX 27 22 1, o 6 (.alloc [.s (⟨#[]⟩), .e (cs [.s]), .e Zc1]), on (.store 3 (t 6) (t 26)), mV 7 27])
 (.seq (.reg [o 29 (.load true 3 (t 2)), o 30 (.load true 3 (t 4)), o 31 (.call 237 [(t 29), (t 30)]), mV 28 31, eX 32 28 0, eX 33 28 1, o 8 (.alloc [.s (⟨#[]⟩), .e (cs [.s]), .e Zc1]), on (.store 3 (t 8) (t 32)), mV 9 33])
 (.seq (.reg [mV 34 3, o 35 (.bin .eql (t 34) (k 0)), mV 36 35, og 37 36 true (.mv (t 5)), og 38 36 true (.bin .eql (t 37) (k 0)), o 39 (.pick (t 36) (t 38) (kb false)), mV 40 39, og 41 40 true (.mv (t 7)), og 42 40 true (.bin .eql (t 41) (k 0)), o 43 (.pick (t 40) (t 42) (kb false)), mV 44 43, og 45 44 true (.mv (t 9)), og 46 44 true (.bin .eql (t 45) (k 0)), o 47 (.pick (t 44) (t 46) (kb false)), mV 10 47])
 (.seq (.reg [mV 48 10, mV 49 48, og 50 49 true (.load true 3 (t 1)), og 51 49 true (.call 230 [(t 50)]), og 52 49 true (.bin .eql (t 51) (k 0)), o 53 (.pick (t 49) (t 52) (kb false)), mV 54 53, og 55 54 true (.fad 2 (t 2)), og 56 54 true (.load false 1 (t 55)), og 57 54 true (.len (t 56)), og 58 54 true (.bin .eql (t 57) (k 2)), o 59 (.pick (t 54) (t 58) (kb false)), mV 60 59, og 61 60 true (.fad 2 (t 2)), og 62 60 true (.load false 1 (t 61)), og 63 60 true (.iad 2 (t 62) (k 1)), og 64 60 true (.fad 0 (t 63)), og 65 60 true (.load false 1 (t 64)), og 66 60 true (.bin .eql (t 65) (k 4)), o 67 (.pick (t 60) (t 66) (kb false)), mV 68 67, og 69 68 true (.load true 3 (t 6)), og 70 68 true (.load true 3 (t 1)), og 71 68 true (.call 236 [(t 69), (t 70)]), o 72 (.pick (t 68) (t 71) (kb false)), mV 73 72, og 74 73 true (.fad 2 (t 8)), og 75 73 true (.load false 1 (t 74)), og 76 73 true (.len (t 75)), og 77 73 true (.bin .eql (t 76) (k 4)), o 78 (.pick (t 73) (t 77) (kb false)), mV 79 78, og 80 79 true (.fad 2 (t 8)), og 81 79 true (.load false 1 (t 80)), og 82 79 true (.iad 2 (t 81) (k 1)), og 83 79 true (.fad 1 (t 82)), og 84 79 true (.load false 1 (t 83)), og 85 79 true (.iad 3 (t 84) (k 1)), og 86 79 true (.fad 2 (t 85)), og 87 79 true (.load false 1 (t 86)), og 88 79 true (.bin .eql (t 87) (ks (⟨#[121]⟩))), o 89 (.pick (t 79) (t 88) (kb false)), mV 90 89, og 91 90 true (.fad 2 (t 8)), og 92 90 true (.load false 1 (t 91)), og 93 90 true (.iad 2 (t 92) (k 3)), og 94 90 true (.fad 0 (t 93)), og 95 90 true (.load false 1 (t 94)), og 96 90 true (.bin .eql (t 95) (k 4)), o 97 (.pick (t 90) (t 96) (kb false)), mV 0 97])
 (.fz [0] .ret)))))))))
def q44_F : VFn := ⟨true, 98, [.t 0], q44_c⟩
noncomputable def q44_f (lo : Lo) : FnE := ⟨229, true, ⟨[], [], [], (cs [])⟩, .b, [], (cs [.b]), (fun x => q44 lo  : Unit -> Option Bool)⟩
theorem q44_e (lo : Lo) : ∀ x : Unit, evP (⟨pf, fs44 lo, [], 0⟩ : Tabs) q44_F ⟨[], [], [], (cs [])⟩ (.b) (cs [.b]) x = q44 lo  := fun x => by kernel_rfl
theorem q44_S {P : Program} {fm : FM} {lo : Lo} (hlo : LoOK lo) (hS : Sound P fm ⟨pf, fs44 lo, [], 0⟩) (hm : P.follows .mixedOrders = true) (htie : Ti P fm 229 q44_F) : Sound P fm ⟨pf, q44_f lo :: fs44 lo, [], 0⟩ :=
  fn_sound hS hm [] (q44_f lo) rfl q44_F htie (by decide) rfl (Nat.le_of_ble_eq_true (by kernel_rfl)) (fun C hT => show LK C _ q44_c from ⟨tv, ⟨tv, ⟨tv, ⟨tv, ⟨tv, ⟨tv, ⟨tv, ⟨tv, tv⟩⟩⟩⟩⟩⟩⟩⟩) (fun x y h => (q44_e lo x).trans h)
noncomputable def fs45 (lo : Lo) : List FnE := q44_f lo :: fs44 lo
def q45 (lo : Lo) (c0 : Int) : Option Bool :=
  bif (decide ((97 : Int) <= c0)) then (bif (decide (c0 <= (122 : Int))) then (some true) else (bif (decide ((65 : Int) <= c0)) then (bif (decide (c0 <= (90 : Int))) then (some true) else (some (decide (c0 = (95 : Int))))) else (some (decide (c0 = (95 : Int)))))) else (bif (decide ((65 : Int) <= c0)) then (bif (decide (c0 <= (90 : Int))) then (some true) else (some (decide (c0 = (95 : Int))))) else (some (decide (c0 = (95 : Int)))))
def q45_c : VCode :=
 (.seq (.reg [o 2 (.mv (kb false))])
 (.seq (.reg [mV 3 0, o 4 (.bin .geq (t 3) (ki .u8 97)), mV 5 4, og 6 5 true (.mv (t 0)), og 7 5 true (.bin .leq (t 6) (ki .u8 122)), o 8 (.pick (t 5) (t 7) (kb false)), mV 9 8, og 10 9 false (.mv (t 0)), og 11 9 false (.bin .geq (t 10) (ki .u8 65)), og 12 9 false (.mv (t 11)), og 13 12 true (.mv (t 0)), og 14 12 true (.bin .leq (t 13) (ki .u8 90)), og 15 9 false (.pick (t 12) (t 14) (kb false)), o 16 (.pick (t 9) (kb true) (t 15)), mV 17 16, og 18 17 false (.mv (t 0)), og 19 17 false (.bin .eql (t 18) (ki .u8 95)), o 20 (.pick (t 17) (kb true) (t 19)), mV 2 20])
 (.fz [2] .ret)))
def q45_F : VFn := ⟨true, 21, [.t 2], q45_c⟩
def q45_f (lo : Lo) : FnE := ⟨295, true, ⟨[0], [.i .u8], [], (cs [.i .u8])⟩, .b, [], (cs [.b]), (fun x => q45 lo x : Int -> Option Bool)⟩
theorem q45_e (lo : Lo) : ∀ x : Int, evP (⟨pf, fs45 lo, [], 0⟩ : Tabs) q45_F ⟨[0], [.i .u8], [], (cs [.i .u8])⟩ (.b) (cs [.b]) x = q45 lo x := fun x => by kernel_rfl
theorem q45_S {P : Program} {fm : FM} {lo : Lo} (hlo : LoOK lo) (hS : Sound P fm ⟨pf, fs45 lo, [], 0⟩) (hm : P.follows .mixedOrders = true) (htie : Ti P fm 295 q45_F) : Sound P fm ⟨pf, q45_f lo :: fs45 lo, [], 0⟩ :=
  fn_sound hS hm [] (q45_f lo) rfl q45_F htie (by decide) rfl (Nat.le_of_ble_eq_true (by kernel_rfl)) (fun C hT => show LK C _ q45_c from ⟨tv, ⟨tv, tv⟩⟩) (fun x y h => (q45_e lo x).trans h)
noncomputable def fs46 (lo : Lo) : List FnE := q45_f lo :: fs45 lo
def q46_L3_b : VCode :=
 (.seq (.seq (.reg [mV 22 3, mV 23 0, o 24 (.lenS (t 23)), o 25 (.bin .lss (t 22) (t 24))])
 (.cond (t 25) .skip
 (.exit 0)))
 (.seq (.blk 1 (.seq (.reg [mV 28 0, mV 29 3, o 30 (.idx (t 28) (t 29)), o 31 (.call 295 [(t 30)]), o 32 (.not (t 31)), mV 33 32, og 34 33 true (.mv (t 0)), og 35 33 true (.mv (t 3)), og 36 33 true (.idx (t 34) (t 35)), og 37 33 true (.bin .lss (t 36) (ki .u8 48)), og 38 33 true (.mv (t 37)), og 39 38 false (.mv (t 0)), og 40 38 false (.mv (t 3)), og 41 38 false (.idx (t 39) (t 40)), og 42 38 false (.bin .gtr (t 41) (ki .u8 57)), og 43 33 true (.pick (t 38) (kb true) (t 42)), o 44 (.pick (t 33) (t 43) (kb false))])
 (.cond (t 44) (.seq (.reg [o 2 (.mv (kb false))])
 (.fz [2] .ret))
 .skip)))
 (.reg [mV 26 3, o 27 (.bin .add (t 26) (k 1)), mV 3 27])))
def q46_L3_g : Sg := ⟨[0, 3], [.s, .i .i64], [], (cs [.s, I])⟩
def q46_L3_o : List Out1 := [⟨.ret, ⟨[2], [.b], [], (cs [.b])⟩⟩, ⟨.exit 0, ⟨[], [], [], (cs [])⟩⟩]
def q46_L3_s (lo : Lo) : ByteArray × Int -> Option ((ByteArray × Int) ⊕ (Bool ⊕ Unit)) := fun x => match x with
  | (s0, i3) => bif (decide (i3 < (s0.size : Int))) then (chk (0 <= i3 /\ i3 < (s0.size : Int)) (Option.bind (q45 lo (byteI s0 i3)) fun y184 => bif (!y184) then (chk (0 <= i3 /\ i3 < (s0.size : Int)) (bif (decide ((byteI s0 i3) < (48 : Int))) then (some (.inr (.inl false))) else (chk (0 <= i3 /\ i3 < (s0.size : Int)) (bif (decide ((57 : Int) < (byteI s0 i3))) then (some (.inr (.inl false))) else (some (.inl (s0, (IntKind.wrap .i64 (i3 + (1 : Int)))))))))) else (some (.inl (s0, (IntKind.wrap .i64 (i3 + (1 : Int)))))))) else (some (.inr (.inr ())))
theorem q46_L3_e (lo : Lo) : ∀ x : ByteArray × Int, stepL (⟨pf, fs46 lo, [], 0⟩ : Tabs) [] q46_L3_g q46_L3_o q46_L3_b x = q46_L3_s lo x := fun x => by kernel_rfl
def q46_L3 (lo : Lo) : ByteArray × Int -> Option (Bool ⊕ Unit) := lo.run (q46_L3_s lo)
def q46_L3_p (lo : Lo) : LpE := ⟨3, [], q46_L3_g, q46_L3_o, q46_L3 lo⟩
theorem q46_L3_k {lo : Lo} (hlo : LoOK lo) (C : Ctx) (hT : TOK (⟨pf, fs46 lo, [], 0⟩ : Tabs) C) : LpSound (fun _ => False) [] 0 C (.loop q46_L3_b.er) (q46_L3_p lo) :=
  loop_sound hT frNo (show LK C _ q46_L3_b from ⟨⟨tv, ⟨tv, tv⟩⟩, ⟨⟨tv, ⟨⟨tv, tv⟩, tv⟩⟩, tv⟩⟩) (fun x y h => loopO_congr (q46_L3_e lo) (hlo _ _ _ h))
def q46 (lo : Lo) (s0 : ByteArray) : Option Bool :=
  bif (decide ((s0.size : Int) = (0 : Int))) then (some false) else (bif (decide ((24 : Int) < (s0.size : Int))) then (some false) else (chk (0 <= (0 : Int) /\ (0 : Int) < (s0.size : Int)) (Option.bind (q45 lo (byteI s0 (0 : Int))) fun y183 => bif (!y183) then (some false) else (bif (decide (s0 = (ByteArray.mk #[110, 117, 108, 108]))) then (some false) else (Option.bind (q46_L3 lo (s0, (0 : Int))) fun y185 => alt2 y185 (fun y186 => some y186) (fun y187 => some true))))))
def q46_c : VCode :=
 (.seq (.reg [o 2 (.mv (kb false))])
 (.seq (.seq (.reg [mV 4 0, o 5 (.lenS (t 4)), o 6 (.bin .eql (t 5) (k 0)), mV 7 6, og 8 7 false (.mv (t 0)), og 9 7 false (.lenS (t 8)), og 10 7 false (.bin .gtr (t 9) (k 24)), o 11 (.pick (t 7) (kb true) (t 10)), mV 12 11, og 13 12 false (.mv (t 0)), og 14 12 false (.idx (t 13) (k 0)), og 15 12 false (.call 295 [(t 14)]), og 16 12 false (.not (t 15)), o 17 (.pick (t 12) (kb true) (t 16)), mV 18 17, og 19 18 false (.mv (t 0)), og 20 18 false (.bin .eql (t 19) (ks (⟨#[110, 117, 108, 108]⟩))), o 21 (.pick (t 18) (kb true) (t 20))])
 (.cond (t 21) (.seq (.reg [o 2 (.mv (kb false))])
 (.fz [2] .ret))
 .skip))
 (.seq (.seq (.reg [o 3 (.mv (k 0))])
 (.blk 0 (.loop 3 q46_L3_b)))
 (.seq (.reg [o 2 (.mv (kb true))])
 (.fz [2] .ret)))))
def q46_F : VFn := ⟨true, 45, [.t 2], q46_c⟩
def q46_f (lo : Lo) : FnE := ⟨258, true, ⟨[0], [.s], [], (cs [.s])⟩, .b, [], (cs [.b]), (fun x => q46 lo x : ByteArray -> Option Bool)⟩
theorem q46_e (lo : Lo) : ∀ x : ByteArray, evP (⟨pf, fs46 lo, [q46_L3_p lo], 0⟩ : Tabs) q46_F ⟨[0], [.s], [], (cs [.s])⟩ (.b) (cs [.b]) x = q46 lo x := fun x => by kernel_rfl
theorem q46_S {P : Program} {fm : FM} {lo : Lo} (hlo : LoOK lo) (hS : Sound P fm ⟨pf, fs46 lo, [], 0⟩) (hm : P.follows .mixedOrders = true) (htie : Ti P fm 258 q46_F) : Sound P fm ⟨pf, q46_f lo :: fs46 lo, [], 0⟩ :=
  fn_sound hS hm [q46_L3_p lo] (q46_f lo) rfl q46_F htie (by decide) rfl (Nat.le_of_ble_eq_true (by kernel_rfl)) (fun C hT => show LK C _ q46_c from ⟨tv, ⟨⟨tv, ⟨⟨tv, tv⟩, tv⟩⟩, ⟨⟨tv, (lsGet (by kernel_rfl) (q46_L3_k hlo C (tok_ls hT)))⟩, ⟨tv, tv⟩⟩⟩⟩) (fun x y h => (q46_e lo x).trans h)
noncomputable def fs47 (lo : Lo) : List FnE := q46_f lo :: fs46 lo
def q47_L3_b : VCode :=
 (.seq (.seq (.reg [mV 6 5, mV 7 0, lN 8 7, o 9 (.bin .lss (t 6) (t 8))])
 (.cond (t 9) .skip
 (.exit 0)))
 (.seq (.blk 1 (.seq (.reg [mV 12 0, mV 13 5, o 14 (.iad 1 (t 12) (t 13)), lD 15 14, mV 16 1, o 17 (.bin .eql (t 15) (t 16))])
 (.cond (t 17) (.seq (.reg [mV 18 5, mV 4 18])
 (.fz [4] .ret))
 .skip)))
 (.reg [mV 10 5, o 11 (.bin .add (t 10) (k 1)), mV 5 11])))
def q47_L3_g : Sg := ⟨[0, 1, 5], [.l (cs [.s]), .s, .i .i64], [], (cs [.l (cs [.s]), .s, I])⟩
def q47_L3_o : List Out1 := [⟨.ret, ⟨[4], [.i .i64], [], (cs [I])⟩⟩, ⟨.exit 0, ⟨[], [], [], (cs [])⟩⟩]
def q47_L3_s (lo : Lo) : Zt2 × ByteArray × Int -> Option ((Zt2 × ByteArray × Int) ⊕ (Int ⊕ Unit)) := fun x => match x with
  | (l0, name1, i5) => bif (decide (i5 < (l0.length : Int))) then (chk (0 <= i5 /\ i5 < (l0.length : Int)) (bif (decide ((l0.getD i5.toNat (ByteArray.mk #[])) = name1)) then (some (.inr (.inl i5))) else (some (.inl (l0, name1, (IntKind.wrap .i64 (i5 + (1 : Int)))))))) else (some (.inr (.inr ())))
theorem q47_L3_e (lo : Lo) : ∀ x : Zt2 × ByteArray × Int, stepL (⟨pf, fs47 lo, [], 0⟩ : Tabs) [] q47_L3_g q47_L3_o q47_L3_b x = q47_L3_s lo x := fun x => by kernel_rfl
def q47_L3 (lo : Lo) : Zt2 × ByteArray × Int -> Option (Int ⊕ Unit) := lo.run (q47_L3_s lo)
def q47_L3_p (lo : Lo) : LpE := ⟨3, [], q47_L3_g, q47_L3_o, q47_L3 lo⟩
theorem q47_L3_k {lo : Lo} (hlo : LoOK lo) (C : Ctx) (hT : TOK (⟨pf, fs47 lo, [], 0⟩ : Tabs) C) : LpSound (fun _ => False) [] 0 C (.loop q47_L3_b.er) (q47_L3_p lo) :=
  loop_sound hT frNo (show LK C _ q47_L3_b from ⟨⟨tv, ⟨tv, tv⟩⟩, ⟨⟨tv, ⟨⟨tv, tv⟩, tv⟩⟩, tv⟩⟩) (fun x y h => loopO_congr (q47_L3_e lo) (hlo _ _ _ h))
def q47 (lo : Lo) (l0 : List ByteArray) (name1 : ByteArray) : Option Int :=
  Option.bind (q47_L3 lo (l0, name1, (0 : Int))) fun y190 => alt2 y190 (fun y191 => some y191) (fun y192 => some (-1 : Int))
def q47_c : VCode :=
 (.seq (.reg [o 4 (.mv (k 0))])
 (.seq (.seq (.reg [o 5 (.mv (k 0))])
 (.blk 0 (.loop 3 q47_L3_b)))
 (.seq (.reg [o 4 (.mv (k (-1)))])
 (.fz [4] .ret))))
def q47_F : VFn := ⟨true, 19, [.t 4], q47_c⟩
def q47_f (lo : Lo) : FnE := ⟨272, true, ⟨[0, 1], [.l (cs [.s]), .s], [], (cs [.l (cs [.s]), .s])⟩, .i .i64, [], (cs [I]), (fun x => q47 lo x.1 x.2 : Zt2 × ByteArray -> Option Int)⟩
theorem q47_e (lo : Lo) : ∀ x : Zt2 × ByteArray, evP (⟨pf, fs47 lo, [q47_L3_p lo], 0⟩ : Tabs) q47_F ⟨[0, 1], [.l (cs [.s]), .s], [], (cs [.l (cs [.s]), .s])⟩ (.i .i64) (cs [I]) x = q47 lo x.1 x.2 := fun x => by kernel_rfl
theorem q47_S {P : Program} {fm : FM} {lo : Lo} (hlo : LoOK lo) (hS : Sound P fm ⟨pf, fs47 lo, [], 0⟩) (hm : P.follows .mixedOrders = true) (htie : Ti P fm 272 q47_F) : Sound P fm ⟨pf, q47_f lo :: fs47 lo, [], 0⟩ :=
  fn_sound hS hm [q47_L3_p lo] (q47_f lo) rfl q47_F htie (by decide) rfl (Nat.le_of_ble_eq_true (by kernel_rfl)) (fun C hT => show LK C _ q47_c from ⟨tv, ⟨⟨tv, (lsGet (by kernel_rfl) (q47_L3_k hlo C (tok_ls hT)))⟩, ⟨tv, tv⟩⟩⟩) (fun x y h => (q47_e lo x).trans h)
noncomputable def fs48 (lo : Lo) : List FnE := q47_f lo :: fs47 lo
def q48_L3_b : VCode :=
 (.seq (.seq (.reg [mV 4 3, mV 5 0, lN 6 5, o 7 (.bin .lss (t 4) (t 6))])
 (.cond (t 7) .skip
 (.exit 0)))
 (.seq (.blk 1 (.seq (.reg [mV 10 0, mV 11 3, o 12 (.iad 1 (t 10) (t 11)), lD 13 12, o 14 (.call 258 [(t 13)]), o 15 (.not (t 14)), mV 16 15, og 17 16 false (.mv (t 0)), og 18 16 false (.mv (t 3)), og 19 16 false (.slcR 1 (t 17) none (some (t 18))), og 20 16 false (.mv (t 0)), og 21 16 false (.mv (t 3)), og 22 16 false (.iad 1 (t 20) (t 21)), og 23 16 false (.load false 1 (t 22)), og 24 16 false (.call 272 [(t 19), (t 23)]), og 25 16 false (.bin .geq (t 24) (k 0)), o 26 (.pick (t 16) (kb true) (t 25))])
 (.cond (t 26) (.seq (.reg [o 2 (.mv (kb false))])
 (.fz [2] .ret))
 .skip)))
 (.reg [mV 8 3, o 9 (.bin .add (t 8) (k 1)), mV 3 9])))
def q48_L3_g : Sg := ⟨[0, 3], [.l (cs [.s]), .i .i64], [], (cs [.l (cs [.s]), I])⟩
def q48_L3_o : List Out1 := [⟨.ret, ⟨[2], [.b], [], (cs [.b])⟩⟩, ⟨.exit 0, ⟨[], [], [], (cs [])⟩⟩]
def q48_L3_s (lo : Lo) : Zt2 × Int -> Option ((Zt2 × Int) ⊕ (Bool ⊕ Unit)) := fun x => match x with
  | (l0, i3) => bif (decide (i3 < (l0.length : Int))) then (chk (0 <= i3 /\ i3 < (l0.length : Int)) (Option.bind (q46 lo (l0.getD i3.toNat (ByteArray.mk #[]))) fun y189 => bif (!y189) then (some (.inr (.inl false))) else (chk (0 <= (0 : Int) /\ (0 : Int) <= i3 /\ i3 <= (l0.length : Int)) (chk (0 <= i3 /\ i3 < (l0.length : Int)) (Option.bind (q47 lo ((l0.take i3.toNat).drop 0) (l0.getD i3.toNat (ByteArray.mk #[]))) fun y193 => bif (decide ((0 : Int) <= y193)) then (some (.inr (.inl false))) else (some (.inl (l0, (IntKind.wrap .i64 (i3 + (1 : Int))))))))))) else (some (.inr (.inr ())))
theorem q48_L3_e (lo : Lo) : ∀ x : Zt2 × Int, stepL (⟨pf, fs48 lo, [], 0⟩ : Tabs) [] q48_L3_g q48_L3_o q48_L3_b x = q48_L3_s lo x := fun x => by kernel_rfl
def q48_L3 (lo : Lo) : Zt2 × Int -> Option (Bool ⊕ Unit) := lo.run (q48_L3_s lo)
def q48_L3_p (lo : Lo) : LpE := ⟨3, [], q48_L3_g, q48_L3_o, q48_L3 lo⟩
theorem q48_L3_k {lo : Lo} (hlo : LoOK lo) (C : Ctx) (hT : TOK (⟨pf, fs48 lo, [], 0⟩ : Tabs) C) : LpSound (fun _ => False) [] 0 C (.loop q48_L3_b.er) (q48_L3_p lo) :=
  loop_sound hT frNo (show LK C _ q48_L3_b from ⟨⟨tv, ⟨tv, tv⟩⟩, ⟨⟨tv, ⟨⟨tv, tv⟩, tv⟩⟩, tv⟩⟩) (fun x y h => loopO_congr (q48_L3_e lo) (hlo _ _ _ h))
def q48 (lo : Lo) (l0 : List ByteArray) : Option Bool :=
  Option.bind (q48_L3 lo (l0, (0 : Int))) fun y194 => alt2 y194 (fun y195 => some y195) (fun y196 => some true)
def q48_c : VCode :=
 (.seq (.reg [o 2 (.mv (kb false))])
 (.seq (.seq (.reg [o 3 (.mv (k 0))])
 (.blk 0 (.loop 3 q48_L3_b)))
 (.seq (.reg [o 2 (.mv (kb true))])
 (.fz [2] .ret))))
def q48_F : VFn := ⟨true, 27, [.t 2], q48_c⟩
def q48_f (lo : Lo) : FnE := ⟨259, true, ⟨[0], [.l (cs [.s])], [], Zc11⟩, .b, [], (cs [.b]), (fun x => q48 lo x : Zt2 -> Option Bool)⟩
theorem q48_e (lo : Lo) : ∀ x : Zt2, evP (⟨pf, fs48 lo, [q48_L3_p lo], 0⟩ : Tabs) q48_F ⟨[0], [.l (cs [.s])], [], Zc11⟩ (.b) (cs [.b]) x = q48 lo x := fun x => by kernel_rfl
theorem q48_S {P : Program} {fm : FM} {lo : Lo} (hlo : LoOK lo) (hS : Sound P fm ⟨pf, fs48 lo, [], 0⟩) (hm : P.follows .mixedOrders = true) (htie : Ti P fm 259 q48_F) : Sound P fm ⟨pf, q48_f lo :: fs48 lo, [], 0⟩ :=
  fn_sound hS hm [q48_L3_p lo] (q48_f lo) rfl q48_F htie (by decide) rfl (Nat.le_of_ble_eq_true (by kernel_rfl)) (fun C hT => show LK C _ q48_c from ⟨tv, ⟨⟨tv, (lsGet (by kernel_rfl) (q48_L3_k hlo C (tok_ls hT)))⟩, ⟨tv, tv⟩⟩⟩) (fun x y h => (q48_e lo x).trans h)
noncomputable def fs49 (lo : Lo) : List FnE := q48_f lo :: fs48 lo
def q49 (lo : Lo) (v0_0 : Int) (v0_1 : Int) (v0_2 : ByteArray) : Option Bool :=
  bif (decide (v0_0 = (0 : Int))) then (bif (decide (v0_1 = (0 : Int))) then (some (decide (v0_2 = (ByteArray.mk #[])))) else (some false)) else (bif (decide (v0_0 = (1 : Int))) then (some (decide (v0_2 = (ByteArray.mk #[])))) else (bif (decide (v0_0 = (2 : Int))) then (bif (decide (v0_1 = (0 : Int))) then (some (decide ((v0_2.size : Int) <= (200 : Int)))) else (some false)) else (bif (decide (v0_0 = (3 : Int))) then (bif (decide ((1 : Int) <= v0_1)) then (some (decide (v0_2 = (ByteArray.mk #[])))) else (some false)) else (some false))))
def q49_c : VCode :=
 (.seq (.reg [o 1 (.box (t 0)), o 2 (.mv (kb false))])
 (.seq (.seq (.reg [fD 3 0 1, lD 4 3])
 (.blk 0 (.seq (.reg [o 6 (.bin .eql (t 4) (k 0)), mV 5 6])
 (.cond (t 5) (.seq (.reg [fD 7 1 1, lD 8 7, o 9 (.bin .eql (t 8) (k 0)), mV 10 9, og 11 10 true (.fad 2 (t 1)), og 12 10 true (.load false 1 (t 11)), og 13 10 true (.bin .eql (t 12) (ks (⟨#[]⟩))), o 14 (.pick (t 10) (t 13) (kb false)), mV 2 14])
 (.fz [2] .ret))
 (.seq (.reg [o 16 (.bin .eql (t 4) (k 1)), mV 15 16])
 (.cond (t 15) (.seq (.reg [fD 17 2 1, lD 18 17, o 19 (.bin .eql (t 18) (ks (⟨#[]⟩))), mV 2 19])
 (.fz [2] .ret))
 (.seq (.reg [o 21 (.bin .eql (t 4) (k 2)), mV 20 21])
 (.cond (t 20) (.seq (.reg [fD 22 1 1, lD 23 22, o 24 (.bin .eql (t 23) (k 0)), mV 25 24, og 26 25 true (.fad 2 (t 1)), og 27 25 true (.load false 1 (t 26)), og 28 25 true (.lenS (t 27)), og 29 25 true (.bin .leq (t 28) (k 200)), o 30 (.pick (t 25) (t 29) (kb false)), mV 2 30])
 (.fz [2] .ret))
 .skip))))))))
 (.seq (.reg [fD 31 0 1, lD 32 31, o 33 (.bin .eql (t 32) (k 3)), mV 34 33, og 35 34 true (.fad 1 (t 1)), og 36 34 true (.load false 1 (t 35)), og 37 34 true (.bin .geq (t 36) (k 1)), o 38 (.pick (t 34) (t 37) (kb false)), mV 39 38, og 40 39 true (.fad 2 (t 1)), og 41 39 true (.load false 1 (t 40)), og 42 39 true (.bin .eql (t 41) (ks (⟨#[]⟩))), o 43 (.pick (t 39) (t 42) (kb false)), mV 2 43])
 (.fz [2] .ret))))
def q49_F : VFn := ⟨true, 44, [.t 2], q49_c⟩
def q49_f (lo : Lo) : FnE := ⟨284, true, ⟨[0], [.ag [.i .i64, .i .i64, .s]], [], Zc4⟩, .b, [], (cs [.b]), (fun x => q49 lo x.1 x.2.1 x.2.2 : Int × Int × ByteArray -> Option Bool)⟩
theorem q49_e (lo : Lo) : ∀ x : Int × Int × ByteArray, evP (⟨pf, fs49 lo, [], 0⟩ : Tabs) q49_F ⟨[0], [.ag [.i .i64, .i .i64, .s]], [], Zc4⟩ (.b) (cs [.b]) x = q49 lo x.1 x.2.1 x.2.2 := fun x => by kernel_rfl
theorem q49_S {P : Program} {fm : FM} {lo : Lo} (hlo : LoOK lo) (hS : Sound P fm ⟨pf, fs49 lo, [], 0⟩) (hm : P.follows .mixedOrders = true) (htie : Ti P fm 284 q49_F) : Sound P fm ⟨pf, q49_f lo :: fs49 lo, [], 0⟩ :=
  fn_sound hS hm [] (q49_f lo) rfl q49_F htie (by decide) rfl (Nat.le_of_ble_eq_true (by kernel_rfl)) (fun C hT => show LK C _ q49_c from ⟨tv, ⟨⟨tv, ⟨tv, ⟨⟨tv, tv⟩, ⟨tv, ⟨⟨tv, tv⟩, ⟨tv, ⟨⟨tv, tv⟩, tv⟩⟩⟩⟩⟩⟩⟩, ⟨tv, tv⟩⟩⟩) (fun x y h => (q49_e lo x).trans h)
noncomputable def fs50 (lo : Lo) : List FnE := q49_f lo :: fs49 lo
def q50_L3_b : VCode :=
 (.seq (.seq (.reg [mV 4 3, mV 5 0, lN 6 5, o 7 (.bin .lss (t 4) (t 6))])
 (.cond (t 7) .skip
 (.exit 0)))
 (.seq (.blk 1 (.seq (.reg [mV 10 0, mV 11 3, o 12 (.iad 3 (t 10) (t 11)), o 13 (.load true 3 (t 12)), o 14 (.call 284 [(t 13)]), o 15 (.not (t 14))])
 (.cond (t 15) (.seq (.reg [o 2 (.mv (kb false))])
 (.fz [2] .ret))
 .skip)))
 (.reg [mV 8 3, o 9 (.bin .add (t 8) (k 1)), mV 3 9])))
def q50_L3_g : Sg := ⟨[0, 3], [.l Zc4, .i .i64], [], (cs [.l Zc4, I])⟩
def q50_L3_o : List Out1 := [⟨.ret, ⟨[2], [.b], [], (cs [.b])⟩⟩, ⟨.exit 0, ⟨[], [], [], (cs [])⟩⟩]
def q50_L3_s (lo : Lo) : Zt0 × Int -> Option ((Zt0 × Int) ⊕ (Bool ⊕ Unit)) := fun x => match x with
  | (l0, i3) => bif (decide (i3 < (l0.length : Int))) then (chk (0 <= i3 /\ i3 < (l0.length : Int)) (Option.bind (q49 lo ((l0.getD i3.toNat ((0 : Int), (0 : Int), (ByteArray.mk #[]))).1) ((l0.getD i3.toNat ((0 : Int), (0 : Int), (ByteArray.mk #[]))).2.1) ((l0.getD i3.toNat ((0 : Int), (0 : Int), (ByteArray.mk #[]))).2.2)) fun y198 => bif (!y198) then (some (.inr (.inl false))) else (some (.inl (l0, (IntKind.wrap .i64 (i3 + (1 : Int)))))))) else (some (.inr (.inr ())))
theorem q50_L3_e (lo : Lo) : ∀ x : Zt0 × Int, stepL (⟨pf, fs50 lo, [], 0⟩ : Tabs) [] q50_L3_g q50_L3_o q50_L3_b x = q50_L3_s lo x := fun x => by kernel_rfl
def q50_L3 (lo : Lo) : Zt0 × Int -> Option (Bool ⊕ Unit) := lo.run (q50_L3_s lo)
def q50_L3_p (lo : Lo) : LpE := ⟨3, [], q50_L3_g, q50_L3_o, q50_L3 lo⟩
theorem q50_L3_k {lo : Lo} (hlo : LoOK lo) (C : Ctx) (hT : TOK (⟨pf, fs50 lo, [], 0⟩ : Tabs) C) : LpSound (fun _ => False) [] 0 C (.loop q50_L3_b.er) (q50_L3_p lo) :=
  loop_sound hT frNo (show LK C _ q50_L3_b from ⟨⟨tv, ⟨tv, tv⟩⟩, ⟨⟨tv, ⟨⟨tv, tv⟩, tv⟩⟩, tv⟩⟩) (fun x y h => loopO_congr (q50_L3_e lo) (hlo _ _ _ h))
def q50 (lo : Lo) (l0 : List (Int × Int × ByteArray)) : Option Bool :=
  Option.bind (q50_L3 lo (l0, (0 : Int))) fun y199 => alt2 y199 (fun y200 => some y200) (fun y201 => some true)
def q50_c : VCode :=
 (.seq (.reg [o 2 (.mv (kb false))])
 (.seq (.seq (.reg [o 3 (.mv (k 0))])
 (.blk 0 (.loop 3 q50_L3_b)))
 (.seq (.reg [o 2 (.mv (kb true))])
 (.fz [2] .ret))))
def q50_F : VFn := ⟨true, 16, [.t 2], q50_c⟩
def q50_f (lo : Lo) : FnE := ⟨260, true, ⟨[0], [.l Zc4], [], (cs [.l Zc4])⟩, .b, [], (cs [.b]), (fun x => q50 lo x : Zt0 -> Option Bool)⟩
theorem q50_e (lo : Lo) : ∀ x : Zt0, evP (⟨pf, fs50 lo, [q50_L3_p lo], 0⟩ : Tabs) q50_F ⟨[0], [.l Zc4], [], (cs [.l Zc4])⟩ (.b) (cs [.b]) x = q50 lo x := fun x => by kernel_rfl
theorem q50_S {P : Program} {fm : FM} {lo : Lo} (hlo : LoOK lo) (hS : Sound P fm ⟨pf, fs50 lo, [], 0⟩) (hm : P.follows .mixedOrders = true) (htie : Ti P fm 260 q50_F) : Sound P fm ⟨pf, q50_f lo :: fs50 lo, [], 0⟩ :=
  fn_sound hS hm [q50_L3_p lo] (q50_f lo) rfl q50_F htie (by decide) rfl (Nat.le_of_ble_eq_true (by kernel_rfl)) (fun C hT => show LK C _ q50_c from ⟨tv, ⟨⟨tv, (lsGet (by kernel_rfl) (q50_L3_k hlo C (tok_ls hT)))⟩, ⟨tv, tv⟩⟩⟩) (fun x y h => (q50_e lo x).trans h)
noncomputable def fs51 (lo : Lo) : List FnE := q50_f lo :: fs50 lo
def q51_L3_b : VCode :=
 (.seq (.seq (.reg [mV 24 4, fD 25 2 1, lD 26 25, lN 27 26, o 28 (.bin .lss (t 24) (t 27))])
 (.cond (t 28) .skip
 (.exit 0)))
 (.seq (.blk 1 (.seq (.reg [fD 31 2 1, lD 32 31, mV 33 4, o 34 (.iad 2 (t 32) (t 33)), o 35 (.load true 2 (t 34)), o 5 (.alloc [.i .i64 0, .e Zc4]), on (.store 2 (t 5) (t 35))])
 (.seq (.seq (.reg [fD 36 0 5, lD 37 36, mV 38 3, o 39 (.bin .leq (t 37) (t 38))])
 (.cond (t 39) (.seq (.reg [o 2 (.mv (k 1))])
 (.fz [2] .ret))
 .skip))
 (.seq (.reg [fD 40 0 5, lD 41 40, mV 3 41])
 (.seq (.seq (.reg [fD 42 1 5, lD 43 42, lN 44 43, fD 45 1 1, lD 46 45, lN 47 46, o 48 (.bin .neq (t 44) (t 47))])
 (.cond (t 48) (.seq (.reg [o 2 (.mv (k 6))])
 (.fz [2] .ret))
 .skip))
 (.seq (.reg [fD 49 1 5, lD 50 49, o 51 (.call 260 [(t 50)]), o 52 (.not (t 51))])
 (.cond (t 52) (.seq (.reg [o 2 (.mv (k 1))])
 (.fz [2] .ret))
 .skip)))))))
 (.reg [mV 29 4, o 30 (.bin .add (t 29) (k 1)), mV 4 30])))
def q51_L3_g : Sg := ⟨[1, 3, 4], [.ptr 0 0 0, .i .i64, .i .i64], [.st [.s, .l (cs [.s]), .l Zc1]], (cs [I, I, .s, .l (cs [.s]), .l Zc1])⟩
def q51_L3_o : List Out1 := [⟨.ret, ⟨[2], [.i .i64], [], (cs [I])⟩⟩, ⟨.exit 0, ⟨[], [], [], (cs [])⟩⟩]
def q51_L3_s (lo : Lo) : Zp40 -> Option (Zp40 ⊕ (Int ⊕ Unit)) := fun x => match x with
  | (before3, i4, t1_0, t1_1, t1_2) => bif (decide (i4 < (t1_2.length : Int))) then (chk (0 <= i4 /\ i4 < (t1_2.length : Int)) (bif (decide ((t1_2.getD i4.toNat ((0 : Int), [])).1 <= before3)) then (some (.inr (.inl (1 : Int)))) else (bif (!decide ((((t1_2.getD i4.toNat ((0 : Int), [])).2).length : Int) = (t1_1.length : Int))) then (some (.inr (.inl (6 : Int)))) else (Option.bind (q50 lo ((t1_2.getD i4.toNat ((0 : Int), [])).2)) fun y202 => bif (!y202) then (some (.inr (.inl (1 : Int)))) else (some (.inl ((t1_2.getD i4.toNat ((0 : Int), [])).1, (IntKind.wrap .i64 (i4 + (1 : Int))), t1_0, t1_1, t1_2))))))) else (some (.inr (.inr ())))
theorem q51_L3_e (lo : Lo) : ∀ x : Zp40, stepL (⟨pf, fs51 lo, [], 0⟩ : Tabs) [] q51_L3_g q51_L3_o q51_L3_b x = q51_L3_s lo x := fun x => by kernel_rfl
def q51_L3 (lo : Lo) : Zp40 -> Option (Int ⊕ Unit) := lo.run (q51_L3_s lo)
def q51_L3_p (lo : Lo) : LpE := ⟨3, [], q51_L3_g, q51_L3_o, q51_L3 lo⟩
theorem q51_L3_k {lo : Lo} (hlo : LoOK lo) (C : Ctx) (hT : TOK (⟨pf, fs51 lo, [], 0⟩ : Tabs) C) : LpSound (fun _ => False) [] 0 C (.loop q51_L3_b.er) (q51_L3_p lo) :=
  loop_sound hT frNo (show LK C _ q51_L3_b from ⟨⟨tv, ⟨tv, tv⟩⟩, ⟨⟨tv, ⟨⟨tv, ⟨⟨tv, tv⟩, tv⟩⟩, ⟨tv, ⟨⟨tv, ⟨⟨tv, tv⟩, tv⟩⟩, ⟨tv, ⟨⟨tv, tv⟩, tv⟩⟩⟩⟩⟩⟩, tv⟩⟩) (fun x y h => loopO_congr (q51_L3_e lo) (hlo _ _ _ h))
def q51 (lo : Lo) (t0_0 : ByteArray) (t0_1 : List ByteArray) (t0_2 : List (Int × Zt0)) : Option Int :=
  Option.bind (q46 lo t0_0) fun y188 => bif (!y188) then (some (1 : Int)) else (bif (decide ((16 : Int) < (t0_1.length : Int))) then (some (3 : Int)) else (bif (decide ((1000 : Int) < (t0_2.length : Int))) then (some (3 : Int)) else (Option.bind (q48 lo t0_1) fun y197 => bif (!y197) then (some (1 : Int)) else (Option.bind (q51_L3 lo ((0 : Int), (0 : Int), t0_0, t0_1, t0_2)) fun y203 => alt2 y203 (fun y204 => some y204) (fun y205 => some (0 : Int))))))
def q51_c : VCode :=
 (.seq (.reg [o 1 (.box (t 0)), o 2 (.mv (k 0))])
 (.seq (.seq (.reg [fD 6 0 1, lD 7 6, o 8 (.call 258 [(t 7)]), o 9 (.not (t 8))])
 (.cond (t 9) (.seq (.reg [o 2 (.mv (k 1))])
 (.fz [2] .ret))
 .skip))
 (.seq (.seq (.reg [fD 10 1 1, lD 11 10, lN 12 11, o 13 (.bin .gtr (t 12) (k 16)), mV 14 13, og 15 14 false (.fad 2 (t 1)), og 16 14 false (.load false 1 (t 15)), og 17 14 false (.len (t 16)), og 18 14 false (.bin .gtr (t 17) (k 1000)), o 19 (.pick (t 14) (kb true) (t 18))])
 (.cond (t 19) (.seq (.reg [o 2 (.mv (k 3))])
 (.fz [2] .ret))
 .skip))
 (.seq (.seq (.reg [fD 20 1 1, lD 21 20, o 22 (.call 259 [(t 21)]), o 23 (.not (t 22))])
 (.cond (t 23) (.seq (.reg [o 2 (.mv (k 1))])
 (.fz [2] .ret))
 .skip))
 (.seq (.reg [o 3 (.mv (k 0))])
 (.seq (.seq (.reg [o 4 (.mv (k 0))])
 (.blk 0 (.loop 3 q51_L3_b)))
 (.seq (.reg [o 2 (.mv (k 0))])
 (.fz [2] .ret))))))))
def q51_F : VFn := ⟨true, 53, [.t 2], q51_c⟩
def q51_f (lo : Lo) : FnE := ⟨231, true, ⟨[0], [.ag [.s, .l (cs [.s]), .l Zc1]], [], Zc8⟩, .i .i64, [], (cs [I]), (fun x => q51 lo x.1 x.2.1 x.2.2 : ByteArray × Zt2 × Zt3 -> Option Int)⟩
theorem q51_e (lo : Lo) : ∀ x : ByteArray × Zt2 × Zt3, evP (⟨pf, fs51 lo, [q51_L3_p lo], 0⟩ : Tabs) q51_F ⟨[0], [.ag [.s, .l (cs [.s]), .l Zc1]], [], Zc8⟩ (.i .i64) (cs [I]) x = q51 lo x.1 x.2.1 x.2.2 := fun x => by kernel_rfl
theorem q51_S {P : Program} {fm : FM} {lo : Lo} (hlo : LoOK lo) (hS : Sound P fm ⟨pf, fs51 lo, [], 0⟩) (hm : P.follows .mixedOrders = true) (htie : Ti P fm 231 q51_F) : Sound P fm ⟨pf, q51_f lo :: fs51 lo, [], 0⟩ :=
  fn_sound hS hm [q51_L3_p lo] (q51_f lo) rfl q51_F htie (by decide) rfl (Nat.le_of_ble_eq_true (by kernel_rfl)) (fun C hT => show LK C _ q51_c from ⟨tv, ⟨⟨tv, ⟨⟨tv, tv⟩, tv⟩⟩, ⟨⟨tv, ⟨⟨tv, tv⟩, tv⟩⟩, ⟨⟨tv, ⟨⟨tv, tv⟩, tv⟩⟩, ⟨tv, ⟨⟨tv, (lsGet (by kernel_rfl) (q51_L3_k hlo C (tok_ls hT)))⟩, ⟨tv, tv⟩⟩⟩⟩⟩⟩⟩) (fun x y h => (q51_e lo x).trans h)
noncomputable def fs52 (lo : Lo) : List FnE := q51_f lo :: fs51 lo
noncomputable def fs53 (lo : Lo) : List FnE := fs52 lo
end Go.Abs.G03
namespace Go.Abs.G03
open Go Go.Abs
set_option maxRecDepth 100000
set_option maxHeartbeats 1000000
def q53 (lo : Lo) (t0_0 : ByteArray) (t0_1 : List ByteArray) (t0_2 : List (Int × Zt0)) : Option Bool :=
  bif (decide ((t0_2.length : Int) <= (12 : Int))) then (some (decide ((t0_1.length : Int) <= (20 : Int)))) else (some false)
def q53_c : VCode :=
 (.seq (.reg [o 1 (.box (t 0)), o 2 (.mv (kb false))])
 (.seq (.reg [fD 3 2 1, lD 4 3, lN 5 4, o 6 (.bin .leq (t 5) (k 12)), mV 7 6, og 8 7 true (.fad 1 (t 1)), og 9 7 true (.load false 1 (t 8)), og 10 7 true (.len (t 9)), og 11 7 true (.bin .leq (t 10) (k 20)), o 12 (.pick (t 7) (t 11) (kb false)), mV 2 12])
 (.fz [2] .ret)))
def q53_F : VFn := ⟨true, 13, [.t 2], q53_c⟩
def q53_f (lo : Lo) : FnE := ⟨232, true, ⟨[0], [.ag [.s, .l (cs [.s]), .l Zc1]], [], Zc8⟩, .b, [], (cs [.b]), (fun x => q53 lo x.1 x.2.1 x.2.2 : ByteArray × Zt2 × Zt3 -> Option Bool)⟩
theorem q53_e (lo : Lo) : ∀ x : ByteArray × Zt2 × Zt3, evP (⟨pf, fs53 lo, [], 0⟩ : Tabs) q53_F ⟨[0], [.ag [.s, .l (cs [.s]), .l Zc1]], [], Zc8⟩ (.b) (cs [.b]) x = q53 lo x.1 x.2.1 x.2.2 := fun x => by kernel_rfl
theorem q53_S {P : Program} {fm : FM} {lo : Lo} (hlo : LoOK lo) (hS : Sound P fm ⟨pf, fs53 lo, [], 0⟩) (hm : P.follows .mixedOrders = true) (htie : Ti P fm 232 q53_F) : Sound P fm ⟨pf, q53_f lo :: fs53 lo, [], 0⟩ :=
  fn_sound hS hm [] (q53_f lo) rfl q53_F htie (by decide) rfl (Nat.le_of_ble_eq_true (by kernel_rfl)) (fun C hT => show LK C _ q53_c from ⟨tv, ⟨tv, tv⟩⟩) (fun x y h => (q53_e lo x).trans h)
noncomputable def fs54 (lo : Lo) : List FnE := q53_f lo :: fs53 lo
noncomputable def fs55 (lo : Lo) : List FnE := fs54 lo
noncomputable def fs56 (lo : Lo) : List FnE := fs55 lo
noncomputable def fs57 (lo : Lo) : List FnE := fs56 lo
def q57 (lo : Lo) (a0 : Int) (b1 : Int) : Option Int :=
  bif (decide (a0 < b1)) then (some (-1 : Int)) else (bif (decide (b1 < a0)) then (some (1 : Int)) else (some (0 : Int)))
def q57_c : VCode :=
 (.seq (.reg [o 4 (.mv (k 0))])
 (.seq (.seq (.reg [mV 5 0, mV 6 1, o 7 (.bin .lss (t 5) (t 6))])
 (.cond (t 7) (.seq (.reg [o 4 (.mv (k (-1)))])
 (.fz [4] .ret))
 .skip))
 (.seq (.seq (.reg [mV 8 0, mV 9 1, o 10 (.bin .gtr (t 8) (t 9))])
 (.cond (t 10) (.seq (.reg [o 4 (.mv (k 1))])
 (.fz [4] .ret))
 .skip))
 (.seq (.reg [o 4 (.mv (k 0))])
 (.fz [4] .ret)))))
def q57_F : VFn := ⟨true, 11, [.t 4], q57_c⟩
def q57_f (lo : Lo) : FnE := ⟨303, true, ⟨[0, 1], [.i .i64, .i .i64], [], (cs [I, I])⟩, .i .i64, [], (cs [I]), (fun x => q57 lo x.1 x.2 : Int × Int -> Option Int)⟩
theorem q57_e (lo : Lo) : ∀ x : Int × Int, evP (⟨pf, fs57 lo, [], 0⟩ : Tabs) q57_F ⟨[0, 1], [.i .i64, .i .i64], [], (cs [I, I])⟩ (.i .i64) (cs [I]) x = q57 lo x.1 x.2 := fun x => by kernel_rfl
theorem q57_S {P : Program} {fm : FM} {lo : Lo} (hlo : LoOK lo) (hS : Sound P fm ⟨pf, fs57 lo, [], 0⟩) (hm : P.follows .mixedOrders = true) (htie : Ti P fm 303 q57_F) : Sound P fm ⟨pf, q57_f lo :: fs57 lo, [], 0⟩ :=
  fn_sound hS hm [] (q57_f lo) rfl q57_F htie (by decide) rfl (Nat.le_of_ble_eq_true (by kernel_rfl)) (fun C hT => show LK C _ q57_c from ⟨tv, ⟨⟨tv, ⟨⟨tv, tv⟩, tv⟩⟩, ⟨⟨tv, ⟨⟨tv, tv⟩, tv⟩⟩, ⟨tv, tv⟩⟩⟩⟩) (fun x y h => (q57_e lo x).trans h)
noncomputable def fs58 (lo : Lo) : List FnE := q57_f lo :: fs57 lo
def q58_L3_b : VCode :=
 (.seq (.seq (.reg [mV 6 5, mV 7 0, o 8 (.lenS (t 7)), o 9 (.bin .lss (t 6) (t 8)), mV 10 9, og 11 10 true (.mv (t 5)), og 12 10 true (.mv (t 1)), og 13 10 true (.lenS (t 12)), og 14 10 true (.bin .lss (t 11) (t 13)), o 15 (.pick (t 10) (t 14) (kb false))])
 (.cond (t 15) .skip
 (.exit 0)))
 (.seq (.blk 1 (.seq (.reg [mV 18 0, mV 19 5, o 20 (.idx (t 18) (t 19)), mV 21 1, mV 22 5, o 23 (.idx (t 21) (t 22)), o 24 (.bin .neq (t 20) (t 23))])
 (.cond (t 24) (.seq (.reg [mV 25 0, mV 26 5, o 27 (.idx (t 25) (t 26)), o 28 (.conv .i64 (t 27)), mV 29 1, mV 30 5, o 31 (.idx (t 29) (t 30)), o 32 (.conv .i64 (t 31)), o 33 (.call 303 [(t 28), (t 32)]), mV 4 33])
 (.fz [4] .ret))
 .skip)))
 (.reg [mV 16 5, o 17 (.bin .add (t 16) (k 1)), mV 5 17])))
def q58_L3_g : Sg := ⟨[0, 1, 5], [.s, .s, .i .i64], [], (cs [.s, .s, I])⟩
def q58_L3_o : List Out1 := [⟨.ret, ⟨[4], [.i .i64], [], (cs [I])⟩⟩, ⟨.exit 0, ⟨[0, 1], [.s, .s], [], (cs [.s, .s])⟩⟩]
def q58_L3_s (lo : Lo) : ByteArray × ByteArray × Int -> Option ((ByteArray × ByteArray × Int) ⊕ (Int ⊕ (ByteArray × ByteArray))) := fun x => match x with
  | (a0, b1, i5) => bif (decide (i5 < (a0.size : Int))) then (bif (decide (i5 < (b1.size : Int))) then (chk (0 <= i5 /\ i5 < (a0.size : Int)) (chk (0 <= i5 /\ i5 < (b1.size : Int)) (bif (!decide ((byteI a0 i5) = (byteI b1 i5))) then (chk (0 <= i5 /\ i5 < (a0.size : Int)) (chk (0 <= i5 /\ i5 < (b1.size : Int)) (Option.bind (q57 lo (IntKind.wrap .i64 (byteI a0 i5)) (IntKind.wrap .i64 (byteI b1 i5))) fun y222 => some (.inr (.inl y222))))) else (some (.inl (a0, b1, (IntKind.wrap .i64 (i5 + (1 : Int))))))))) else (some (.inr (.inr (a0, b1))))) else (some (.inr (.inr (a0, b1))))
theorem q58_L3_e (lo : Lo) : ∀ x : ByteArray × ByteArray × Int, stepL (⟨pf, fs58 lo, [], 0⟩ : Tabs) [] q58_L3_g q58_L3_o q58_L3_b x = q58_L3_s lo x := fun x => by kernel_rfl
def q58_L3 (lo : Lo) : ByteArray × ByteArray × Int -> Option (Int ⊕ (ByteArray × ByteArray)) := lo.run (q58_L3_s lo)
def q58_L3_p (lo : Lo) : LpE := ⟨3, [], q58_L3_g, q58_L3_o, q58_L3 lo⟩
theorem q58_L3_k {lo : Lo} (hlo : LoOK lo) (C : Ctx) (hT : TOK (⟨pf, fs58 lo, [], 0⟩ : Tabs) C) : LpSound (fun _ => False) [] 0 C (.loop q58_L3_b.er) (q58_L3_p lo) :=
  loop_sound hT frNo (show LK C _ q58_L3_b from ⟨⟨tv, ⟨tv, tv⟩⟩, ⟨⟨tv, ⟨⟨tv, tv⟩, tv⟩⟩, tv⟩⟩) (fun x y h => loopO_congr (q58_L3_e lo) (hlo _ _ _ h))
def q58 (lo : Lo) (a0 : ByteArray) (b1 : ByteArray) : Option Int :=
  Option.bind (q58_L3 lo (a0, b1, (0 : Int))) fun y223 => alt2 y223 (fun y224 => some y224) (fun y225 => Option.bind (q57 lo (y225.1.size : Int) (y225.2.size : Int)) fun y226 => some y226)
def q58_c : VCode :=
 (.seq (.reg [o 4 (.mv (k 0))])
 (.seq (.seq (.reg [o 5 (.mv (k 0))])
 (.blk 0 (.loop 3 q58_L3_b)))
 (.seq (.reg [mV 34 0, o 35 (.lenS (t 34)), mV 36 1, o 37 (.lenS (t 36)), o 38 (.call 303 [(t 35), (t 37)]), mV 4 38])
 (.fz [4] .ret))))
def q58_F : VFn := ⟨true, 39, [.t 4], q58_c⟩
def q58_f (lo : Lo) : FnE := ⟨320, true, ⟨[0, 1], [.s, .s], [], (cs [.s, .s])⟩, .i .i64, [], (cs [I]), (fun x => q58 lo x.1 x.2 : ByteArray × ByteArray -> Option Int)⟩
theorem q58_e (lo : Lo) : ∀ x : ByteArray × ByteArray, evP (⟨pf, fs58 lo, [q58_L3_p lo], 0⟩ : Tabs) q58_F ⟨[0, 1], [.s, .s], [], (cs [.s, .s])⟩ (.i .i64) (cs [I]) x = q58 lo x.1 x.2 := fun x => by kernel_rfl
theorem q58_S {P : Program} {fm : FM} {lo : Lo} (hlo : LoOK lo) (hS : Sound P fm ⟨pf, fs58 lo, [], 0⟩) (hm : P.follows .mixedOrders = true) (htie : Ti P fm 320 q58_F) : Sound P fm ⟨pf, q58_f lo :: fs58 lo, [], 0⟩ :=
  fn_sound hS hm [q58_L3_p lo] (q58_f lo) rfl q58_F htie (by decide) rfl (Nat.le_of_ble_eq_true (by kernel_rfl)) (fun C hT => show LK C _ q58_c from ⟨tv, ⟨⟨tv, (lsGet (by kernel_rfl) (q58_L3_k hlo C (tok_ls hT)))⟩, ⟨tv, tv⟩⟩⟩) (fun x y h => (q58_e lo x).trans h)
noncomputable def fs59 (lo : Lo) : List FnE := q58_f lo :: fs58 lo
def q59 (lo : Lo) (a0_0 : Int) (a0_1 : Int) (a0_2 : ByteArray) (b1_0 : Int) (b1_1 : Int) (b1_2 : ByteArray) : Option Int :=
  Option.bind (q57 lo a0_0 b1_0) fun y220 => bif (!decide (y220 = (0 : Int))) then (some y220) else (Option.bind (q57 lo a0_1 b1_1) fun y221 => bif (!decide (y221 = (0 : Int))) then (some y221) else (Option.bind (q58 lo a0_2 b1_2) fun y227 => some y227))
def q59_c : VCode :=
 (.seq (.reg [o 2 (.box (t 0)), o 3 (.box (t 1)), o 4 (.mv (k 0))])
 (.seq (.seq (.reg [fD 7 0 2, lD 8 7, fD 9 0 3, lD 10 9, o 11 (.call 303 [(t 8), (t 10)]), mV 5 11])
 (.seq (.reg [mV 12 5, o 13 (.bin .neq (t 12) (k 0))])
 (.cond (t 13) (.seq (.reg [mV 14 5, mV 4 14])
 (.fz [4] .ret))
 .skip)))
 (.seq (.seq (.reg [fD 15 1 2, lD 16 15, fD 17 1 3, lD 18 17, o 19 (.call 303 [(t 16), (t 18)]), mV 6 19])
 (.seq (.reg [mV 20 6, o 21 (.bin .neq (t 20) (k 0))])
 (.cond (t 21) (.seq (.reg [mV 22 6, mV 4 22])
 (.fz [4] .ret))
 .skip)))
 (.seq (.reg [fD 23 2 2, lD 24 23, fD 25 2 3, lD 26 25, o 27 (.call 320 [(t 24), (t 26)]), mV 4 27])
 (.fz [4] .ret)))))
def q59_F : VFn := ⟨true, 28, [.t 4], q59_c⟩
def q59_f (lo : Lo) : FnE := ⟨302, true, ⟨[0, 1], [.ag [.i .i64, .i .i64, .s], .ag [.i .i64, .i .i64, .s]], [], (cs [I, I, .s, I, I, .s])⟩, .i .i64, [], (cs [I]), (fun x => q59 lo x.1 x.2.1 x.2.2.1 x.2.2.2.1 x.2.2.2.2.1 x.2.2.2.2.2 : Int × Int × ByteArray × Int × Int × ByteArray -> Option Int)⟩
theorem q59_e (lo : Lo) : ∀ x : Int × Int × ByteArray × Int × Int × ByteArray, evP (⟨pf, fs59 lo, [], 0⟩ : Tabs) q59_F ⟨[0, 1], [.ag [.i .i64, .i .i64, .s], .ag [.i .i64, .i .i64, .s]], [], (cs [I, I, .s, I, I, .s])⟩ (.i .i64) (cs [I]) x = q59 lo x.1 x.2.1 x.2.2.1 x.2.2.2.1 x.2.2.2.2.1 x.2.2.2.2.2 := fun x => by kernel_rfl
theorem q59_S {P : Program} {fm : FM} {lo : Lo} (hlo : LoOK lo) (hS : Sound P fm ⟨pf, fs59 lo, [], 0⟩) (hm : P.follows .mixedOrders = true) (htie : Ti P fm 302 q59_F) : Sound P fm ⟨pf, q59_f lo :: fs59 lo, [], 0⟩ :=
  fn_sound hS hm [] (q59_f lo) rfl q59_F htie (by decide) rfl (Nat.le_of_ble_eq_true (by kernel_rfl)) (fun C hT => show LK C _ q59_c from ⟨tv, ⟨⟨tv, ⟨tv, ⟨⟨tv, tv⟩, tv⟩⟩⟩, ⟨⟨tv, ⟨tv, ⟨⟨tv, tv⟩, tv⟩⟩⟩, ⟨tv, tv⟩⟩⟩⟩) (fun x y h => (q59_e lo x).trans h)
noncomputable def fs60 (lo : Lo) : List FnE := q59_f lo :: fs59 lo
def q60_L3_b : VCode :=
 (.seq (.seq (.reg [mV 7 5, mV 8 0, lN 9 8, o 10 (.bin .lss (t 7) (t 9)), mV 11 10, og 12 11 true (.mv (t 5)), og 13 11 true (.mv (t 1)), og 14 11 true (.len (t 13)), og 15 11 true (.bin .lss (t 12) (t 14)), o 16 (.pick (t 11) (t 15) (kb false))])
 (.cond (t 16) .skip
 (.exit 0)))
 (.seq (.blk 1 (.seq (.reg [mV 19 0, mV 20 5, o 21 (.iad 3 (t 19) (t 20)), o 22 (.load true 3 (t 21)), mV 23 1, mV 24 5, o 25 (.iad 3 (t 23) (t 24)), o 26 (.load true 3 (t 25)), o 27 (.call 302 [(t 22), (t 26)]), mV 6 27])
 (.seq (.reg [mV 28 6, o 29 (.bin .neq (t 28) (k 0))])
 (.cond (t 29) (.seq (.reg [mV 30 6, mV 4 30])
 (.fz [4] .ret))
 .skip))))
 (.reg [mV 17 5, o 18 (.bin .add (t 17) (k 1)), mV 5 18])))
def q60_L3_g : Sg := ⟨[0, 1, 5], [.l Zc4, .l Zc4, .i .i64], [], (cs [.l Zc4, .l Zc4, I])⟩
def q60_L3_o : List Out1 := [⟨.ret, ⟨[4], [.i .i64], [], (cs [I])⟩⟩, ⟨.exit 0, ⟨[0, 1], [.l Zc4, .l Zc4], [], (cs [.l Zc4, .l Zc4])⟩⟩]
def q60_L3_s (lo : Lo) : Zt0 × Zt0 × Int -> Option ((Zt0 × Zt0 × Int) ⊕ (Int ⊕ (Zt0 × Zt0))) := fun x => match x with
  | (a0, b1, i5) => bif (decide (i5 < (a0.length : Int))) then (bif (decide (i5 < (b1.length : Int))) then (chk (0 <= i5 /\ i5 < (a0.length : Int)) (chk (0 <= i5 /\ i5 < (b1.length : Int)) (Option.bind (q59 lo ((a0.getD i5.toNat ((0 : Int), (0 : Int), (ByteArray.mk #[]))).1) ((a0.getD i5.toNat ((0 : Int), (0 : Int), (ByteArray.mk #[]))).2.1) ((a0.getD i5.toNat ((0 : Int), (0 : Int), (ByteArray.mk #[]))).2.2) ((b1.getD i5.toNat ((0 : Int), (0 : Int), (ByteArray.mk #[]))).1) ((b1.getD i5.toNat ((0 : Int), (0 : Int), (ByteArray.mk #[]))).2.1) ((b1.getD i5.toNat ((0 : Int), (0 : Int), (ByteArray.mk #[]))).2.2)) fun y228 => bif (!decide (y228 = (0 : Int))) then (some (.inr (.inl y228))) else (some (.inl (a0, b1, (IntKind.wrap .i64 (i5 + (1 : Int))))))))) else (some (.inr (.inr (a0, b1))))) else (some (.inr (.inr (a0, b1))))
theorem q60_L3_e (lo : Lo) : ∀ x : Zt0 × Zt0 × Int, stepL (⟨pf, fs60 lo, [], 0⟩ : Tabs) [] q60_L3_g q60_L3_o q60_L3_b x = q60_L3_s lo x := fun x => by kernel_rfl
def q60_L3 (lo : Lo) : Zt0 × Zt0 × Int -> Option (Int ⊕ (Zt0 × Zt0)) := lo.run (q60_L3_s lo)
def q60_L3_p (lo : Lo) : LpE := ⟨3, [], q60_L3_g, q60_L3_o, q60_L3 lo⟩
theorem q60_L3_k {lo : Lo} (hlo : LoOK lo) (C : Ctx) (hT : TOK (⟨pf, fs60 lo, [], 0⟩ : Tabs) C) : LpSound (fun _ => False) [] 0 C (.loop q60_L3_b.er) (q60_L3_p lo) :=
  loop_sound hT frNo (show LK C _ q60_L3_b from ⟨⟨tv, ⟨tv, tv⟩⟩, ⟨⟨tv, ⟨tv, ⟨⟨tv, tv⟩, tv⟩⟩⟩, tv⟩⟩) (fun x y h => loopO_congr (q60_L3_e lo) (hlo _ _ _ h))
def q60 (lo : Lo) (a0 : List (Int × Int × ByteArray)) (b1 : List (Int × Int × ByteArray)) : Option Int :=
  Option.bind (q60_L3 lo (a0, b1, (0 : Int))) fun y229 => alt2 y229 (fun y230 => some y230) (fun y231 => Option.bind (q57 lo (y231.1.length : Int) (y231.2.length : Int)) fun y232 => some y232)
def q60_c : VCode :=
 (.seq (.reg [o 4 (.mv (k 0))])
 (.seq (.seq (.reg [o 5 (.mv (k 0))])
 (.blk 0 (.loop 3 q60_L3_b)))
 (.seq (.reg [mV 31 0, lN 32 31, mV 33 1, lN 34 33, o 35 (.call 303 [(t 32), (t 34)]), mV 4 35])
 (.fz [4] .ret))))
def q60_F : VFn := ⟨true, 36, [.t 4], q60_c⟩
def q60_f (lo : Lo) : FnE := ⟨274, true, ⟨[0, 1], [.l Zc4, .l Zc4], [], (cs [.l Zc4, .l Zc4])⟩, .i .i64, [], (cs [I]), (fun x => q60 lo x.1 x.2 : Zt0 × Zt0 -> Option Int)⟩
theorem q60_e (lo : Lo) : ∀ x : Zt0 × Zt0, evP (⟨pf, fs60 lo, [q60_L3_p lo], 0⟩ : Tabs) q60_F ⟨[0, 1], [.l Zc4, .l Zc4], [], (cs [.l Zc4, .l Zc4])⟩ (.i .i64) (cs [I]) x = q60 lo x.1 x.2 := fun x => by kernel_rfl
theorem q60_S {P : Program} {fm : FM} {lo : Lo} (hlo : LoOK lo) (hS : Sound P fm ⟨pf, fs60 lo, [], 0⟩) (hm : P.follows .mixedOrders = true) (htie : Ti P fm 274 q60_F) : Sound P fm ⟨pf, q60_f lo :: fs60 lo, [], 0⟩ :=
  fn_sound hS hm [q60_L3_p lo] (q60_f lo) rfl q60_F htie (by decide) rfl (Nat.le_of_ble_eq_true (by kernel_rfl)) (fun C hT => show LK C _ q60_c from ⟨tv, ⟨⟨tv, (lsGet (by kernel_rfl) (q60_L3_k hlo C (tok_ls hT)))⟩, ⟨tv, tv⟩⟩⟩) (fun x y h => (q60_e lo x).trans h)
noncomputable def fs61 (lo : Lo) : List FnE := q60_f lo :: fs60 lo
def q61 (lo : Lo) (a0 : List (Int × Int × ByteArray)) (b1 : List (Int × Int × ByteArray)) : Option Bool :=
  Option.bind (q60 lo a0 b1) fun y233 => some (decide (y233 = (0 : Int)))
def q61_c : VCode :=
 (.seq (.reg [o 4 (.mv (kb false))])
 (.seq (.reg [mV 5 0, mV 6 1, o 7 (.call 274 [(t 5), (t 6)]), o 8 (.bin .eql (t 7) (k 0)), mV 4 8])
 (.fz [4] .ret)))
def q61_F : VFn := ⟨true, 9, [.t 4], q61_c⟩
def q61_f (lo : Lo) : FnE := ⟨297, true, ⟨[0, 1], [.l Zc4, .l Zc4], [], (cs [.l Zc4, .l Zc4])⟩, .b, [], (cs [.b]), (fun x => q61 lo x.1 x.2 : Zt0 × Zt0 -> Option Bool)⟩
theorem q61_e (lo : Lo) : ∀ x : Zt0 × Zt0, evP (⟨pf, fs61 lo, [], 0⟩ : Tabs) q61_F ⟨[0, 1], [.l Zc4, .l Zc4], [], (cs [.l Zc4, .l Zc4])⟩ (.b) (cs [.b]) x = q61 lo x.1 x.2 := fun x => by kernel_rfl
theorem q61_S {P : Program} {fm : FM} {lo : Lo} (hlo : LoOK lo) (hS : Sound P fm ⟨pf, fs61 lo, [], 0⟩) (hm : P.follows .mixedOrders = true) (htie : Ti P fm 297 q61_F) : Sound P fm ⟨pf, q61_f lo :: fs61 lo, [], 0⟩ :=
  fn_sound hS hm [] (q61_f lo) rfl q61_F htie (by decide) rfl (Nat.le_of_ble_eq_true (by kernel_rfl)) (fun C hT => show LK C _ q61_c from ⟨tv, ⟨tv, tv⟩⟩) (fun x y h => (q61_e lo x).trans h)
noncomputable def fs62 (lo : Lo) : List FnE := q61_f lo :: fs61 lo
noncomputable def fs63 (lo : Lo) : List FnE := fs62 lo
noncomputable def fs64 (lo : Lo) : List FnE := fs63 lo
def q64_L3_b : VCode :=
 (.seq (.seq (.reg [mV 11 5, mV 12 0, lN 13 12, o 14 (.bin .lss (t 11) (t 13))])
 (.cond (t 14) .skip
 (.exit 0)))
 (.seq (.blk 1 (.seq (.reg [mV 17 0, mV 18 5, o 19 (.iad 1 (t 17) (t 18)), lD 20 19, mV 21 1, mV 22 5, o 23 (.iad 1 (t 21) (t 22)), lD 24 23, o 25 (.bin .neq (t 20) (t 24))])
 (.cond (t 25) (.seq (.reg [o 4 (.mv (kb false))])
 (.fz [4] .ret))
 .skip)))
 (.reg [mV 15 5, o 16 (.bin .add (t 15) (k 1)), mV 5 16])))
def q64_L3_g : Sg := ⟨[0, 1, 5], [.l (cs [.s]), .l (cs [.s]), .i .i64], [], (cs [.l (cs [.s]), .l (cs [.s]), I])⟩
def q64_L3_o : List Out1 := [⟨.ret, ⟨[4], [.b], [], (cs [.b])⟩⟩, ⟨.exit 0, ⟨[], [], [], (cs [])⟩⟩]
def q64_L3_s (lo : Lo) : Zt2 × Zt2 × Int -> Option ((Zt2 × Zt2 × Int) ⊕ (Bool ⊕ Unit)) := fun x => match x with
  | (a0, b1, i5) => bif (decide (i5 < (a0.length : Int))) then (chk (0 <= i5 /\ i5 < (a0.length : Int)) (chk (0 <= i5 /\ i5 < (b1.length : Int)) (bif (!decide ((a0.getD i5.toNat (ByteArray.mk #[])) = (b1.getD i5.toNat (ByteArray.mk #[])))) then (some (.inr (.inl false))) else (some (.inl (a0, b1, (IntKind.wrap .i64 (i5 + (1 : Int))))))))) else (some (.inr (.inr ())))
theorem q64_L3_e (lo : Lo) : ∀ x : Zt2 × Zt2 × Int, stepL (⟨pf, fs64 lo, [], 0⟩ : Tabs) [] q64_L3_g q64_L3_o q64_L3_b x = q64_L3_s lo x := fun x => by kernel_rfl
def q64_L3 (lo : Lo) : Zt2 × Zt2 × Int -> Option (Bool ⊕ Unit) := lo.run (q64_L3_s lo)
def q64_L3_p (lo : Lo) : LpE := ⟨3, [], q64_L3_g, q64_L3_o, q64_L3 lo⟩
theorem q64_L3_k {lo : Lo} (hlo : LoOK lo) (C : Ctx) (hT : TOK (⟨pf, fs64 lo, [], 0⟩ : Tabs) C) : LpSound (fun _ => False) [] 0 C (.loop q64_L3_b.er) (q64_L3_p lo) :=
  loop_sound hT frNo (show LK C _ q64_L3_b from ⟨⟨tv, ⟨tv, tv⟩⟩, ⟨⟨tv, ⟨⟨tv, tv⟩, tv⟩⟩, tv⟩⟩) (fun x y h => loopO_congr (q64_L3_e lo) (hlo _ _ _ h))
def q64 (lo : Lo) (a0 : List ByteArray) (b1 : List ByteArray) : Option Bool :=
  bif (!decide ((a0.length : Int) = (b1.length : Int))) then (some false) else (Option.bind (q64_L3 lo (a0, b1, (0 : Int))) fun y241 => alt2 y241 (fun y242 => some y242) (fun y243 => some true))
def q64_c : VCode :=
 (.seq (.reg [o 4 (.mv (kb false))])
 (.seq (.seq (.reg [mV 6 0, lN 7 6, mV 8 1, lN 9 8, o 10 (.bin .neq (t 7) (t 9))])
 (.cond (t 10) (.seq (.reg [o 4 (.mv (kb false))])
 (.fz [4] .ret))
 .skip))
 (.seq (.seq (.reg [o 5 (.mv (k 0))])
 (.blk 0 (.loop 3 q64_L3_b)))
 (.seq (.reg [o 4 (.mv (kb true))])
 (.fz [4] .ret)))))
def q64_F : VFn := ⟨true, 26, [.t 4], q64_c⟩
def q64_f (lo : Lo) : FnE := ⟨265, true, ⟨[0, 1], [.l (cs [.s]), .l (cs [.s])], [], (cs [.l (cs [.s]), .l (cs [.s])])⟩, .b, [], (cs [.b]), (fun x => q64 lo x.1 x.2 : Zt2 × Zt2 -> Option Bool)⟩
theorem q64_e (lo : Lo) : ∀ x : Zt2 × Zt2, evP (⟨pf, fs64 lo, [q64_L3_p lo], 0⟩ : Tabs) q64_F ⟨[0, 1], [.l (cs [.s]), .l (cs [.s])], [], (cs [.l (cs [.s]), .l (cs [.s])])⟩ (.b) (cs [.b]) x = q64 lo x.1 x.2 := fun x => by kernel_rfl
theorem q64_S {P : Program} {fm : FM} {lo : Lo} (hlo : LoOK lo) (hS : Sound P fm ⟨pf, fs64 lo, [], 0⟩) (hm : P.follows .mixedOrders = true) (htie : Ti P fm 265 q64_F) : Sound P fm ⟨pf, q64_f lo :: fs64 lo, [], 0⟩ :=
  fn_sound hS hm [q64_L3_p lo] (q64_f lo) rfl q64_F htie (by decide) rfl (Nat.le_of_ble_eq_true (by kernel_rfl)) (fun C hT => show LK C _ q64_c from ⟨tv, ⟨⟨tv, ⟨⟨tv, tv⟩, tv⟩⟩, ⟨⟨tv, (lsGet (by kernel_rfl) (q64_L3_k hlo C (tok_ls hT)))⟩, ⟨tv, tv⟩⟩⟩⟩) (fun x y h => (q64_e lo x).trans h)
noncomputable def fs65 (lo : Lo) : List FnE := q64_f lo :: fs64 lo
def q65 (lo : Lo) (a0_0 : Int) (a0_1 : List (Int × Int × ByteArray)) (b1_0 : Int) (b1_1 : List (Int × Int × ByteArray)) : Option Bool :=
  bif (decide (a0_0 = b1_0)) then (Option.bind (q61 lo a0_1 b1_1) fun y245 => some y245) else (some false)
def q65_c : VCode :=
 (.seq (.reg [o 2 (.box (t 0)), o 3 (.box (t 1)), o 4 (.mv (kb false))])
 (.seq (.reg [fD 5 0 2, lD 6 5, fD 7 0 3, lD 8 7, o 9 (.bin .eql (t 6) (t 8)), mV 10 9, og 11 10 true (.fad 1 (t 2)), og 12 10 true (.load false 1 (t 11)), og 13 10 true (.fad 1 (t 3)), og 14 10 true (.load false 1 (t 13)), og 15 10 true (.call 297 [(t 12), (t 14)]), o 16 (.pick (t 10) (t 15) (kb false)), mV 4 16])
 (.fz [4] .ret)))
def q65_F : VFn := ⟨true, 17, [.t 4], q65_c⟩
def q65_f (lo : Lo) : FnE := ⟨266, true, ⟨[0, 1], [.ag [.i .i64, .l Zc4], .ag [.i .i64, .l Zc4]], [], (cs [I, .l Zc4, I, .l Zc4])⟩, .b, [], (cs [.b]), (fun x => q65 lo x.1 x.2.1 x.2.2.1 x.2.2.2 : Int × Zt0 × Int × Zt0 -> Option Bool)⟩
theorem q65_e (lo : Lo) : ∀ x : Int × Zt0 × Int × Zt0, evP (⟨pf, fs65 lo, [], 0⟩ : Tabs) q65_F ⟨[0, 1], [.ag [.i .i64, .l Zc4], .ag [.i .i64, .l Zc4]], [], (cs [I, .l Zc4, I, .l Zc4])⟩ (.b) (cs [.b]) x = q65 lo x.1 x.2.1 x.2.2.1 x.2.2.2 := fun x => by kernel_rfl
theorem q65_S {P : Program} {fm : FM} {lo : Lo} (hlo : LoOK lo) (hS : Sound P fm ⟨pf, fs65 lo, [], 0⟩) (hm : P.follows .mixedOrders = true) (htie : Ti P fm 266 q65_F) : Sound P fm ⟨pf, q65_f lo :: fs65 lo, [], 0⟩ :=
  fn_sound hS hm [] (q65_f lo) rfl q65_F htie (by decide) rfl (Nat.le_of_ble_eq_true (by kernel_rfl)) (fun C hT => show LK C _ q65_c from ⟨tv, ⟨tv, tv⟩⟩) (fun x y h => (q65_e lo x).trans h)
noncomputable def fs66 (lo : Lo) : List FnE := q65_f lo :: fs65 lo
end Go.Abs.G03
namespace Go.Abs.G03
open Go Go.Abs
set_option maxRecDepth 100000
set_option maxHeartbeats 1000000
def q66_L3_b : VCode :=
 (.seq (.seq (.reg [mV 28 5, fD 29 2 2, lD 30 29, lN 31 30, o 32 (.bin .lss (t 28) (t 31))])
 (.cond (t 32) .skip
 (.exit 0)))
 (.seq (.blk 1 (.seq (.reg [fD 35 2 2, lD 36 35, mV 37 5, o 38 (.iad 2 (t 36) (t 37)), o 39 (.load true 2 (t 38)), fD 40 2 3, lD 41 40, mV 42 5, o 43 (.iad 2 (t 41) (t 42)), o 44 (.load true 2 (t 43)), o 45 (.call 266 [(t 39), (t 44)]), o 46 (.not (t 45))])
 (.cond (t 46) (.seq (.reg [o 4 (.mv (kb false))])
 (.fz [4] .ret))
 .skip)))
 (.reg [mV 33 5, o 34 (.bin .add (t 33) (k 1)), mV 5 34])))
def q66_L3_g : Sg := ⟨[2, 3, 5], [.ptr 0 0 0, .ptr 1 0 0, .i .i64], [.st [.s, .l (cs [.s]), .l Zc1], .st [.s, .l (cs [.s]), .l Zc1]], (cs [I, .s, .l (cs [.s]), .l Zc1, .s, .l (cs [.s]), .l Zc1])⟩
def q66_L3_o : List Out1 := [⟨.ret, ⟨[4], [.b], [], (cs [.b])⟩⟩, ⟨.exit 0, ⟨[], [], [], (cs [])⟩⟩]
def q66_L3_s (lo : Lo) : Zp33 -> Option (Zp33 ⊕ (Bool ⊕ Unit)) := fun x => match x with
  | (i5, a2_0, a2_1, a2_2, b3_0, b3_1, b3_2) => bif (decide (i5 < (a2_2.length : Int))) then (chk (0 <= i5 /\ i5 < (a2_2.length : Int)) (chk (0 <= i5 /\ i5 < (b3_2.length : Int)) (Option.bind (q65 lo ((a2_2.getD i5.toNat ((0 : Int), [])).1) ((a2_2.getD i5.toNat ((0 : Int), [])).2) ((b3_2.getD i5.toNat ((0 : Int), [])).1) ((b3_2.getD i5.toNat ((0 : Int), [])).2)) fun y246 => bif (!y246) then (some (.inr (.inl false))) else (some (.inl ((IntKind.wrap .i64 (i5 + (1 : Int))), a2_0, a2_1, a2_2, b3_0, b3_1, b3_2)))))) else (some (.inr (.inr ())))
theorem q66_L3_e (lo : Lo) : ∀ x : Zp33, stepL (⟨pf, fs66 lo, [], 0⟩ : Tabs) [] q66_L3_g q66_L3_o q66_L3_b x = q66_L3_s lo x := fun x => by kernel_rfl
def q66_L3 (lo : Lo) : Zp33 -> Option (Bool ⊕ Unit) := lo.run (q66_L3_s lo)
def q66_L3_p (lo : Lo) : LpE := ⟨3, [], q66_L3_g, q66_L3_o, q66_L3 lo⟩
theorem q66_L3_k {lo : Lo} (hlo : LoOK lo) (C : Ctx) (hT : TOK (⟨pf, fs66 lo, [], 0⟩ : Tabs) C) : LpSound (fun _ => False) [] 0 C (.loop q66_L3_b.er) (q66_L3_p lo) :=
  loop_sound hT frNo (show LK C _ q66_L3_b from ⟨⟨tv, ⟨tv, tv⟩⟩, ⟨⟨tv, ⟨⟨tv, tv⟩, tv⟩⟩, tv⟩⟩) (fun x y h => loopO_congr (q66_L3_e lo) (hlo _ _ _ h))
def q66 (lo : Lo) (a0_0 : ByteArray) (a0_1 : List ByteArray) (a0_2 : List (Int × Zt0)) (b1_0 : ByteArray) (b1_1 : List ByteArray) (b1_2 : List (Int × Zt0)) : Option Bool :=
  bif (!decide (a0_0 = b1_0)) then (some false) else (Option.bind (q64 lo a0_1 b1_1) fun y244 => bif (!y244) then (some false) else (bif (!decide ((a0_2.length : Int) = (b1_2.length : Int))) then (some false) else (Option.bind (q66_L3 lo ((0 : Int), a0_0, a0_1, a0_2, b1_0, b1_1, b1_2)) fun y247 => alt2 y247 (fun y248 => some y248) (fun y249 => some true))))
def q66_c : VCode :=
 (.seq (.reg [o 2 (.box (t 0)), o 3 (.box (t 1)), o 4 (.mv (kb false))])
 (.seq (.seq (.reg [fD 6 0 2, lD 7 6, fD 8 0 3, lD 9 8, o 10 (.bin .neq (t 7) (t 9)), mV 11 10, og 12 11 false (.fad 1 (t 2)), og 13 11 false (.load false 1 (t 12)), og 14 11 false (.fad 1 (t 3)), og 15 11 false (.load false 1 (t 14)), og 16 11 false (.call 265 [(t 13), (t 15)]), og 17 11 false (.not (t 16)), o 18 (.pick (t 11) (kb true) (t 17)), mV 19 18, og 20 19 false (.fad 2 (t 2)), og 21 19 false (.load false 1 (t 20)), og 22 19 false (.len (t 21)), og 23 19 false (.fad 2 (t 3)), og 24 19 false (.load false 1 (t 23)), og 25 19 false (.len (t 24)), og 26 19 false (.bin .neq (t 22) (t 25)), o 27 (.pick (t 19) (kb true) (t 26))])
 (.cond (t 27) (.seq (.reg [o 4 (.mv (kb false))])
 (.fz [4] .ret))
 .skip))
 (.seq (.seq (.reg [o 5 (.mv (k 0))])
 (.blk 0 (.loop 3 q66_L3_b)))
 (.seq (.reg [o 4 (.mv (kb true))])
 (.fz [4] .ret)))))
def q66_F : VFn := ⟨true, 47, [.t 4], q66_c⟩
def q66_f (lo : Lo) : FnE := ⟨235, true, ⟨[0, 1], [.ag [.s, .l (cs [.s]), .l Zc1], .ag [.s, .l (cs [.s]), .l Zc1]], [], Zc7⟩, .b, [], (cs [.b]), (fun x => q66 lo x.1 x.2.1 x.2.2.1 x.2.2.2.1 x.2.2.2.2.1 x.2.2.2.2.2 : Zp36 -> Option Bool)⟩
theorem q66_e (lo : Lo) : ∀ x : Zp36, evP (⟨pf, fs66 lo, [q66_L3_p lo], 0⟩ : Tabs) q66_F ⟨[0, 1], [.ag [.s, .l (cs [.s]), .l Zc1], .ag [.s, .l (cs [.s]), .l Zc1]], [], Zc7⟩ (.b) (cs [.b]) x = q66 lo x.1 x.2.1 x.2.2.1 x.2.2.2.1 x.2.2.2.2.1 x.2.2.2.2.2 := fun x => by kernel_rfl
theorem q66_S {P : Program} {fm : FM} {lo : Lo} (hlo : LoOK lo) (hS : Sound P fm ⟨pf, fs66 lo, [], 0⟩) (hm : P.follows .mixedOrders = true) (htie : Ti P fm 235 q66_F) : Sound P fm ⟨pf, q66_f lo :: fs66 lo, [], 0⟩ :=
  fn_sound hS hm [q66_L3_p lo] (q66_f lo) rfl q66_F htie (by decide) rfl (Nat.le_of_ble_eq_true (by kernel_rfl)) (fun C hT => show LK C _ q66_c from ⟨tv, ⟨⟨tv, ⟨⟨tv, tv⟩, tv⟩⟩, ⟨⟨tv, (lsGet (by kernel_rfl) (q66_L3_k hlo C (tok_ls hT)))⟩, ⟨tv, tv⟩⟩⟩⟩) (fun x y h => (q66_e lo x).trans h)
noncomputable def fs67 (lo : Lo) : List FnE := q66_f lo :: fs66 lo
noncomputable def fs68 (lo : Lo) : List FnE := fs67 lo
noncomputable def fs69 (lo : Lo) : List FnE := fs68 lo
noncomputable def fs70 (lo : Lo) : List FnE := fs69 lo
end Go.Abs.G03
namespace Go.Abs.G03
open Go Go.Abs
set_option maxRecDepth 100000
set_option maxHeartbeats 1000000
noncomputable def fs71 (lo : Lo) : List FnE := fs70 lo
noncomputable def fs72 (lo : Lo) : List FnE := fs71 lo
noncomputable def fs73 (lo : Lo) : List FnE := fs72 lo
noncomputable def fs74 (lo : Lo) : List FnE := fs73 lo
noncomputable def fs75 (lo : Lo) : List FnE := fs74 lo
noncomputable def fs76 (lo : Lo) : List FnE := fs75 lo
noncomputable def fs77 (lo : Lo) : List FnE := fs76 lo
noncomputable def fs78 (lo : Lo) : List FnE := fs77 lo
noncomputable def fs79 (lo : Lo) : List FnE := fs78 lo
def q79 (lo : Lo) (r0_0 : Int) (r0_1 : List (Int × Int × ByteArray)) (v1 : Int) : Option (Bool × Int) :=
  some ((decide (r0_0 = v1)), v1)
def q79_c : VCode :=
 (.seq (.reg [o 2 (.box (t 0)), o 3 (.mv (kb false))])
 (.seq (.reg [fD 4 0 2, lD 5 4, lD 6 1, o 7 (.bin .eql (t 5) (t 6)), mV 3 7])
 .ret))
def q79_F : VFn := ⟨true, 8, [.t 3], q79_c⟩
def q79_f (lo : Lo) : FnE := ⟨278, false, ⟨[0, 1], [.ag [.i .i64, .l Zc4], .ptr 0 0 0], [.st [.i .i64]], (cs [I, .l Zc4, I])⟩, .b, [.st [.i .i64]], (cs [.b, I]), (fun x => q79 lo x.1 x.2.1 x.2.2 : Int × Zt0 × Int -> Option (Bool × Int))⟩
theorem q79_e (lo : Lo) : ∀ x : Int × Zt0 × Int, evI (⟨pf, fs79 lo, [], 1⟩ : Tabs) q79_F ⟨[0, 1], [.ag [.i .i64, .l Zc4], .ptr 0 0 0], [.st [.i .i64]], (cs [I, .l Zc4, I])⟩ (.b) [.st [.i .i64]] (cs [.b, I]) x = q79 lo x.1 x.2.1 x.2.2 := fun x => by kernel_rfl
theorem q79_S {P : Program} {fm : FM} {lo : Lo} (hlo : LoOK lo) (hS : Sound P fm ⟨pf, fs79 lo, [], 0⟩) (hm : P.follows .mixedOrders = true) (htie : Ti P fm 278 q79_F) : Sound P fm ⟨pf, q79_f lo :: fs79 lo, [], 0⟩ :=
  fnI_sound hS hm [] (q79_f lo) rfl q79_F htie (by decide) rfl (Nat.le_of_ble_eq_true (by kernel_rfl)) (fun C hT Fr H0 hf => show LsOK Fr H0 C (⟨pf, fs79 lo, [], 1⟩ : Tabs) q79_c from ⟨tv, ⟨tv, tv⟩⟩) (fun x y h => (q79_e lo x).trans h)
noncomputable def fs80 (lo : Lo) : List FnE := q79_f lo :: fs79 lo
end Go.Abs.G03
namespace Go.Abs.G03
open Go Go.Abs
set_option maxRecDepth 100000
set_option maxHeartbeats 1000000
def q80_L3_b : VCode :=
 (.seq (.reg [o 9 (.bin .lss (t 8) (t 7))])
 (.seq (.cond (t 9) .skip
 (.exit 0))
 (.seq (.blk 1 (.seq (.reg [mV 10 8, mV 5 10])
 (.seq (.reg [mV 11 1, mV 12 0, mV 13 5, o 14 (.iad 2 (t 12) (t 13)), o 15 (.load true 2 (t 14)), o 16 (.dyn (t 11) [(t 15)])])
 (.cond (t 16) (.seq (.reg [mV 17 5, mV 4 17])
 .ret)
 .skip))))
 (.reg [o 18 (.bin .add (t 8) (k 1)), mV 8 18]))))
def q80_L3_g : Sg := ⟨[0, 1, 7, 8], [.l Zc1, .clo 278 [.ptr 0 0 0], .i .i64, .i .i64], [.st [.i .i64]], (cs [.l Zc1, I, I, I])⟩
def q80_L3_o : List Out1 := [⟨.ret, ⟨[4], [.i .i64], [.st [.i .i64]], (cs [I, I])⟩⟩, ⟨.exit 0, ⟨[], [], [.st [.i .i64]], (cs [I])⟩⟩]
def q80_L3_s (lo : Lo) : Zt3 × Int × Int × Int -> Option ((Zt3 × Int × Int × Int) ⊕ ((Int × Int) ⊕ Int)) := fun x => match x with
  | (s0, v7, v8, h0) => bif (decide (v8 < v7)) then (chk (0 <= v8 /\ v8 < (s0.length : Int)) (Option.bind (q79 lo ((s0.getD v8.toNat ((0 : Int), [])).1) ((s0.getD v8.toNat ((0 : Int), [])).2) h0) fun y326 => bif y326.1 then (some (.inr (.inl (v8, y326.2)))) else (some (.inl (s0, v7, (IntKind.wrap .i64 (v8 + (1 : Int))), y326.2))))) else (some (.inr (.inr h0)))
theorem q80_L3_e (lo : Lo) : ∀ x : Zt3 × Int × Int × Int, stepL (⟨pf, fs80 lo, [], 1⟩ : Tabs) [] q80_L3_g q80_L3_o q80_L3_b x = q80_L3_s lo x := fun x => by kernel_rfl
def q80_L3 (lo : Lo) : Zt3 × Int × Int × Int -> Option ((Int × Int) ⊕ Int) := lo.run (q80_L3_s lo)
def q80_L3_p (lo : Lo) : LpE := ⟨3, [], q80_L3_g, q80_L3_o, q80_L3 lo⟩
theorem q80_L3_k {lo : Lo} (hlo : LoOK lo) (C : Ctx) (hT : TOK (⟨pf, fs80 lo, [], 1⟩ : Tabs) C) {Fr : Nat -> Prop} {H0 : Heap} (hf : FrOK Fr H0) : LpSound Fr H0 1 C (.loop q80_L3_b.er) (q80_L3_p lo) :=
  loop_sound hT hf (show LsOK Fr H0 C (⟨pf, fs80 lo, [], 1⟩ : Tabs) q80_L3_b from ⟨tv, ⟨⟨tv, tv⟩, ⟨⟨tv, ⟨tv, ⟨⟨tv, tv⟩, tv⟩⟩⟩, tv⟩⟩⟩) (fun x y h => loopO_congr (q80_L3_e lo) (hlo _ _ _ h))
def q80 (lo : Lo) (s0 : List (Int × Zt0)) (h0 : Int) : Option (Int × Int) :=
  Option.bind (q80_L3 lo (s0, (s0.length : Int), (0 : Int), h0)) fun y327 => alt2 y327 (fun y328 => some (y328.1, y328.2)) (fun y329 => some ((-1 : Int), y329))
def q80_c : VCode :=
 (.seq (.reg [o 4 (.mv (k 0))])
 (.seq (.seq (.reg [mV 6 0, lN 7 6, o 8 (.mv (k 0))])
 (.blk 0 (.loop 3 q80_L3_b)))
 (.seq (.reg [o 4 (.mv (k (-1)))])
 .ret)))
def q80_F : VFn := ⟨true, 19, [.t 4], q80_c⟩
def q80_f (lo : Lo) : FnE := ⟨277, false, ⟨[0, 1], [.l Zc1, .clo 278 [.ptr 0 0 0]], [.st [.i .i64]], (cs [.l Zc1, I])⟩, .i .i64, [.st [.i .i64]], (cs [I, I]), (fun x => q80 lo x.1 x.2 : Zt3 × Int -> Option (Int × Int))⟩
theorem q80_e (lo : Lo) : ∀ x : Zt3 × Int, evI (⟨pf, fs80 lo, [q80_L3_p lo], 1⟩ : Tabs) q80_F ⟨[0, 1], [.l Zc1, .clo 278 [.ptr 0 0 0]], [.st [.i .i64]], (cs [.l Zc1, I])⟩ (.i .i64) [.st [.i .i64]] (cs [I, I]) x = q80 lo x.1 x.2 := fun x => by kernel_rfl
theorem q80_S {P : Program} {fm : FM} {lo : Lo} (hlo : LoOK lo) (hS : Sound P fm ⟨pf, fs80 lo, [], 0⟩) (hm : P.follows .mixedOrders = true) (htie : Ti P fm 277 q80_F) : Sound P fm ⟨pf, q80_f lo :: fs80 lo, [], 0⟩ :=
  fnI_sound hS hm [q80_L3_p lo] (q80_f lo) rfl q80_F htie (by decide) rfl (Nat.le_of_ble_eq_true (by kernel_rfl)) (fun C hT Fr H0 hf => show LsOK Fr H0 C (⟨pf, fs80 lo, [q80_L3_p lo], 1⟩ : Tabs) q80_c from ⟨tv, ⟨⟨tv, (lsGet (by kernel_rfl) (q80_L3_k hlo C (tok_ls hT) hf))⟩, ⟨tv, tv⟩⟩⟩) (fun x y h => (q80_e lo x).trans h)
noncomputable def fs81 (lo : Lo) : List FnE := q80_f lo :: fs80 lo
def q81 (lo : Lo) (t0_0 : ByteArray) (t0_1 : List ByteArray) (t0_2 : List (Int × Zt0)) (id1 : Int) : Option (Int × Bool) :=
  Option.bind (q80 lo t0_2 id1) fun y330 => some ((max y330.1 (0 : Int)), (decide ((0 : Int) <= y330.1)))
def q81_c : VCode :=
 (.seq (.reg [o 2 (.box (t 0)), o 3 (.box (t 1)), o 4 (.mv (k 0)), o 5 (.mv (kb false))])
 (.seq (.reg [fD 7 2 2, lD 8 7, o 9 (.mkf 278 [(t 3)]), o 10 (.call 277 [(t 8), (t 9)]), mV 6 10])
 (.seq (.reg [mV 11 6, o 12 (.mm true [(t 11), (k 0)]), mV 13 6, o 14 (.bin .geq (t 13) (k 0)), mV 4 12, mV 5 14])
 (.fz [4, 5] .ret))))
def q81_F : VFn := ⟨true, 15, [.t 4, .t 5], q81_c⟩
def q81_f (lo : Lo) : FnE := ⟨242, true, ⟨[0, 1], [.ag [.s, .l (cs [.s]), .l Zc1], .i .i64], [], Zc6⟩, .tp [.i .i64, .b], [], (cs [I, .b]), (fun x => q81 lo x.1 x.2.1 x.2.2.1 x.2.2.2 : ByteArray × Zt2 × Zt3 × Int -> Option (Int × Bool))⟩
theorem q81_e (lo : Lo) : ∀ x : ByteArray × Zt2 × Zt3 × Int, evP (⟨pf, fs81 lo, [], 0⟩ : Tabs) q81_F ⟨[0, 1], [.ag [.s, .l (cs [.s]), .l Zc1], .i .i64], [], Zc6⟩ (.tp [.i .i64, .b]) (cs [I, .b]) x = q81 lo x.1 x.2.1 x.2.2.1 x.2.2.2 := fun x => by kernel_rfl
theorem q81_S {P : Program} {fm : FM} {lo : Lo} (hlo : LoOK lo) (hS : Sound P fm ⟨pf, fs81 lo, [], 0⟩) (hm : P.follows .mixedOrders = true) (htie : Ti P fm 242 q81_F) : Sound P fm ⟨pf, q81_f lo :: fs81 lo, [], 0⟩ :=
  fn_sound hS hm [] (q81_f lo) rfl q81_F htie (by decide) rfl (Nat.le_of_ble_eq_true (by kernel_rfl)) (fun C hT => show LK C _ q81_c from ⟨tv, ⟨tv, ⟨tv, tv⟩⟩⟩) (fun x y h => (q81_e lo x).trans h)
noncomputable def fs82 (lo : Lo) : List FnE := q81_f lo :: fs81 lo
def q82_L3_b : VCode :=
 (.seq (.seq (.reg [mV 7 6, fD 8 2 2, lD 9 8, lN 10 9, o 11 (.bin .lss (t 7) (t 10))])
 (.cond (t 11) .skip
 (.exit 0)))
 (.seq (.blk 1 (.seq (.reg [fD 14 2 2, lD 15 14, mV 16 6, o 17 (.iad 2 (t 15) (t 16)), fD 18 0 17, lD 19 18, mV 20 1, o 21 (.bin .eql (t 19) (t 20))])
 (.cond (t 21) (.seq (.reg [mV 22 6, mV 4 22, o 5 (.mv (kb true))])
 (.fz [4, 5] .ret))
 .skip)))
 (.reg [mV 12 6, o 13 (.bin .add (t 12) (k 1)), mV 6 13])))
def q82_L3_g : Sg := ⟨[1, 2, 6], [.i .i64, .ptr 0 0 0, .i .i64], [.st [.s, .l (cs [.s]), .l Zc1]], (cs [I, I, .s, .l (cs [.s]), .l Zc1])⟩
def q82_L3_o : List Out1 := [⟨.ret, ⟨[4, 5], [.i .i64, .b], [], (cs [I, .b])⟩⟩, ⟨.exit 0, ⟨[], [], [], (cs [])⟩⟩]
def q82_L3_s (lo : Lo) : Zp40 -> Option (Zp40 ⊕ ((Int × Bool) ⊕ Unit)) := fun x => match x with
  | (id1, i6, t2_0, t2_1, t2_2) => bif (decide (i6 < (t2_2.length : Int))) then (chk (0 <= i6 /\ i6 < (t2_2.length : Int)) (bif (decide ((t2_2.getD i6.toNat ((0 : Int), [])).1 = id1)) then (some (.inr (.inl (i6, true)))) else (some (.inl (id1, (IntKind.wrap .i64 (i6 + (1 : Int))), t2_0, t2_1, t2_2))))) else (some (.inr (.inr ())))
theorem q82_L3_e (lo : Lo) : ∀ x : Zp40, stepL (⟨pf, fs82 lo, [], 0⟩ : Tabs) [] q82_L3_g q82_L3_o q82_L3_b x = q82_L3_s lo x := fun x => by kernel_rfl
def q82_L3 (lo : Lo) : Zp40 -> Option ((Int × Bool) ⊕ Unit) := lo.run (q82_L3_s lo)
def q82_L3_p (lo : Lo) : LpE := ⟨3, [], q82_L3_g, q82_L3_o, q82_L3 lo⟩
theorem q82_L3_k {lo : Lo} (hlo : LoOK lo) (C : Ctx) (hT : TOK (⟨pf, fs82 lo, [], 0⟩ : Tabs) C) : LpSound (fun _ => False) [] 0 C (.loop q82_L3_b.er) (q82_L3_p lo) :=
  loop_sound hT frNo (show LK C _ q82_L3_b from ⟨⟨tv, ⟨tv, tv⟩⟩, ⟨⟨tv, ⟨⟨tv, tv⟩, tv⟩⟩, tv⟩⟩) (fun x y h => loopO_congr (q82_L3_e lo) (hlo _ _ _ h))
def q82 (lo : Lo) (t0_0 : ByteArray) (t0_1 : List ByteArray) (t0_2 : List (Int × Zt0)) (id1 : Int) : Option (Int × Bool) :=
  Option.bind (q82_L3 lo (id1, (0 : Int), t0_0, t0_1, t0_2)) fun y332 => alt2 y332 (fun y333 => some (y333.1, y333.2)) (fun y334 => some ((0 : Int), false))
def q82_c : VCode :=
 (.seq (.reg [o 2 (.box (t 0)), o 4 (.mv (k 0)), o 5 (.mv (kb false))])
 (.seq (.seq (.reg [o 6 (.mv (k 0))])
 (.blk 0 (.loop 3 q82_L3_b)))
 (.seq (.reg [o 4 (.mv (k 0)), o 5 (.mv (kb false))])
 (.fz [4, 5] .ret))))
def q82_F : VFn := ⟨true, 23, [.t 4, .t 5], q82_c⟩
def q82_f (lo : Lo) : FnE := ⟨243, true, ⟨[0, 1], [.ag [.s, .l (cs [.s]), .l Zc1], .i .i64], [], Zc6⟩, .tp [.i .i64, .b], [], (cs [I, .b]), (fun x => q82 lo x.1 x.2.1 x.2.2.1 x.2.2.2 : ByteArray × Zt2 × Zt3 × Int -> Option (Int × Bool))⟩
theorem q82_e (lo : Lo) : ∀ x : ByteArray × Zt2 × Zt3 × Int, evP (⟨pf, fs82 lo, [q82_L3_p lo], 0⟩ : Tabs) q82_F ⟨[0, 1], [.ag [.s, .l (cs [.s]), .l Zc1], .i .i64], [], Zc6⟩ (.tp [.i .i64, .b]) (cs [I, .b]) x = q82 lo x.1 x.2.1 x.2.2.1 x.2.2.2 := fun x => by kernel_rfl
theorem q82_S {P : Program} {fm : FM} {lo : Lo} (hlo : LoOK lo) (hS : Sound P fm ⟨pf, fs82 lo, [], 0⟩) (hm : P.follows .mixedOrders = true) (htie : Ti P fm 243 q82_F) : Sound P fm ⟨pf, q82_f lo :: fs82 lo, [], 0⟩ :=
  fn_sound hS hm [q82_L3_p lo] (q82_f lo) rfl q82_F htie (by decide) rfl (Nat.le_of_ble_eq_true (by kernel_rfl)) (fun C hT => show LK C _ q82_c from ⟨tv, ⟨⟨tv, (lsGet (by kernel_rfl) (q82_L3_k hlo C (tok_ls hT)))⟩, ⟨tv, tv⟩⟩⟩) (fun x y h => (q82_e lo x).trans h)
noncomputable def fs83 (lo : Lo) : List FnE := q82_f lo :: fs82 lo
noncomputable def fs84 (lo : Lo) : List FnE := fs83 lo
noncomputable def fs85 (lo : Lo) : List FnE := fs84 lo
noncomputable def fs86 (lo : Lo) : List FnE := fs85 lo
def q86 (lo : Lo) (l : List (Int × Int × ByteArray)) : Option Zt0 := bif Nat.ble l.length maxEl && Nat.ble 1 3 then some l else none
def q86_f (lo : Lo) : FnE := vclonePE 308 Zc4
theorem q86_S {P : Program} {fm : FM} {lo : Lo} (hlo : LoOK lo) (hS : Sound P fm ⟨pf, fs86 lo, [], 0⟩) (hm : P.follows .mixedOrders = true) (htie : ∀ f, fm f = 308 -> fnTr P fm pf f = some (8, [.t 2], vcloneC 3 [(.int .i64 0), (.int .i64 0), (.string (⟨#[]⟩))])) : Sound P fm ⟨pf, q86_f lo :: fs86 lo, [], 0⟩ :=
  vcloneP_sound hS hm Zc4 rfl [(.int .i64 0), (.int .i64 0), (.string (⟨#[]⟩))] 8 (by decide) htie
noncomputable def fs87 (lo : Lo) : List FnE := q86_f lo :: fs86 lo
def q87 (lo : Lo) (r0_0 : Int) (r0_1 : List (Int × Int × ByteArray)) : Option (Int × Zt0) :=
  Option.bind (q86 lo r0_1) fun y344 => some (r0_0, y344)
def q87_c : VCode :=
 (.seq (.reg [o 1 (.box (t 0)), o 2 (.alloc [.i .i64 0, .e Zc4])])
 (.seq (.reg [fD 3 0 1, lD 4 3, fD 5 1 1, lD 6 5, o 7 (.call 308 [(t 6)]), o 8 (.build [.i .i64 0, .e Zc4] [(0, 1, (t 4)), (1, 1, (t 7))]), on (.store 2 (t 2) (t 8))])
 (.fz [2] .ret)))
def q87_F : VFn := ⟨true, 9, [.c 2 true 2], q87_c⟩
def q87_f (lo : Lo) : FnE := ⟨289, true, ⟨[0], [.ag [.i .i64, .l Zc4]], [], Zc1⟩, .ag [.i .i64, .l Zc4], [], Zc1, (fun x => q87 lo x.1 x.2 : Int × Zt0 -> Option (Int × Zt0))⟩
theorem q87_e (lo : Lo) : ∀ x : Int × Zt0, evP (⟨pf, fs87 lo, [], 0⟩ : Tabs) q87_F ⟨[0], [.ag [.i .i64, .l Zc4]], [], Zc1⟩ (.ag [.i .i64, .l Zc4]) Zc1 x = q87 lo x.1 x.2 := fun x => by kernel_rfl
theorem q87_S {P : Program} {fm : FM} {lo : Lo} (hlo : LoOK lo) (hS : Sound P fm ⟨pf, fs87 lo, [], 0⟩) (hm : P.follows .mixedOrders = true) (htie : Ti P fm 289 q87_F) : Sound P fm ⟨pf, q87_f lo :: fs87 lo, [], 0⟩ :=
  fn_sound hS hm [] (q87_f lo) rfl q87_F htie (by decide) rfl (Nat.le_of_ble_eq_true (by kernel_rfl)) (fun C hT => show LK C _ q87_c from ⟨tv, ⟨tv, tv⟩⟩) (fun x y h => (q87_e lo x).trans h)
noncomputable def fs88 (lo : Lo) : List FnE := q87_f lo :: fs87 lo
def q88_L3_b : VCode :=
 (.seq (.reg [o 17 (.bin .lss (t 16) (t 15))])
 (.seq (.cond (t 17) .skip
 (.exit 0))
 (.seq (.blk 1 (.seq (.reg [o 18 (.iad 2 (t 14) (t 16)), o 19 (.load true 2 (t 18)), o 7 (.alloc [.i .i64 0, .e Zc4]), on (.store 2 (t 7) (t 19))])
 (.reg [fD 20 2 5, lD 21 20, o 22 (.load true 2 (t 7)), o 23 (.call 289 [(t 22)]), o 24 (.bsl Zc1 1 [(0, (t 23))]), o 25 (.app Zc1 0 (t 21) (t 24)), fD 26 2 5, on (.store 1 (t 26) (t 25))])))
 (.reg [o 27 (.bin .add (t 16) (k 1)), mV 16 27]))))
def q88_L3_g : Sg := ⟨[4, 5, 14, 15, 16], [.ptr 0 0 0, .ptr 1 0 0, .l Zc1, .i .i64, .i .i64], [.st [.s, .l (cs [.s]), .l Zc1], .st [.s, .ref 2, .ref 3], .sq (cs [.s]), .sq Zc1], (cs [.l Zc1, I, I, .s, .l (cs [.s]), .l Zc1, .s, .l (cs [.s]), .l Zc1])⟩
def q88_L3_o : List Out1 := [⟨.exit 0, ⟨[4, 5], [.ptr 0 0 0, .ptr 1 0 0], [.st [.s, .l (cs [.s]), .l Zc1], .st [.s, .ref 2, .ref 3], .sq (cs [.s]), .sq Zc1], Zc7⟩⟩]
def q88_L3_s (lo : Lo) : Zp31 -> Option (Zp31 ⊕ (Zp36)) := fun x => match x with
  | (v14, v15, v16, v4_0, v4_1, v4_2, out5, h2, h3) => bif (decide (v16 < v15)) then (chk (0 <= v16 /\ v16 < (v14.length : Int)) (Option.bind (q87 lo ((v14.getD v16.toNat ((0 : Int), [])).1) ((v14.getD v16.toNat ((0 : Int), [])).2)) fun y345 => chk (h3.length + [y345].length <= maxEl) (some (.inl (v14, v15, (IntKind.wrap .i64 (v16 + (1 : Int))), v4_0, v4_1, v4_2, out5, h2, (h3 ++ [y345])))))) else (some (.inr (v4_0, v4_1, v4_2, out5, h2, h3)))
theorem q88_L3_e (lo : Lo) : ∀ x : Zp31, stepL (⟨pf, fs88 lo, [], 0⟩ : Tabs) [(5, some 2, false)] q88_L3_g q88_L3_o q88_L3_b x = q88_L3_s lo x := fun x => by kernel_rfl
def q88_L3 (lo : Lo) : Zp31 -> Option (Zp36) := lo.run (q88_L3_s lo)
def q88_L3_p (lo : Lo) : LpE := ⟨3, [(5, some 2, false)], q88_L3_g, q88_L3_o, q88_L3 lo⟩
theorem q88_L3_k {lo : Lo} (hlo : LoOK lo) (C : Ctx) (hT : TOK (⟨pf, fs88 lo, [], 0⟩ : Tabs) C) : LpSound (fun _ => False) [] 0 C (.loop q88_L3_b.er) (q88_L3_p lo) :=
  loop_sound hT frNo (show LK C _ q88_L3_b from ⟨tv, ⟨⟨tv, tv⟩, ⟨⟨tv, tv⟩, tv⟩⟩⟩) (fun x y h => loopO_congr (q88_L3_e lo) (hlo _ _ _ h))
def q88 (lo : Lo) (t0_0 : ByteArray) (t0_1 : List ByteArray) (t0_2 : List (Int × Zt0)) (rows1 : List (Int × Zt0)) : Option (ByteArray × Zt2 × Zt3) :=
  Option.bind (q19 lo t0_1) fun y343 => Option.bind (q88_L3 lo (rows1, (rows1.length : Int), (0 : Int), (ByteArray.mk #[]), ([] : List ByteArray), ([] : List (Int × Zt0)), t0_0, y343, [])) fun y346 => some (y346.2.2.2.1, y346.2.2.2.2.1, y346.2.2.2.2.2)
def q88_c : VCode :=
 (.seq (.reg [o 2 (.box (t 0)), o 4 (.alloc [.s (⟨#[]⟩), .e (cs [.s]), .e Zc1])])
 (.seq (.reg [fD 8 0 2, ⟨some 9, .load false 1 (t 8), none, true, false⟩, fD 10 1 2, ⟨some 11, .load false 1 (t 10), none, true, false⟩, o 12 (.callN 269 [(t 11)]), o 13 (.build [.s (⟨#[]⟩), .e (cs [.s]), .e Zc1] [(0, 1, (t 9)), (1, 1, (t 12))]), o 5 (.alloc [.s (⟨#[]⟩), .e (cs [.s]), .e Zc1]), on (.store 3 (t 5) (t 13))])
 (.seq (.seq (.reg [mV 14 1, lN 15 14, o 16 (.mv (k 0))])
 (.blk 0 (.loop 3 q88_L3_b)))
 (.seq (.reg [o 28 (.load true 3 (t 5)), on (.store 3 (t 4) (t 28))])
 (.fz [4] .ret)))))
def q88_F : VFn := ⟨true, 29, [.c 4 true 3], q88_c⟩
def q88_f (lo : Lo) : FnE := ⟨280, true, ⟨[0, 1], [.ag [.s, .l (cs [.s]), .l Zc1], .l Zc1], [], Zc17⟩, .ag [.s, .l (cs [.s]), .l Zc1], [], Zc8, (fun x => q88 lo x.1 x.2.1 x.2.2.1 x.2.2.2 : ByteArray × Zt2 × Zt3 × Zt3 -> Option (ByteArray × Zt2 × Zt3))⟩
theorem q88_e (lo : Lo) : ∀ x : ByteArray × Zt2 × Zt3 × Zt3, evP (⟨pf, fs88 lo, [q88_L3_p lo], 0⟩ : Tabs) q88_F ⟨[0, 1], [.ag [.s, .l (cs [.s]), .l Zc1], .l Zc1], [], Zc17⟩ (.ag [.s, .l (cs [.s]), .l Zc1]) Zc8 x = q88 lo x.1 x.2.1 x.2.2.1 x.2.2.2 := fun x => by kernel_rfl
theorem q88_S {P : Program} {fm : FM} {lo : Lo} (hlo : LoOK lo) (hS : Sound P fm ⟨pf, fs88 lo, [], 0⟩) (hm : P.follows .mixedOrders = true) (htie : Ti P fm 280 q88_F) : Sound P fm ⟨pf, q88_f lo :: fs88 lo, [], 0⟩ :=
  fn_sound hS hm [q88_L3_p lo] (q88_f lo) rfl q88_F htie (by decide) rfl (Nat.le_of_ble_eq_true (by kernel_rfl)) (fun C hT => show LK C _ q88_c from ⟨tv, ⟨tv, ⟨⟨tv, (lsGet (by kernel_rfl) (q88_L3_k hlo C (tok_ls hT)))⟩, ⟨tv, tv⟩⟩⟩⟩) (fun x y h => (q88_e lo x).trans h)
noncomputable def fs89 (lo : Lo) : List FnE := q88_f lo :: fs88 lo
noncomputable def fs90 (lo : Lo) : List FnE := fs89 lo
noncomputable def fs91 (lo : Lo) : List FnE := fs90 lo
def q91 (lo : Lo) (r0_0 : Int) (r0_1 : List (Int × Int × ByteArray)) : Option (Int × Zt0) :=
  chk (r0_1.length <= maxEl) (some (r0_0, r0_1))
def q91_c : VCode :=
 (.seq (.reg [o 1 (.box (t 0)), o 2 (.alloc [.i .i64 0, .e Zc4])])
 (.seq (.reg [fD 3 0 1, ⟨some 4, .load false 1 (t 3), none, true, false⟩, o 5 (.bsl Zc4 0 []), fD 6 1 1, lD 7 6, ⟨some 8, .app Zc4 0 (t 5) (t 7), none, false, true⟩, o 9 (.build [.i .i64 0, .e Zc4] [(0, 1, (t 4)), (1, 1, (t 8))]), on (.store 2 (t 2) (t 9))])
 (.fz [2] .ret)))
def q91_F : VFn := ⟨true, 10, [.c 2 true 2], q91_c⟩
def q91_f (lo : Lo) : FnE := ⟨290, true, ⟨[0], [.ag [.i .i64, .l Zc4]], [], Zc1⟩, .ag [.i .i64, .l Zc4], [], Zc1, (fun x => q91 lo x.1 x.2 : Int × Zt0 -> Option (Int × Zt0))⟩
theorem q91_e (lo : Lo) : ∀ x : Int × Zt0, evP (⟨pf, fs91 lo, [], 0⟩ : Tabs) q91_F ⟨[0], [.ag [.i .i64, .l Zc4]], [], Zc1⟩ (.ag [.i .i64, .l Zc4]) Zc1 x = q91 lo x.1 x.2 := fun x => by kernel_rfl
theorem q91_S {P : Program} {fm : FM} {lo : Lo} (hlo : LoOK lo) (hS : Sound P fm ⟨pf, fs91 lo, [], 0⟩) (hm : P.follows .mixedOrders = true) (htie : Ti P fm 290 q91_F) : Sound P fm ⟨pf, q91_f lo :: fs91 lo, [], 0⟩ :=
  fn_sound hS hm [] (q91_f lo) rfl q91_F htie (by decide) rfl (Nat.le_of_ble_eq_true (by kernel_rfl)) (fun C hT => show LK C _ q91_c from ⟨tv, ⟨tv, tv⟩⟩) (fun x y h => (q91_e lo x).trans h)
noncomputable def fs92 (lo : Lo) : List FnE := q91_f lo :: fs91 lo
def q92_L3_b : VCode :=
 (.seq (.seq (.reg [mV 14 6, mV 15 1, lN 16 15, o 17 (.bin .lss (t 14) (t 16))])
 (.cond (t 17) .skip
 (.exit 0)))
 (.seq (.blk 1 (.reg [fD 20 2 5, lD 21 20, mV 22 1, mV 23 6, o 24 (.iad 2 (t 22) (t 23)), o 25 (.load true 2 (t 24)), o 26 (.call 290 [(t 25)]), o 27 (.bsl Zc1 1 [(0, (t 26))]), o 28 (.app Zc1 0 (t 21) (t 27)), fD 29 2 5, on (.store 1 (t 29) (t 28))]))
 (.reg [mV 18 6, o 19 (.bin .add (t 18) (k 1)), mV 6 19])))
def q92_L3_g : Sg := ⟨[1, 4, 5, 6], [.l Zc1, .ptr 0 0 0, .ptr 1 0 0, .i .i64], [.st [.s, .l (cs [.s]), .l Zc1], .st [.s, .ref 2, .ref 3], .sq (cs [.s]), .sq Zc1], (cs [.l Zc1, I, .s, .l (cs [.s]), .l Zc1, .s, .l (cs [.s]), .l Zc1])⟩
def q92_L3_o : List Out1 := [⟨.exit 0, ⟨[4, 5], [.ptr 0 0 0, .ptr 1 0 0], [.st [.s, .l (cs [.s]), .l Zc1], .st [.s, .ref 2, .ref 3], .sq (cs [.s]), .sq Zc1], Zc7⟩⟩]
def q92_L3_s (lo : Lo) : Zp32 -> Option (Zp32 ⊕ (Zp36)) := fun x => match x with
  | (rows1, i6, v4_0, v4_1, v4_2, out5, h2, h3) => bif (decide (i6 < (rows1.length : Int))) then (chk (0 <= i6 /\ i6 < (rows1.length : Int)) (Option.bind (q91 lo ((rows1.getD i6.toNat ((0 : Int), [])).1) ((rows1.getD i6.toNat ((0 : Int), [])).2)) fun y356 => chk (h3.length + [y356].length <= maxEl) (some (.inl (rows1, (IntKind.wrap .i64 (i6 + (1 : Int))), v4_0, v4_1, v4_2, out5, h2, (h3 ++ [y356])))))) else (some (.inr (v4_0, v4_1, v4_2, out5, h2, h3)))
theorem q92_L3_e (lo : Lo) : ∀ x : Zp32, stepL (⟨pf, fs92 lo, [], 0⟩ : Tabs) [(5, some 2, false)] q92_L3_g q92_L3_o q92_L3_b x = q92_L3_s lo x := fun x => by kernel_rfl
def q92_L3 (lo : Lo) : Zp32 -> Option (Zp36) := lo.run (q92_L3_s lo)
def q92_L3_p (lo : Lo) : LpE := ⟨3, [(5, some 2, false)], q92_L3_g, q92_L3_o, q92_L3 lo⟩
theorem q92_L3_k {lo : Lo} (hlo : LoOK lo) (C : Ctx) (hT : TOK (⟨pf, fs92 lo, [], 0⟩ : Tabs) C) : LpSound (fun _ => False) [] 0 C (.loop q92_L3_b.er) (q92_L3_p lo) :=
  loop_sound hT frNo (show LK C _ q92_L3_b from ⟨⟨tv, ⟨tv, tv⟩⟩, ⟨tv, tv⟩⟩) (fun x y h => loopO_congr (q92_L3_e lo) (hlo _ _ _ h))
def q92 (lo : Lo) (t0_0 : ByteArray) (t0_1 : List ByteArray) (t0_2 : List (Int × Zt0)) (rows1 : List (Int × Zt0)) : Option (ByteArray × Zt2 × Zt3) :=
  chk (t0_1.length <= maxEl) (Option.bind (q92_L3 lo (rows1, (0 : Int), (ByteArray.mk #[]), ([] : List ByteArray), ([] : List (Int × Zt0)), t0_0, t0_1, [])) fun y357 => some (y357.2.2.2.1, y357.2.2.2.2.1, y357.2.2.2.2.2))
def q92_c : VCode :=
 (.seq (.reg [o 2 (.box (t 0)), o 4 (.alloc [.s (⟨#[]⟩), .e (cs [.s]), .e Zc1])])
 (.seq (.reg [fD 7 0 2, ⟨some 8, .load false 1 (t 7), none, true, false⟩, o 9 (.bsl (cs [.s]) 0 []), fD 10 1 2, ⟨some 11, .load false 1 (t 10), none, true, false⟩, ⟨some 12, .app (cs [.s]) 0 (t 9) (t 11), none, true, true⟩, o 13 (.build [.s (⟨#[]⟩), .e (cs [.s]), .e Zc1] [(0, 1, (t 8)), (1, 1, (t 12))]), o 5 (.alloc [.s (⟨#[]⟩), .e (cs [.s]), .e Zc1]), on (.store 3 (t 5) (t 13))])
 (.seq (.seq (.reg [o 6 (.mv (k 0))])
 (.blk 0 (.loop 3 q92_L3_b)))
 (.seq (.reg [o 30 (.load true 3 (t 5)), on (.store 3 (t 4) (t 30))])
 (.fz [4] .ret)))))
def q92_F : VFn := ⟨true, 31, [.c 4 true 3], q92_c⟩
def q92_f (lo : Lo) : FnE := ⟨282, true, ⟨[0, 1], [.ag [.s, .l (cs [.s]), .l Zc1], .l Zc1], [], Zc17⟩, .ag [.s, .l (cs [.s]), .l Zc1], [], Zc8, (fun x => q92 lo x.1 x.2.1 x.2.2.1 x.2.2.2 : ByteArray × Zt2 × Zt3 × Zt3 -> Option (ByteArray × Zt2 × Zt3))⟩
theorem q92_e (lo : Lo) : ∀ x : ByteArray × Zt2 × Zt3 × Zt3, evP (⟨pf, fs92 lo, [q92_L3_p lo], 0⟩ : Tabs) q92_F ⟨[0, 1], [.ag [.s, .l (cs [.s]), .l Zc1], .l Zc1], [], Zc17⟩ (.ag [.s, .l (cs [.s]), .l Zc1]) Zc8 x = q92 lo x.1 x.2.1 x.2.2.1 x.2.2.2 := fun x => by kernel_rfl
theorem q92_S {P : Program} {fm : FM} {lo : Lo} (hlo : LoOK lo) (hS : Sound P fm ⟨pf, fs92 lo, [], 0⟩) (hm : P.follows .mixedOrders = true) (htie : Ti P fm 282 q92_F) : Sound P fm ⟨pf, q92_f lo :: fs92 lo, [], 0⟩ :=
  fn_sound hS hm [q92_L3_p lo] (q92_f lo) rfl q92_F htie (by decide) rfl (Nat.le_of_ble_eq_true (by kernel_rfl)) (fun C hT => show LK C _ q92_c from ⟨tv, ⟨tv, ⟨⟨tv, (lsGet (by kernel_rfl) (q92_L3_k hlo C (tok_ls hT)))⟩, ⟨tv, tv⟩⟩⟩⟩) (fun x y h => (q92_e lo x).trans h)
noncomputable def fs93 (lo : Lo) : List FnE := q92_f lo :: fs92 lo
noncomputable def fs94 (lo : Lo) : List FnE := fs93 lo
end Go.Abs.G03
namespace Go.Abs.G03
open Go Go.Abs
set_option maxRecDepth 100000
set_option maxHeartbeats 1000000
noncomputable def fs95 (lo : Lo) : List FnE := fs94 lo
def q95 (lo : Lo) (n : Int) : Option Zt3 := bif decide (0 <= n) && decide (n <= 1048576) then some [] else none
def q95_f (lo : Lo) : FnE := vgrowE 305 Zc1
theorem q95_S {P : Program} {fm : FM} {lo : Lo} (hlo : LoOK lo) (hS : Sound P fm ⟨pf, fs95 lo, [], 0⟩) (hm : P.follows .mixedOrders = true) (hG : ∀ f, fm f = 305 -> callable P f = true /\ ∃ ρ : Go.Shelf.Ren, Go.Proofs.Lays8.n4 P ρ /\ ρ.f 4 = f /\ vgrowOK P (ρ.t 25) 2 = true) : Sound P fm ⟨pf, q95_f lo :: fs95 lo, [], 0⟩ :=
  vgrow_sound hS Zc1 rfl (by decide) hG
noncomputable def fs96 (lo : Lo) : List FnE := q95_f lo :: fs95 lo
def q96_L11_b : VCode :=
 (.seq (.reg [o 12 (.bin .lss (t 11) (t 10))])
 (.seq (.cond (t 12) .skip
 (.exit 0))
 (.seq (.blk 1 (.seq (.reg [o 13 (.iad 1 (t 9) (t 11)), lD 14 13, mV 5 14])
 (.seq (.reg [mV 15 3, mV 16 5, lN 17 16, o 18 (.bin .add (t 15) (t 17)), mV 3 18])
 (.seq (.reg [mV 19 3, o 20 (.bin .lss (t 19) (k 0))])
 (.cond (t 20) .bad
 .skip)))))
 (.reg [o 22 (.bin .add (t 11) (k 1)), mV 11 22]))))
def q96_L11_g : Sg := ⟨[0, 3, 9, 10, 11], [.l Zc16, .i .i64, .l Zc16, .i .i64, .i .i64], [], (cs [.l Zc16, I, .l Zc16, I, I])⟩
def q96_L11_o : List Out1 := [⟨.exit 0, ⟨[0, 3], [.l Zc16, .i .i64], [], (cs [.l Zc16, I])⟩⟩]
def q96_L11_s (lo : Lo) : Zt20 × Int × Zt20 × Int × Int -> Option ((Zt20 × Int × Zt20 × Int × Int) ⊕ ((Zt20 × Int))) := fun x => match x with
  | (slices0, size3, v9, v10, v11) => bif (decide (v11 < v10)) then (chk (0 <= v11 /\ v11 < (v9.length : Int)) (bif (decide ((IntKind.wrap .i64 (size3 + ((v9.getD v11.toNat []).length : Int))) < (0 : Int))) then (none) else (some (.inl (slices0, (IntKind.wrap .i64 (size3 + ((v9.getD v11.toNat []).length : Int))), v9, v10, (IntKind.wrap .i64 (v11 + (1 : Int)))))))) else (some (.inr (slices0, size3)))
theorem q96_L11_e (lo : Lo) : ∀ x : Zt20 × Int × Zt20 × Int × Int, stepL (⟨pf, fs96 lo, [], 0⟩ : Tabs) [] q96_L11_g q96_L11_o q96_L11_b x = q96_L11_s lo x := fun x => by kernel_rfl
def q96_L11 (lo : Lo) : Zt20 × Int × Zt20 × Int × Int -> Option ((Zt20 × Int)) := lo.run (q96_L11_s lo)
def q96_L11_p (lo : Lo) : LpE := ⟨11, [], q96_L11_g, q96_L11_o, q96_L11 lo⟩
theorem q96_L11_k {lo : Lo} (hlo : LoOK lo) (C : Ctx) (hT : TOK (⟨pf, fs96 lo, [], 0⟩ : Tabs) C) : LpSound (fun _ => False) [] 0 C (.loop q96_L11_b.er) (q96_L11_p lo) :=
  loop_sound hT frNo (show LK C _ q96_L11_b from ⟨tv, ⟨⟨tv, tv⟩, ⟨⟨tv, ⟨tv, ⟨tv, ⟨tv, tv⟩⟩⟩⟩, tv⟩⟩⟩) (fun x y h => loopO_congr (q96_L11_e lo) (hlo _ _ _ h))
def q96_L3_b : VCode :=
 (.seq (.reg [o 28 (.bin .lss (t 27) (t 26))])
 (.seq (.cond (t 28) .skip
 (.exit 2))
 (.seq (.blk 3 (.seq (.reg [o 29 (.iad 1 (t 25) (t 27)), lD 30 29, mV 8 30])
 (.reg [mV 31 6, mV 32 8, o 33 (.app Zc1 0 (t 31) (t 32)), mV 6 33])))
 (.reg [o 34 (.bin .add (t 27) (k 1)), mV 27 34]))))
def q96_L3_g : Sg := ⟨[6, 25, 26, 27], [.ref 0, .l Zc16, .i .i64, .i .i64], [.sq Zc1], (cs [.l Zc16, I, I, .l Zc1])⟩
def q96_L3_o : List Out1 := [⟨.exit 2, ⟨[6], [.ref 0], [.sq Zc1], Zc16⟩⟩]
def q96_L3_s (lo : Lo) : Zt20 × Int × Int × Zt3 -> Option ((Zt20 × Int × Int × Zt3) ⊕ ((Zt3))) := fun x => match x with
  | (v25, v26, v27, newslice6) => bif (decide (v27 < v26)) then (chk (0 <= v27 /\ v27 < (v25.length : Int)) (chk (newslice6.length + (v25.getD v27.toNat []).length <= maxEl) (some (.inl (v25, v26, (IntKind.wrap .i64 (v27 + (1 : Int))), (newslice6 ++ (v25.getD v27.toNat []))))))) else (some (.inr newslice6))
theorem q96_L3_e (lo : Lo) : ∀ x : Zt20 × Int × Int × Zt3, stepL (⟨pf, fs96 lo, [q96_L11_p lo], 0⟩ : Tabs) [] q96_L3_g q96_L3_o q96_L3_b x = q96_L3_s lo x := fun x => by kernel_rfl
def q96_L3 (lo : Lo) : Zt20 × Int × Int × Zt3 -> Option ((Zt3)) := lo.run (q96_L3_s lo)
def q96_L3_p (lo : Lo) : LpE := ⟨3, [], q96_L3_g, q96_L3_o, q96_L3 lo⟩
theorem q96_L3_k {lo : Lo} (hlo : LoOK lo) (C : Ctx) (hT : TOK (⟨pf, fs96 lo, [q96_L11_p lo], 0⟩ : Tabs) C) : LpSound (fun _ => False) [] 0 C (.loop q96_L3_b.er) (q96_L3_p lo) :=
  loop_sound hT frNo (show LK C _ q96_L3_b from ⟨tv, ⟨⟨tv, tv⟩, ⟨⟨tv, tv⟩, tv⟩⟩⟩) (fun x y h => loopO_congr (q96_L3_e lo) (hlo _ _ _ h))
def q96 (lo : Lo) (slices0 : List (Zt3)) : Option (Zt3) :=
  Option.bind (q96_L11 lo (slices0, (0 : Int), slices0, (slices0.length : Int), (0 : Int))) fun y377 => Option.bind (q95 lo y377.2) fun y378 => Option.bind (q96_L3 lo (y377.1, (y377.1.length : Int), (0 : Int), y378)) fun y379 => some y379
def q96_c : VCode :=
 (.seq (.reg [o 2 (.mv (ke Zc1))])
 (.seq (.reg [o 3 (.mv (k 0))])
 (.seq (.seq (.reg [mV 9 0, lN 10 9, o 11 (.mv (k 0))])
 (.blk 0 (.loop 11 q96_L11_b)))
 (.seq (.reg [mV 23 3, o 24 (.call 305 [(ke Zc1), (t 23)]), mV 6 24])
 (.seq (.seq (.reg [mV 25 0, lN 26 25, o 27 (.mv (k 0))])
 (.blk 2 (.loop 3 q96_L3_b)))
 (.seq (.reg [mV 35 6, mV 2 35])
 (.fz [2] .ret)))))))
def q96_F : VFn := ⟨true, 36, [.t 2], q96_c⟩
def q96_f (lo : Lo) : FnE := ⟨285, true, ⟨[0], [.l Zc16], [], (cs [.l Zc16])⟩, .l Zc1, [], Zc16, (fun x => q96 lo x : Zt20 -> Option (Zt3))⟩
theorem q96_e (lo : Lo) : ∀ x : Zt20, evP (⟨pf, fs96 lo, [q96_L3_p lo, q96_L11_p lo], 0⟩ : Tabs) q96_F ⟨[0], [.l Zc16], [], (cs [.l Zc16])⟩ (.l Zc1) Zc16 x = q96 lo x := fun x => by kernel_rfl
theorem q96_S {P : Program} {fm : FM} {lo : Lo} (hlo : LoOK lo) (hS : Sound P fm ⟨pf, fs96 lo, [], 0⟩) (hm : P.follows .mixedOrders = true) (htie : Ti P fm 285 q96_F) : Sound P fm ⟨pf, q96_f lo :: fs96 lo, [], 0⟩ :=
  fn_sound hS hm [q96_L3_p lo, q96_L11_p lo] (q96_f lo) rfl q96_F htie (by decide) rfl (Nat.le_of_ble_eq_true (by kernel_rfl)) (fun C hT => show LK C _ q96_c from ⟨tv, ⟨tv, ⟨⟨tv, (lsGet (by kernel_rfl) (q96_L11_k hlo C (tok_ls hT)))⟩, ⟨tv, ⟨⟨tv, (lsGet (by kernel_rfl) (q96_L3_k hlo C (tok_ls hT)))⟩, ⟨tv, tv⟩⟩⟩⟩⟩⟩) (fun x y h => (q96_e lo x).trans h)
noncomputable def fs97 (lo : Lo) : List FnE := q96_f lo :: fs96 lo
def q97 (lo : Lo) (t0_0 : ByteArray) (t0_1 : List ByteArray) (t0_2 : List (Int × Zt0)) (id1 : Int) : Option (ByteArray × Zt2 × Zt3 × Int) :=
  Option.bind (q11 lo t0_0 t0_1 t0_2) fun y375 => bif (!decide (y375 = (0 : Int))) then (some ((ByteArray.mk #[]), ([] : List ByteArray), ([] : List (Int × Zt0)), y375)) else (Option.bind (q81 lo t0_0 t0_1 t0_2 id1) fun y376 => bif (!y376.2) then (some ((ByteArray.mk #[]), ([] : List ByteArray), ([] : List (Int × Zt0)), (4 : Int))) else (chk (0 <= (0 : Int) /\ (0 : Int) <= y376.1 /\ y376.1 <= (t0_2.length : Int)) (chk (0 <= (IntKind.wrap .i64 (y376.1 + (1 : Int))) /\ (IntKind.wrap .i64 (y376.1 + (1 : Int))) <= (t0_2.length : Int) /\ (t0_2.length : Int) <= (t0_2.length : Int)) (Option.bind (q96 lo ([((t0_2.take y376.1.toNat).drop 0), ((t0_2.take (t0_2.length : Int).toNat).drop (IntKind.wrap .i64 (y376.1 + (1 : Int))).toNat)])) fun y380 => Option.bind (q88 lo t0_0 t0_1 t0_2 y380) fun y381 => some (y381.1, y381.2.1, y381.2.2, (0 : Int))))))
def q97_c : VCode :=
 (.seq (.reg [o 2 (.box (t 0)), o 4 (.alloc [.s (⟨#[]⟩), .e (cs [.s]), .e Zc1]), o 5 (.mv (k 0))])
 (.seq (.seq (.reg [o 9 (.load true 3 (t 2)), o 10 (.call 230 [(t 9)]), mV 6 10])
 (.seq (.reg [mV 11 6, o 12 (.bin .neq (t 11) (k 0))])
 (.cond (t 12) (.seq (.reg [o 13 (.build [.s (⟨#[]⟩), .e (cs [.s]), .e Zc1] []), mV 14 6, on (.store 3 (t 4) (t 13)), mV 5 14])
 (.fz [4, 5] .ret))
 .skip)))
 (.seq (.reg [o 16 (.load true 3 (t 2)), mV 17 1, o 18 (.call 242 [(t 16), (t 17)]), mV 15 18, eX 19 15 0, eX 20 15 1, mV 7 19, mV 8 20])
 (.seq (.seq (.reg [mV 21 8, o 22 (.not (t 21))])
 (.cond (t 22) (.seq (.reg [o 23 (.build [.s (⟨#[]⟩), .e (cs [.s]), .e Zc1] []), on (.store 3 (t 4) (t 23)), o 5 (.mv (k 4))])
 (.fz [4, 5] .ret))
 .skip))
 (.seq (.reg [o 24 (.load true 3 (t 2)), fD 25 2 2, lD 26 25, mV 27 7, o 28 (.slcR 2 (t 26) none (some (t 27))), fD 29 2 2, lD 30 29, mV 31 7, o 32 (.bin .add (t 31) (k 1)), o 33 (.slcR 2 (t 30) (some (t 32)) none), o 34 (.bsl Zc16 2 [(0, (t 28)), (1, (t 33))]), o 35 (.call 285 [(t 34)]), o 36 (.call 280 [(t 24), (t 35)]), on (.store 3 (t 4) (t 36)), o 5 (.mv (k 0))])
 (.fz [4, 5] .ret))))))
def q97_F : VFn := ⟨true, 37, [.c 4 true 3, .t 5], q97_c⟩
def q97_f (lo : Lo) : FnE := ⟨249, true, ⟨[0, 1], [.ag [.s, .l (cs [.s]), .l Zc1], .i .i64], [], Zc6⟩, .tp [.ag [.s, .l (cs [.s]), .l Zc1], .i .i64], [], Zc6, (fun x => q97 lo x.1 x.2.1 x.2.2.1 x.2.2.2 : ByteArray × Zt2 × Zt3 × Int -> Option (ByteArray × Zt2 × Zt3 × Int))⟩
theorem q97_e (lo : Lo) : ∀ x : ByteArray × Zt2 × Zt3 × Int, evP (⟨pf, fs97 lo, [], 0⟩ : Tabs) q97_F ⟨[0, 1], [.ag [.s, .l (cs [.s]), .l Zc1], .i .i64], [], Zc6⟩ (.tp [.ag [.s, .l (cs [.s]), .l Zc1], .i .i64]) Zc6 x = q97 lo x.1 x.2.1 x.2.2.1 x.2.2.2 := fun x => by kernel_rfl
theorem q97_S {P : Program} {fm : FM} {lo : Lo} (hlo : LoOK lo) (hS : Sound P fm ⟨pf, fs97 lo, [], 0⟩) (hm : P.follows .mixedOrders = true) (htie : Ti P fm 249 q97_F) : Sound P fm ⟨pf, q97_f lo :: fs97 lo, [], 0⟩ :=
  fn_sound hS hm [] (q97_f lo) rfl q97_F htie (by decide) rfl (Nat.le_of_ble_eq_true (by kernel_rfl)) (fun C hT => show LK C _ q97_c from ⟨tv, ⟨⟨tv, ⟨tv, ⟨⟨tv, tv⟩, tv⟩⟩⟩, ⟨tv, ⟨⟨tv, ⟨⟨tv, tv⟩, tv⟩⟩, ⟨tv, tv⟩⟩⟩⟩⟩) (fun x y h => (q97_e lo x).trans h)
noncomputable def fs98 (lo : Lo) : List FnE := q97_f lo :: fs97 lo
def q98 (lo : Lo) (t0_0 : ByteArray) (t0_1 : List ByteArray) (t0_2 : List (Int × Zt0)) (id1 : Int) : Option (ByteArray × Zt2 × Zt3 × Int) :=
  Option.bind (q51 lo t0_0 t0_1 t0_2) fun y383 => bif (!decide (y383 = (0 : Int))) then (some ((ByteArray.mk #[]), ([] : List ByteArray), ([] : List (Int × Zt0)), y383)) else (Option.bind (q82 lo t0_0 t0_1 t0_2 id1) fun y384 => bif (!y384.2) then (some ((ByteArray.mk #[]), ([] : List ByteArray), ([] : List (Int × Zt0)), (4 : Int))) else (chk (0 <= (0 : Int) /\ (0 : Int) <= y384.1 /\ y384.1 <= (t0_2.length : Int)) (chk (((t0_2.take y384.1.toNat).drop 0).length <= maxEl) (chk (0 <= (IntKind.wrap .i64 (y384.1 + (1 : Int))) /\ (IntKind.wrap .i64 (y384.1 + (1 : Int))) <= (t0_2.length : Int) /\ (t0_2.length : Int) <= (t0_2.length : Int)) (chk (((t0_2.take y384.1.toNat).drop 0).length + ((t0_2.take (t0_2.length : Int).toNat).drop (IntKind.wrap .i64 (y384.1 + (1 : Int))).toNat).length <= maxEl) (Option.bind (q92 lo t0_0 t0_1 t0_2 (((t0_2.take y384.1.toNat).drop 0) ++ ((t0_2.take (t0_2.length : Int).toNat).drop (IntKind.wrap .i64 (y384.1 + (1 : Int))).toNat))) fun y385 => some (y385.1, y385.2.1, y385.2.2, (0 : Int))))))))
def q98_c : VCode :=
 (.seq (.reg [o 2 (.box (t 0)), o 4 (.alloc [.s (⟨#[]⟩), .e (cs [.s]), .e Zc1]), o 5 (.mv (k 0))])
 (.seq (.seq (.reg [o 9 (.load true 3 (t 2)), o 10 (.call 231 [(t 9)]), mV 6 10])
 (.seq (.reg [mV 11 6, o 12 (.bin .neq (t 11) (k 0))])
 (.cond (t 12) (.seq (.reg [o 13 (.build [.s (⟨#[]⟩), .e (cs [.s]), .e Zc1] []), mV 14 6, on (.store 3 (t 4) (t 13)), mV 5 14])
 (.fz [4, 5] .ret))
 .skip)))
 (.seq (.reg [o 16 (.load true 3 (t 2)), mV 17 1, o 18 (.call 243 [(t 16), (t 17)]), mV 15 18, eX 19 15 0, eX 20 15 1, mV 7 19, mV 8 20])
 (.seq (.seq (.reg [mV 21 8, o 22 (.not (t 21))])
 (.cond (t 22) (.seq (.reg [o 23 (.build [.s (⟨#[]⟩), .e (cs [.s]), .e Zc1] []), on (.store 3 (t 4) (t 23)), o 5 (.mv (k 4))])
 (.fz [4, 5] .ret))
 .skip))
 (.seq (.reg [⟨some 24, .load true 3 (t 2), none, true, false⟩, o 25 (.bsl Zc1 0 []), fD 26 2 2, lD 27 26, mV 28 7, o 29 (.slcR 2 (t 27) none (some (t 28))), ⟨some 30, .app Zc1 0 (t 25) (t 29), none, false, true⟩, fD 31 2 2, ⟨some 32, .load false 1 (t 31), none, true, false⟩, mV 33 7, o 34 (.bin .add (t 33) (k 1)), o 35 (.slcR 2 (t 32) (some (t 34)) none), ⟨some 36, .appD Zc1 (t 30) (t 35), none, false, true⟩, o 37 (.call 282 [(t 24), (t 36)]), on (.store 3 (t 4) (t 37)), o 5 (.mv (k 0))])
 (.fz [4, 5] .ret))))))
def q98_F : VFn := ⟨true, 38, [.c 4 true 3, .t 5], q98_c⟩
def q98_f (lo : Lo) : FnE := ⟨250, true, ⟨[0, 1], [.ag [.s, .l (cs [.s]), .l Zc1], .i .i64], [], Zc6⟩, .tp [.ag [.s, .l (cs [.s]), .l Zc1], .i .i64], [], Zc6, (fun x => q98 lo x.1 x.2.1 x.2.2.1 x.2.2.2 : ByteArray × Zt2 × Zt3 × Int -> Option (ByteArray × Zt2 × Zt3 × Int))⟩
theorem q98_e (lo : Lo) : ∀ x : ByteArray × Zt2 × Zt3 × Int, evP (⟨pf, fs98 lo, [], 0⟩ : Tabs) q98_F ⟨[0, 1], [.ag [.s, .l (cs [.s]), .l Zc1], .i .i64], [], Zc6⟩ (.tp [.ag [.s, .l (cs [.s]), .l Zc1], .i .i64]) Zc6 x = q98 lo x.1 x.2.1 x.2.2.1 x.2.2.2 := fun x => by kernel_rfl
theorem q98_S {P : Program} {fm : FM} {lo : Lo} (hlo : LoOK lo) (hS : Sound P fm ⟨pf, fs98 lo, [], 0⟩) (hm : P.follows .mixedOrders = true) (htie : Ti P fm 250 q98_F) : Sound P fm ⟨pf, q98_f lo :: fs98 lo, [], 0⟩ :=
  fn_sound hS hm [] (q98_f lo) rfl q98_F htie (by decide) rfl (Nat.le_of_ble_eq_true (by kernel_rfl)) (fun C hT => show LK C _ q98_c from ⟨tv, ⟨⟨tv, ⟨tv, ⟨⟨tv, tv⟩, tv⟩⟩⟩, ⟨tv, ⟨⟨tv, ⟨⟨tv, tv⟩, tv⟩⟩, ⟨tv, tv⟩⟩⟩⟩⟩) (fun x y h => (q98_e lo x).trans h)
noncomputable def fs99 (lo : Lo) : List FnE := q98_f lo :: fs98 lo
noncomputable def q99 (lo : Lo) (t0_0 : ByteArray) (t0_1 : List ByteArray) (t0_2 : List (Int × Zt0)) (id1 : Int) : Option Bool :=
  Option.bind (q44 lo) fun y371 => bif (!y371) then (Option.bind (q44 lo) fun y372 => some y372) else (Option.bind (q53 lo t0_0 t0_1 t0_2) fun y373 => bif (!y373) then (Option.bind (q44 lo) fun y374 => some y374) else (Option.bind (q97 lo t0_0 t0_1 t0_2 id1) fun y382 => Option.bind (q98 lo t0_0 t0_1 t0_2 id1) fun y386 => bif (decide (y382.2.2.2 = y386.2.2.2)) then (Option.bind (q66 lo y382.1 y382.2.1 y382.2.2.1 y386.1 y386.2.1 y386.2.2.1) fun y387 => some y387) else (some false)))
def q99_c : VCode :=
 (.seq (.reg [o 2 (.box (t 0)), o 4 (.mv (kb false))])
 (.seq (.seq (.reg [o 9 (.call 229 []), o 10 (.not (t 9)), mV 11 10, og 12 11 false (.load true 3 (t 2)), og 13 11 false (.call 232 [(t 12)]), og 14 11 false (.not (t 13)), o 15 (.pick (t 11) (kb true) (t 14))])
 (.cond (t 15) (.seq (.reg [o 16 (.call 229 []), mV 4 16])
 (.fz [4] .ret))
 .skip))
 (.seq (.reg [o 18 (.load true 3 (t 2)), mV 19 1, o 20 (.call 249 [(t 18), (t 19)]), mV 17 20, eX 21 17 0, eX 22 17 1, o 5 (.alloc [.s (⟨#[]⟩), .e (cs [.s]), .e Zc1]), on (.store 3 (t 5) (t 21)), mV 6 22])
 (.seq (.reg [o 24 (.load true 3 (t 2)), mV 25 1, o 26 (.call 250 [(t 24), (t 25)]), mV 23 26, eX 27 23 0, eX 28 23 1, o 7 (.alloc [.s (⟨#[]⟩), .e (cs [.s]), .e Zc1]), on (.store 3 (t 7) (t 27)), mV 8 28])
 (.seq (.reg [mV 29 6, mV 30 8, o 31 (.bin .eql (t 29) (t 30)), mV 32 31, og 33 32 true (.load true 3 (t 5)), og 34 32 true (.load true 3 (t 7)), og 35 32 true (.call 235 [(t 33), (t 34)]), o 36 (.pick (t 32) (t 35) (kb false)), mV 4 36])
 (.fz [4] .ret))))))
def q99_F : VFn := ⟨true, 37, [.t 4], q99_c⟩
noncomputable def q99_f (lo : Lo) : FnE := ⟨226, true, ⟨[0, 1], [.ag [.s, .l (cs [.s]), .l Zc1], .i .i64], [], Zc6⟩, .b, [], (cs [.b]), (fun x => q99 lo x.1 x.2.1 x.2.2.1 x.2.2.2 : ByteArray × Zt2 × Zt3 × Int -> Option Bool)⟩
theorem q99_e (lo : Lo) : ∀ x : ByteArray × Zt2 × Zt3 × Int, evP (⟨pf, fs99 lo, [], 0⟩ : Tabs) q99_F ⟨[0, 1], [.ag [.s, .l (cs [.s]), .l Zc1], .i .i64], [], Zc6⟩ (.b) (cs [.b]) x = q99 lo x.1 x.2.1 x.2.2.1 x.2.2.2 := fun x => by kernel_rfl
theorem q99_S {P : Program} {fm : FM} {lo : Lo} (hlo : LoOK lo) (hS : Sound P fm ⟨pf, fs99 lo, [], 0⟩) (hm : P.follows .mixedOrders = true) (htie : Ti P fm 226 q99_F) : Sound P fm ⟨pf, q99_f lo :: fs99 lo, [], 0⟩ :=
  fn_sound hS hm [] (q99_f lo) rfl q99_F htie (by decide) rfl (Nat.le_of_ble_eq_true (by kernel_rfl)) (fun C hT => show LK C _ q99_c from ⟨tv, ⟨⟨tv, ⟨⟨tv, tv⟩, tv⟩⟩, ⟨tv, ⟨tv, ⟨tv, tv⟩⟩⟩⟩⟩) (fun x y h => (q99_e lo x).trans h)
noncomputable def fs100 (lo : Lo) : List FnE := q99_f lo :: fs99 lo
end Go.Abs.G03
