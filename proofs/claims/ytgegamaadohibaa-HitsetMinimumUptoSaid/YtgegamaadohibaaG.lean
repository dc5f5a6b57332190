/- Functions of the program as functions of data (written by program). No condition. -/
import Derived.Test.YtgegamaadohibaaB
set_option linter.unusedVariables false
set_option linter.unusedSimpArgs false
set_option linter.unusedSectionVars false
namespace Go.Abs.G39
open Go Go.Abs
set_option maxRecDepth 100000
set_option linter.unusedVariables false
set_option maxHeartbeats 1000000
abbrev pf : Nat → Bool := fun g => !(List.any ([424, 425, 426, 427, 429, 430, 432, 435, 436, 437, 438, 439, 441, 442, 443, 444, 445, 446, 449, 450, 452, 453, 454, 455, 457, 196, 197, 198, 458, 208, 147, 162, 177, 178, 179, 181, 182, 184, 185, 194, 440, 245, 456] : List Nat) (Nat.beq g))
def fs0 (_ : Lo) : List FnE := []
def q0 (lo : Lo) : Option ((List Int) × (List ((List Int)))) :=
  some ([(2 : Int), (3 : Int), (4 : Int)], [[(0 : Int), (1 : Int)], [(1 : Int), (2 : Int)], [(0 : Int), (2 : Int)]])
def q0_c : VCode :=
 (.seq (.reg [o 0 (.alloc [.e (cs [I]), .e (cs [.l (cs [I])])])])
 (.seq (.reg [o 1 (.bsl (cs [I]) 3 [(0, (k 2)), (1, (k 3)), (2, (k 4))]), o 2 (.bsl (cs [I]) 2 [(0, (k 0)), (1, (k 1))]), o 3 (.bsl (cs [I]) 2 [(0, (k 1)), (1, (k 2))]), o 4 (.bsl (cs [I]) 2 [(0, (k 0)), (1, (k 2))]), o 5 (.bsl (cs [.l (cs [I])]) 3 [(0, (t 2)), (1, (t 3)), (2, (t 4))]), o 6 (.build [.e (cs [I]), .e (cs [.l (cs [I])])] [(0, 1, (t 1)), (1, 1, (t 5))]), on (.store 2 (t 0) (t 6))])
 (.fz [0] .ret)))
def q0_F : VFn := ⟨true, 7, [.c 0 true 2], q0_c⟩
def q0_f (lo : Lo) : FnE := ⟨420, true, ⟨[], [], [], (cs [])⟩, .ag [.l (cs [I]), .l (cs [.l (cs [I])])], [], (cs [.l (cs [I]), .l (cs [.l (cs [I])])]), (fun x => q0 lo  : Unit → Option ((List Int) × (List ((List Int)))))⟩
theorem q0_e (lo : Lo) : ∀ x : Unit, evP (⟨pf, fs0 lo, [], 0⟩ : Tabs) q0_F ⟨[], [], [], (cs [])⟩ (.ag [.l (cs [I]), .l (cs [.l (cs [I])])]) (cs [.l (cs [I]), .l (cs [.l (cs [I])])]) x = q0 lo  := fun x => by kernel_rfl
theorem q0_S {P : Program} {fm : FM} {lo : Lo} (hlo : LoOK lo) (hS : Sound P fm ⟨pf, fs0 lo, [], 0⟩) (hm : P.follows .mixedOrders = true) (htie : ∀ f, fm f = 420 → fnTr P fm pf f = some (q0_F.slots, q0_F.res, q0_F.code.er)) : Sound P fm ⟨pf, q0_f lo :: fs0 lo, [], 0⟩ :=
  fn_sound hS hm [] (q0_f lo) rfl q0_F htie (by decide) rfl (Nat.le_of_ble_eq_true (by kernel_rfl)) (fun C hT => show LsOK (fun _ => False) [] C (⟨pf, fs0 lo, [], 0⟩ : Tabs) q0_c from ⟨trivial, ⟨trivial, trivial⟩⟩) (fun x y h => (q0_e lo x).trans h)
def fs1 (lo : Lo) : List FnE := q0_f lo :: fs0 lo
def q1_L23_b : VCode :=
 (.seq (.reg [o 24 (.bin .lss (t 23) (t 22))])
 (.seq (.cond (t 24) .skip
 (.exit 0))
 (.seq (.blk 1 (.seq (.reg [o 25 (.iad 1 (t 21) (t 23)), o 26 (.load false 1 (t 25)), o 4 (.mv (t 26))])
 (.seq (.reg [o 27 (.mv (t 4)), o 28 (.bin .lss (t 27) (k 1)), o 29 (.mv (t 28)), og 30 29 false (.mv (t 4)), og 31 29 false (.bin .gtr (t 30) (k 1000000)), o 32 (.pick (t 29) (kb true) (t 31))])
 (.cond (t 32) (.seq (.reg [o 2 (.mv (k 1))])
 (.fz [2] .ret))
 .skip))))
 (.reg [o 33 (.bin .add (t 23) (k 1)), o 23 (.mv (t 33))]))))
def q1_L23_g : Sg := ⟨[1, 21, 22, 23], [.ptr 0 0 0, .l (cs [I]), .i .i64, .i .i64], [.st [.l (cs [I]), .l (cs [.l (cs [I])])]], (cs [.l (cs [I]), I, I, .l (cs [I]), .l (cs [.l (cs [I])])])⟩
def q1_L23_o : List Out1 := [⟨.ret, ⟨[2], [.i .i64], [], (cs [I])⟩⟩, ⟨.exit 0, ⟨[1], [.ptr 0 0 0], [.st [.l (cs [I]), .l (cs [.l (cs [I])])]], (cs [.l (cs [I]), .l (cs [.l (cs [I])])])⟩⟩]
def q1_L23_s (lo : Lo) : (List Int) × Int × Int × (List Int) × (List ((List Int))) → Option (((List Int) × Int × Int × (List Int) × (List ((List Int)))) ⊕ (Int ⊕ ((List Int) × (List ((List Int)))))) := fun x => match x with
  | (v21, v22, v23, in1_0, in1_1) => bif (decide (v23 < v22)) then (chk (0 ≤ v23 ∧ v23 < (v21.length : Int)) (bif (decide ((v21.getD v23.toNat (0 : Int)) < (1 : Int))) then (some (.inr (.inl (1 : Int)))) else (bif (decide ((1000000 : Int) < (v21.getD v23.toNat (0 : Int)))) then (some (.inr (.inl (1 : Int)))) else (some (.inl (v21, v22, (IntKind.wrap .i64 (v23 + (1 : Int))), in1_0, in1_1)))))) else (some (.inr (.inr (in1_0, in1_1))))
theorem q1_L23_e (lo : Lo) : ∀ x : (List Int) × Int × Int × (List Int) × (List ((List Int))), stepL (⟨pf, fs1 lo, [], 0⟩ : Tabs) [] q1_L23_g q1_L23_o q1_L23_b x = q1_L23_s lo x := fun x => by kernel_rfl
def q1_L23 (lo : Lo) : (List Int) × Int × Int × (List Int) × (List ((List Int))) → Option (Int ⊕ ((List Int) × (List ((List Int))))) := lo.run (q1_L23_s lo)
def q1_L23_p (lo : Lo) : LpE := ⟨23, [], q1_L23_g, q1_L23_o, q1_L23 lo⟩
theorem q1_L23_k {lo : Lo} (hlo : LoOK lo) (C : Ctx) (hT : TOK (⟨pf, fs1 lo, [], 0⟩ : Tabs) C) : LpSound (fun _ => False) [] 0 C (.loop q1_L23_b.er) (q1_L23_p lo) :=
  loop_sound (T := (⟨pf, fs1 lo, [], 0⟩ : Tabs)) hT frNo (show LsOK (fun _ => False) [] C (⟨pf, fs1 lo, [], 0⟩ : Tabs) q1_L23_b from ⟨trivial, ⟨⟨trivial, trivial⟩, ⟨⟨trivial, ⟨trivial, ⟨⟨trivial, trivial⟩, trivial⟩⟩⟩, trivial⟩⟩⟩) (fun x y h => loopO_congr (q1_L23_e lo) (hlo _ _ _ h))
def q1_L8_b : VCode :=
 (.seq (.reg [o 44 (.bin .lss (t 43) (t 42))])
 (.seq (.cond (t 44) .skip
 (.exit 4))
 (.seq (.blk 5 (.seq (.reg [o 45 (.iad 1 (t 41) (t 43)), o 46 (.load false 1 (t 45)), o 9 (.mv (t 46))])
 (.seq (.seq (.reg [o 47 (.mv (t 9)), o 48 (.mv (t 7)), o 49 (.bin .leq (t 47) (t 48)), o 50 (.mv (t 49)), og 51 50 false (.mv (t 9)), og 52 50 false (.fad 0 (t 1)), og 53 50 false (.load false 1 (t 52)), og 54 50 false (.len (t 53)), og 55 50 false (.bin .geq (t 51) (t 54)), o 56 (.pick (t 50) (kb true) (t 55))])
 (.cond (t 56) (.seq (.reg [o 2 (.mv (k 1))])
 (.fz [2] .ret))
 .skip))
 (.reg [o 57 (.mv (t 9)), o 7 (.mv (t 57))]))))
 (.reg [o 58 (.bin .add (t 43) (k 1)), o 43 (.mv (t 58))]))))
def q1_L8_g : Sg := ⟨[1, 6, 7, 35, 36, 37, 41, 42, 43], [.ptr 0 0 0, .l (cs [I]), .i .i64, .l (cs [.l (cs [I])]), .i .i64, .i .i64, .l (cs [I]), .i .i64, .i .i64], [.st [.l (cs [I]), .l (cs [.l (cs [I])])]], (cs [.l (cs [I]), I, .l (cs [.l (cs [I])]), I, I, .l (cs [I]), I, I, .l (cs [I]), .l (cs [.l (cs [I])])])⟩
def q1_L8_o : List Out1 := [⟨.ret, ⟨[2], [.i .i64], [], (cs [I])⟩⟩, ⟨.exit 4, ⟨[1, 6, 35, 36, 37], [.ptr 0 0 0, .l (cs [I]), .l (cs [.l (cs [I])]), .i .i64, .i .i64], [.st [.l (cs [I]), .l (cs [.l (cs [I])])]], (cs [.l (cs [I]), .l (cs [.l (cs [I])]), I, I, .l (cs [I]), .l (cs [.l (cs [I])])])⟩⟩]
def q1_L8_s (lo : Lo) : (List Int) × Int × (List ((List Int))) × Int × Int × (List Int) × Int × Int × (List Int) × (List ((List Int))) → Option (((List Int) × Int × (List ((List Int))) × Int × Int × (List Int) × Int × Int × (List Int) × (List ((List Int)))) ⊕ (Int ⊕ ((List Int) × (List ((List Int))) × Int × Int × (List Int) × (List ((List Int)))))) := fun x => match x with
  | (e6, last7, v35, v36, v37, v41, v42, v43, in1_0, in1_1) => bif (decide (v43 < v42)) then (chk (0 ≤ v43 ∧ v43 < (v41.length : Int)) (bif (decide ((v41.getD v43.toNat (0 : Int)) ≤ last7)) then (some (.inr (.inl (1 : Int)))) else (bif (decide ((in1_0.length : Int) ≤ (v41.getD v43.toNat (0 : Int)))) then (some (.inr (.inl (1 : Int)))) else (some (.inl (e6, (v41.getD v43.toNat (0 : Int)), v35, v36, v37, v41, v42, (IntKind.wrap .i64 (v43 + (1 : Int))), in1_0, in1_1)))))) else (some (.inr (.inr (e6, v35, v36, v37, in1_0, in1_1))))
theorem q1_L8_e (lo : Lo) : ∀ x : (List Int) × Int × (List ((List Int))) × Int × Int × (List Int) × Int × Int × (List Int) × (List ((List Int))), stepL (⟨pf, fs1 lo, [q1_L23_p lo], 0⟩ : Tabs) [] q1_L8_g q1_L8_o q1_L8_b x = q1_L8_s lo x := fun x => by kernel_rfl
def q1_L8 (lo : Lo) : (List Int) × Int × (List ((List Int))) × Int × Int × (List Int) × Int × Int × (List Int) × (List ((List Int))) → Option (Int ⊕ ((List Int) × (List ((List Int))) × Int × Int × (List Int) × (List ((List Int))))) := lo.run (q1_L8_s lo)
def q1_L8_p (lo : Lo) : LpE := ⟨8, [], q1_L8_g, q1_L8_o, q1_L8 lo⟩
theorem q1_L8_k {lo : Lo} (hlo : LoOK lo) (C : Ctx) (hT : TOK (⟨pf, fs1 lo, [q1_L23_p lo], 0⟩ : Tabs) C) : LpSound (fun _ => False) [] 0 C (.loop q1_L8_b.er) (q1_L8_p lo) :=
  loop_sound (T := (⟨pf, fs1 lo, [q1_L23_p lo], 0⟩ : Tabs)) hT frNo (show LsOK (fun _ => False) [] C (⟨pf, fs1 lo, [q1_L23_p lo], 0⟩ : Tabs) q1_L8_b from ⟨trivial, ⟨⟨trivial, trivial⟩, ⟨⟨trivial, ⟨⟨trivial, ⟨⟨trivial, trivial⟩, trivial⟩⟩, trivial⟩⟩, trivial⟩⟩⟩) (fun x y h => loopO_congr (q1_L8_e lo) (hlo _ _ _ h))
def q1_L3_b : VCode :=
 (.seq (.reg [o 38 (.bin .lss (t 37) (t 36))])
 (.seq (.cond (t 38) .skip
 (.exit 2))
 (.seq (.blk 3 (.seq (.reg [o 39 (.iad 1 (t 35) (t 37)), o 40 (.load false 1 (t 39)), o 6 (.mv (t 40))])
 (.seq (.reg [o 7 (.mv (k (-1)))])
 (.seq (.seq (.reg [o 41 (.mv (t 6)), o 42 (.len (t 41)), o 43 (.mv (k 0))])
 (.blk 4 (.loop 8 q1_L8_b)))
 (.seq (.reg [o 59 (.mv (t 6)), o 60 (.len (t 59)), o 61 (.bin .eql (t 60) (k 0))])
 (.cond (t 61) (.seq (.reg [o 2 (.mv (k 1))])
 (.fz [2] .ret))
 .skip))))))
 (.reg [o 62 (.bin .add (t 37) (k 1)), o 37 (.mv (t 62))]))))
def q1_L3_g : Sg := ⟨[1, 35, 36, 37], [.ptr 0 0 0, .l (cs [.l (cs [I])]), .i .i64, .i .i64], [.st [.l (cs [I]), .l (cs [.l (cs [I])])]], (cs [.l (cs [.l (cs [I])]), I, I, .l (cs [I]), .l (cs [.l (cs [I])])])⟩
def q1_L3_o : List Out1 := [⟨.ret, ⟨[2], [.i .i64], [], (cs [I])⟩⟩, ⟨.exit 2, ⟨[], [], [], (cs [])⟩⟩]
def q1_L3_s (lo : Lo) : (List ((List Int))) × Int × Int × (List Int) × (List ((List Int))) → Option (((List ((List Int))) × Int × Int × (List Int) × (List ((List Int)))) ⊕ (Int ⊕ Unit)) := fun x => match x with
  | (v35, v36, v37, in1_0, in1_1) => bif (decide (v37 < v36)) then (chk (0 ≤ v37 ∧ v37 < (v35.length : Int)) (Option.bind (q1_L8 lo ((v35.getD v37.toNat []), (-1 : Int), v35, v36, v37, (v35.getD v37.toNat []), ((v35.getD v37.toNat []).length : Int), (0 : Int), in1_0, in1_1)) fun y4 => alt2 y4 (fun y5 => some (.inr (.inl y5))) (fun y6 => bif (decide ((y6.1.length : Int) = (0 : Int))) then (some (.inr (.inl (1 : Int)))) else (some (.inl (y6.2.1, y6.2.2.1, (IntKind.wrap .i64 (y6.2.2.2.1 + (1 : Int))), y6.2.2.2.2.1, y6.2.2.2.2.2)))))) else (some (.inr (.inr ())))
theorem q1_L3_e (lo : Lo) : ∀ x : (List ((List Int))) × Int × Int × (List Int) × (List ((List Int))), stepL (⟨pf, fs1 lo, [q1_L8_p lo, q1_L23_p lo], 0⟩ : Tabs) [] q1_L3_g q1_L3_o q1_L3_b x = q1_L3_s lo x := fun x => by kernel_rfl
def q1_L3 (lo : Lo) : (List ((List Int))) × Int × Int × (List Int) × (List ((List Int))) → Option (Int ⊕ Unit) := lo.run (q1_L3_s lo)
def q1_L3_p (lo : Lo) : LpE := ⟨3, [], q1_L3_g, q1_L3_o, q1_L3 lo⟩
theorem q1_L3_k {lo : Lo} (hlo : LoOK lo) (C : Ctx) (hT : TOK (⟨pf, fs1 lo, [q1_L8_p lo, q1_L23_p lo], 0⟩ : Tabs) C) : LpSound (fun _ => False) [] 0 C (.loop q1_L3_b.er) (q1_L3_p lo) :=
  loop_sound (T := (⟨pf, fs1 lo, [q1_L8_p lo, q1_L23_p lo], 0⟩ : Tabs)) hT frNo (show LsOK (fun _ => False) [] C (⟨pf, fs1 lo, [q1_L8_p lo, q1_L23_p lo], 0⟩ : Tabs) q1_L3_b from ⟨trivial, ⟨⟨trivial, trivial⟩, ⟨⟨trivial, ⟨trivial, ⟨⟨trivial, (lsGet (by kernel_rfl) (q1_L8_k hlo C (tok_ls hT)))⟩, ⟨trivial, ⟨⟨trivial, trivial⟩, trivial⟩⟩⟩⟩⟩, trivial⟩⟩⟩) (fun x y h => loopO_congr (q1_L3_e lo) (hlo _ _ _ h))
def q1 (lo : Lo) (in0_0 : List Int) (in0_1 : List ((List Int))) : Option Int :=
  bif (decide ((200 : Int) < (in0_0.length : Int))) then (some (3 : Int)) else (bif (decide ((2000 : Int) < (in0_1.length : Int))) then (some (3 : Int)) else (Option.bind (q1_L23 lo (in0_0, (in0_0.length : Int), (0 : Int), in0_0, in0_1)) fun y1 => alt2 y1 (fun y2 => some y2) (fun y3 => Option.bind (q1_L3 lo (y3.2, (y3.2.length : Int), (0 : Int), y3.1, y3.2)) fun y7 => alt2 y7 (fun y8 => some y8) (fun y9 => some (0 : Int)))))
def q1_c : VCode :=
 (.seq (.reg [o 1 (.box (t 0)), o 2 (.mv (k 0))])
 (.seq (.seq (.reg [o 10 (.fad 0 (t 1)), o 11 (.load false 1 (t 10)), o 12 (.len (t 11)), o 13 (.bin .gtr (t 12) (k 200)), o 14 (.mv (t 13)), og 15 14 false (.fad 1 (t 1)), og 16 14 false (.load false 1 (t 15)), og 17 14 false (.len (t 16)), og 18 14 false (.bin .gtr (t 17) (k 2000)), o 19 (.pick (t 14) (kb true) (t 18))])
 (.cond (t 19) (.seq (.reg [o 2 (.mv (k 3))])
 (.fz [2] .ret))
 .skip))
 (.seq (.seq (.reg [o 20 (.fad 0 (t 1)), o 21 (.load false 1 (t 20)), o 22 (.len (t 21)), o 23 (.mv (k 0))])
 (.blk 0 (.loop 23 q1_L23_b)))
 (.seq (.seq (.reg [o 34 (.fad 1 (t 1)), o 35 (.load false 1 (t 34)), o 36 (.len (t 35)), o 37 (.mv (k 0))])
 (.blk 2 (.loop 3 q1_L3_b)))
 (.seq (.reg [o 2 (.mv (k 0))])
 (.fz [2] .ret))))))
def q1_F : VFn := ⟨true, 63, [.t 2], q1_c⟩
def q1_f (lo : Lo) : FnE := ⟨401, true, ⟨[0], [.ag [.l (cs [I]), .l (cs [.l (cs [I])])]], [], (cs [.l (cs [I]), .l (cs [.l (cs [I])])])⟩, .i .i64, [], (cs [I]), (fun x => q1 lo x.1 x.2 : (List Int) × (List ((List Int))) → Option Int)⟩
theorem q1_e (lo : Lo) : ∀ x : (List Int) × (List ((List Int))), evP (⟨pf, fs1 lo, [q1_L3_p lo, q1_L8_p lo, q1_L23_p lo], 0⟩ : Tabs) q1_F ⟨[0], [.ag [.l (cs [I]), .l (cs [.l (cs [I])])]], [], (cs [.l (cs [I]), .l (cs [.l (cs [I])])])⟩ (.i .i64) (cs [I]) x = q1 lo x.1 x.2 := fun x => by kernel_rfl
theorem q1_S {P : Program} {fm : FM} {lo : Lo} (hlo : LoOK lo) (hS : Sound P fm ⟨pf, fs1 lo, [], 0⟩) (hm : P.follows .mixedOrders = true) (htie : ∀ f, fm f = 401 → fnTr P fm pf f = some (q1_F.slots, q1_F.res, q1_F.code.er)) : Sound P fm ⟨pf, q1_f lo :: fs1 lo, [], 0⟩ :=
  fn_sound hS hm [q1_L3_p lo, q1_L8_p lo, q1_L23_p lo] (q1_f lo) rfl q1_F htie (by decide) rfl (Nat.le_of_ble_eq_true (by kernel_rfl)) (fun C hT => show LsOK (fun _ => False) [] C (⟨pf, fs1 lo, [q1_L3_p lo, q1_L8_p lo, q1_L23_p lo], 0⟩ : Tabs) q1_c from ⟨trivial, ⟨⟨trivial, ⟨⟨trivial, trivial⟩, trivial⟩⟩, ⟨⟨trivial, (lsGet (by kernel_rfl) (q1_L23_k hlo C (tok_ls hT)))⟩, ⟨⟨trivial, (lsGet (by kernel_rfl) (q1_L3_k hlo C (tok_ls hT)))⟩, ⟨trivial, trivial⟩⟩⟩⟩⟩) (fun x y h => (q1_e lo x).trans h)
def fs2 (lo : Lo) : List FnE := q1_f lo :: fs1 lo
def q2 (lo : Lo) (a0 : Int) (b1 : Int) (v2_0 : List Int) (v2_1 : List ((List Int))) : Option (Int × (List Int) × (List ((List Int)))) :=
  chk (0 ≤ b1 ∧ b1 < (v2_0.length : Int)) (chk (0 ≤ a0 ∧ a0 < (v2_0.length : Int)) (some ((IntKind.wrap .i64 ((v2_0.getD b1.toNat (0 : Int)) - (v2_0.getD a0.toNat (0 : Int)))), v2_0, v2_1)))
def q2_c : VCode :=
 (.seq (.reg [o 5 (.mv (k 0))])
 (.seq (.reg [o 6 (.fad 0 (t 2)), o 7 (.load false 1 (t 6)), o 8 (.mv (t 1)), o 9 (.iad 1 (t 7) (t 8)), o 10 (.load false 1 (t 9)), o 11 (.fad 0 (t 2)), o 12 (.load false 1 (t 11)), o 13 (.mv (t 0)), o 14 (.iad 1 (t 12) (t 13)), o 15 (.load false 1 (t 14)), o 16 (.bin .sub (t 10) (t 15)), o 5 (.mv (t 16))])
 .ret))
def q2_F : VFn := ⟨true, 17, [.t 5], q2_c⟩
def q2_f (lo : Lo) : FnE := ⟨425, false, ⟨[0, 1, 2], [.i .i64, .i .i64, .ptr 0 0 0], [.st [.l (cs [I]), .l (cs [.l (cs [I])])]], (cs [I, I, .l (cs [I]), .l (cs [.l (cs [I])])])⟩, .i .i64, [.st [.l (cs [I]), .l (cs [.l (cs [I])])]], (cs [I, .l (cs [I]), .l (cs [.l (cs [I])])]), (fun x => q2 lo x.1 x.2.1 x.2.2.1 x.2.2.2 : Int × Int × (List Int) × (List ((List Int))) → Option (Int × (List Int) × (List ((List Int)))))⟩
theorem q2_e (lo : Lo) : ∀ x : Int × Int × (List Int) × (List ((List Int))), evI (⟨pf, fs2 lo, [], 1⟩ : Tabs) q2_F ⟨[0, 1, 2], [.i .i64, .i .i64, .ptr 0 0 0], [.st [.l (cs [I]), .l (cs [.l (cs [I])])]], (cs [I, I, .l (cs [I]), .l (cs [.l (cs [I])])])⟩ (.i .i64) [.st [.l (cs [I]), .l (cs [.l (cs [I])])]] (cs [I, .l (cs [I]), .l (cs [.l (cs [I])])]) x = q2 lo x.1 x.2.1 x.2.2.1 x.2.2.2 := fun x => by kernel_rfl
theorem q2_S {P : Program} {fm : FM} {lo : Lo} (hlo : LoOK lo) (hS : Sound P fm ⟨pf, fs2 lo, [], 0⟩) (hm : P.follows .mixedOrders = true) (htie : ∀ f, fm f = 425 → fnTr P fm pf f = some (q2_F.slots, q2_F.res, q2_F.code.er)) : Sound P fm ⟨pf, q2_f lo :: fs2 lo, [], 0⟩ :=
  fnI_sound hS hm [] (q2_f lo) rfl q2_F htie (by decide) rfl (Nat.le_of_ble_eq_true (by kernel_rfl)) (fun C hT Fr H0 hf => show LsOK Fr H0 C (⟨pf, fs2 lo, [], 1⟩ : Tabs) q2_c from ⟨trivial, ⟨trivial, trivial⟩⟩) (fun x y h => (q2_e lo x).trans h)
def fs3 (lo : Lo) : List FnE := q2_f lo :: fs2 lo
def q3_L3_b : VCode :=
 (.seq (.seq (.reg [o 18 (.mv (t 9)), o 19 (.mv (t 1)), o 20 (.bin .gtr (t 18) (t 19)), o 21 (.mv (t 20)), og 22 21 true (.mv (t 3)), og 23 21 true (.mv (t 0)), og 24 21 true (.mv (t 9)), og 25 21 true (.iad 1 (t 23) (t 24)), og 26 21 true (.load false 1 (t 25)), og 27 21 true (.mv (t 0)), og 28 21 true (.mv (t 9)), og 29 21 true (.bin .sub (t 28) (k 1)), og 30 21 true (.iad 1 (t 27) (t 29)), og 31 21 true (.load false 1 (t 30)), og 32 21 true (.dyn (t 22) [(t 26), (t 31)]), og 33 21 true (.bin .lss (t 32) (k 0)), o 34 (.pick (t 21) (t 33) (kb false))])
 (.cond (t 34) .skip
 (.exit 2)))
 (.seq (.blk 3 (.reg [o 37 (.mv (t 0)), o 38 (.mv (t 9)), o 39 (.mv (t 0)), o 40 (.mv (t 9)), o 41 (.bin .sub (t 40) (k 1)), o 42 (.mv (t 0)), o 43 (.mv (t 9)), o 44 (.bin .sub (t 43) (k 1)), o 45 (.iad 1 (t 42) (t 44)), o 46 (.load false 1 (t 45)), o 47 (.mv (t 0)), o 48 (.mv (t 9)), o 49 (.iad 1 (t 47) (t 48)), o 50 (.load false 1 (t 49)), o 51 (.iad 1 (t 37) (t 38)), on (.store 1 (t 51) (t 46)), o 52 (.iad 1 (t 39) (t 41)), on (.store 1 (t 52) (t 50))]))
 (.reg [o 35 (.mv (t 9)), o 36 (.bin .sub (t 35) (k 1)), o 9 (.mv (t 36))])))
def q3_L3_g : Sg := ⟨[0, 1, 2, 3, 8, 9], [.ref 0, .i .i64, .i .i64, .clo 425 [.ptr 1 0 0], .i .i64, .i .i64], [.sq (cs [I]), .st [.l (cs [I]), .l (cs [.l (cs [I])])]], (cs [I, I, I, I, .l (cs [I]), .l (cs [I]), .l (cs [.l (cs [I])])])⟩
def q3_L3_o : List Out1 := [⟨.exit 2, ⟨[0, 1, 2, 3, 8], [.ref 0, .i .i64, .i .i64, .clo 425 [.ptr 1 0 0], .i .i64], [.sq (cs [I]), .st [.l (cs [I]), .l (cs [.l (cs [I])])]], (cs [I, I, I, .l (cs [I]), .l (cs [I]), .l (cs [.l (cs [I])])])⟩⟩]
def q3_L3_s (lo : Lo) : Int × Int × Int × Int × (List Int) × (List Int) × (List ((List Int))) → Option ((Int × Int × Int × Int × (List Int) × (List Int) × (List ((List Int)))) ⊕ ((Int × Int × Int × (List Int) × (List Int) × (List ((List Int)))))) := fun x => match x with
  | (a1, b2, i8, j9, data0, h1_0, h1_1) => bif (decide (a1 < j9)) then (chk (0 ≤ j9 ∧ j9 < (data0.length : Int)) (chk (0 ≤ (IntKind.wrap .i64 (j9 - (1 : Int))) ∧ (IntKind.wrap .i64 (j9 - (1 : Int))) < (data0.length : Int)) (Option.bind (q2 lo (data0.getD j9.toNat (0 : Int)) (data0.getD ((IntKind.wrap .i64 (j9 - (1 : Int))).toNat) (0 : Int)) h1_0 h1_1) fun y14 => bif (decide (y14.1 < (0 : Int))) then (chk (0 ≤ (IntKind.wrap .i64 (j9 - (1 : Int))) ∧ (IntKind.wrap .i64 (j9 - (1 : Int))) < (data0.length : Int)) (chk (0 ≤ j9 ∧ j9 < (data0.length : Int)) (chk (0 ≤ j9 ∧ j9 < (data0.length : Int)) (chk (0 ≤ (IntKind.wrap .i64 (j9 - (1 : Int))) ∧ (IntKind.wrap .i64 (j9 - (1 : Int))) < ((data0.set j9.toNat (data0.getD ((IntKind.wrap .i64 (j9 - (1 : Int))).toNat) (0 : Int))).length : Int)) (some (.inl (a1, b2, i8, (IntKind.wrap .i64 (j9 - (1 : Int))), ((data0.set j9.toNat (data0.getD ((IntKind.wrap .i64 (j9 - (1 : Int))).toNat) (0 : Int))).set ((IntKind.wrap .i64 (j9 - (1 : Int))).toNat) (data0.getD j9.toNat (0 : Int))), y14.2.1, y14.2.2))))))) else (some (.inr (a1, b2, i8, data0, y14.2.1, y14.2.2)))))) else (some (.inr (a1, b2, i8, data0, h1_0, h1_1)))
theorem q3_L3_e (lo : Lo) : ∀ x : Int × Int × Int × Int × (List Int) × (List Int) × (List ((List Int))), stepL (⟨pf, fs3 lo, [], 2⟩ : Tabs) [] q3_L3_g q3_L3_o q3_L3_b x = q3_L3_s lo x := fun x => by kernel_rfl
def q3_L3 (lo : Lo) : Int × Int × Int × Int × (List Int) × (List Int) × (List ((List Int))) → Option ((Int × Int × Int × (List Int) × (List Int) × (List ((List Int))))) := lo.run (q3_L3_s lo)
def q3_L3_p (lo : Lo) : LpE := ⟨3, [], q3_L3_g, q3_L3_o, q3_L3 lo⟩
theorem q3_L3_k {lo : Lo} (hlo : LoOK lo) (C : Ctx) (hT : TOK (⟨pf, fs3 lo, [], 2⟩ : Tabs) C) {Fr : Nat → Prop} {H0 : Heap} (hf : FrOK Fr H0) : LpSound Fr H0 2 C (.loop q3_L3_b.er) (q3_L3_p lo) :=
  loop_sound (T := (⟨pf, fs3 lo, [], 2⟩ : Tabs)) hT hf (show LsOK Fr H0 C (⟨pf, fs3 lo, [], 2⟩ : Tabs) q3_L3_b from ⟨⟨trivial, ⟨trivial, trivial⟩⟩, ⟨trivial, trivial⟩⟩) (fun x y h => loopO_congr (q3_L3_e lo) (hlo _ _ _ h))
def q3_L1_b : VCode :=
 (.seq (.seq (.reg [o 12 (.mv (t 8)), o 13 (.mv (t 2)), o 14 (.bin .lss (t 12) (t 13))])
 (.cond (t 14) .skip
 (.exit 0)))
 (.seq (.blk 1 (.seq (.reg [o 17 (.mv (t 8)), o 9 (.mv (t 17))])
 (.blk 2 (.loop 3 q3_L3_b))))
 (.reg [o 15 (.mv (t 8)), o 16 (.bin .add (t 15) (k 1)), o 8 (.mv (t 16))])))
def q3_L1_g : Sg := ⟨[0, 1, 2, 3, 8], [.ref 0, .i .i64, .i .i64, .clo 425 [.ptr 1 0 0], .i .i64], [.sq (cs [I]), .st [.l (cs [I]), .l (cs [.l (cs [I])])]], (cs [I, I, I, .l (cs [I]), .l (cs [I]), .l (cs [.l (cs [I])])])⟩
def q3_L1_o : List Out1 := [⟨.exit 0, ⟨[], [], [.sq (cs [I]), .st [.l (cs [I]), .l (cs [.l (cs [I])])]], (cs [.l (cs [I]), .l (cs [I]), .l (cs [.l (cs [I])])])⟩⟩]
def q3_L1_s (lo : Lo) : Int × Int × Int × (List Int) × (List Int) × (List ((List Int))) → Option ((Int × Int × Int × (List Int) × (List Int) × (List ((List Int)))) ⊕ (((List Int) × (List Int) × (List ((List Int)))))) := fun x => match x with
  | (a1, b2, i8, data0, h1_0, h1_1) => bif (decide (i8 < b2)) then (Option.bind (q3_L3 lo (a1, b2, i8, i8, data0, h1_0, h1_1)) fun y15 => some (.inl (y15.1, y15.2.1, (IntKind.wrap .i64 (y15.2.2.1 + (1 : Int))), y15.2.2.2.1, y15.2.2.2.2.1, y15.2.2.2.2.2))) else (some (.inr (data0, h1_0, h1_1)))
theorem q3_L1_e (lo : Lo) : ∀ x : Int × Int × Int × (List Int) × (List Int) × (List ((List Int))), stepL (⟨pf, fs3 lo, [q3_L3_p lo], 2⟩ : Tabs) [] q3_L1_g q3_L1_o q3_L1_b x = q3_L1_s lo x := fun x => by kernel_rfl
def q3_L1 (lo : Lo) : Int × Int × Int × (List Int) × (List Int) × (List ((List Int))) → Option (((List Int) × (List Int) × (List ((List Int))))) := lo.run (q3_L1_s lo)
def q3_L1_p (lo : Lo) : LpE := ⟨1, [], q3_L1_g, q3_L1_o, q3_L1 lo⟩
theorem q3_L1_k {lo : Lo} (hlo : LoOK lo) (C : Ctx) (hT : TOK (⟨pf, fs3 lo, [q3_L3_p lo], 2⟩ : Tabs) C) {Fr : Nat → Prop} {H0 : Heap} (hf : FrOK Fr H0) : LpSound Fr H0 2 C (.loop q3_L1_b.er) (q3_L1_p lo) :=
  loop_sound (T := (⟨pf, fs3 lo, [q3_L3_p lo], 2⟩ : Tabs)) hT hf (show LsOK Fr H0 C (⟨pf, fs3 lo, [q3_L3_p lo], 2⟩ : Tabs) q3_L1_b from ⟨⟨trivial, ⟨trivial, trivial⟩⟩, ⟨⟨trivial, (lsGet (by kernel_rfl) (q3_L3_k hlo C (tok_ls hT) hf))⟩, trivial⟩⟩) (fun x y h => loopO_congr (q3_L1_e lo) (hlo _ _ _ h))
def q3 (lo : Lo) (a1 : Int) (b2 : Int) (data0 : List Int) (h1_0 : List Int) (h1_1 : List ((List Int))) : Option ((List Int) × (List Int) × (List ((List Int)))) :=
  Option.bind (q3_L1 lo (a1, b2, (IntKind.wrap .i64 (a1 + (1 : Int))), data0, h1_0, h1_1)) fun y16 => some (y16.1, y16.2.1, y16.2.2)
def q3_c : VCode :=
 (.seq (.reg [o 10 (.mv (t 1)), o 11 (.bin .add (t 10) (k 1)), o 8 (.mv (t 11))])
 (.blk 0 (.loop 1 q3_L1_b)))
def q3_F : VFn := ⟨true, 53, [], q3_c⟩
def q3_f (lo : Lo) : FnE := ⟨452, false, ⟨[0, 1, 2, 3], [.ref 0, .i .i64, .i .i64, .clo 425 [.ptr 1 0 0]], [.sq (cs [I]), .st [.l (cs [I]), .l (cs [.l (cs [I])])]], (cs [I, I, .l (cs [I]), .l (cs [I]), .l (cs [.l (cs [I])])])⟩, .tp [], [.sq (cs [I]), .st [.l (cs [I]), .l (cs [.l (cs [I])])]], (cs [.l (cs [I]), .l (cs [I]), .l (cs [.l (cs [I])])]), (fun x => q3 lo x.1 x.2.1 x.2.2.1 x.2.2.2.1 x.2.2.2.2 : Int × Int × (List Int) × (List Int) × (List ((List Int))) → Option ((List Int) × (List Int) × (List ((List Int)))))⟩
theorem q3_e (lo : Lo) : ∀ x : Int × Int × (List Int) × (List Int) × (List ((List Int))), evI (⟨pf, fs3 lo, [q3_L1_p lo, q3_L3_p lo], 2⟩ : Tabs) q3_F ⟨[0, 1, 2, 3], [.ref 0, .i .i64, .i .i64, .clo 425 [.ptr 1 0 0]], [.sq (cs [I]), .st [.l (cs [I]), .l (cs [.l (cs [I])])]], (cs [I, I, .l (cs [I]), .l (cs [I]), .l (cs [.l (cs [I])])])⟩ (.tp []) [.sq (cs [I]), .st [.l (cs [I]), .l (cs [.l (cs [I])])]] (cs [.l (cs [I]), .l (cs [I]), .l (cs [.l (cs [I])])]) x = q3 lo x.1 x.2.1 x.2.2.1 x.2.2.2.1 x.2.2.2.2 := fun x => by kernel_rfl
theorem q3_S {P : Program} {fm : FM} {lo : Lo} (hlo : LoOK lo) (hS : Sound P fm ⟨pf, fs3 lo, [], 0⟩) (hm : P.follows .mixedOrders = true) (htie : ∀ f, fm f = 452 → fnTr P fm pf f = some (q3_F.slots, q3_F.res, q3_F.code.er)) : Sound P fm ⟨pf, q3_f lo :: fs3 lo, [], 0⟩ :=
  fnI_sound hS hm [q3_L1_p lo, q3_L3_p lo] (q3_f lo) rfl q3_F htie (by decide) rfl (Nat.le_of_ble_eq_true (by kernel_rfl)) (fun C hT Fr H0 hf => show LsOK Fr H0 C (⟨pf, fs3 lo, [q3_L1_p lo, q3_L3_p lo], 2⟩ : Tabs) q3_c from ⟨trivial, (lsGet (by kernel_rfl) (q3_L1_k hlo C (tok_ls hT) hf))⟩) (fun x y h => (q3_e lo x).trans h)
def fs4 (lo : Lo) : List FnE := q3_f lo :: fs3 lo
def q4 (lo : Lo) (x0 : Int) (x1 : Int) (x2 : Int) (x3 : List Int) (x4 : List Int) (x5 : List ((List Int))) : Option ((List Int) × (List Int) × (List ((List Int)))) := none
def q4_f (lo : Lo) : FnE := ⟨453, false, ⟨[0, 1, 2, 3, 4], [.ref 0, .i .i64, .i .i64, .i .i64, .clo 425 [.ptr 1 0 0]], [.sq (cs [I]), .st [.l (cs [I]), .l (cs [.l (cs [I])])]], (cs [I, I, I, .l (cs [I]), .l (cs [I]), .l (cs [.l (cs [I])])])⟩, .tp [], [.sq (cs [I]), .st [.l (cs [I]), .l (cs [.l (cs [I])])]], (cs [.l (cs [I]), .l (cs [I]), .l (cs [.l (cs [I])])]), (fun x => q4 lo x.1 x.2.1 x.2.2.1 x.2.2.2.1 x.2.2.2.2.1 x.2.2.2.2.2 : Int × Int × Int × (List Int) × (List Int) × (List ((List Int))) → Option ((List Int) × (List Int) × (List ((List Int)))))⟩
theorem q4_S {P : Program} {fm : FM} {lo : Lo} (hlo : LoOK lo) (hS : Sound P fm ⟨pf, fs4 lo, [], 0⟩) (hm : P.follows .mixedOrders = true) (hN : True) : Sound P fm ⟨pf, q4_f lo :: fs4 lo, [], 0⟩ :=
  none_sound hS (q4_f lo) (fun _ => rfl)
def fs5 (lo : Lo) : List FnE := q4_f lo :: fs4 lo
def q5_L16_b : VCode :=
 (.seq (.seq (.reg [o 11 (.mv (t 8)), o 12 (.mv (t 1)), o 13 (.bin .leq (t 11) (t 12))])
 (.cond (t 13) .skip
 (.exit 0)))
 (.blk 1 (.seq (.reg [o 14 (.mv (t 0)), o 15 (.mv (t 7)), o 16 (.mv (t 8)), o 17 (.mv (t 2)), o 18 (.call 452 [(t 14), (t 15), (t 16), (t 17)])])
 (.seq (.reg [o 19 (.mv (t 8)), o 7 (.mv (t 19))])
 (.reg [o 20 (.mv (t 8)), o 21 (.mv (t 6)), o 22 (.bin .add (t 20) (t 21)), o 8 (.mv (t 22))])))))
def q5_L16_g : Sg := ⟨[0, 1, 2, 6, 7, 8], [.ref 0, .i .i64, .clo 425 [.ptr 1 0 0], .i .i64, .i .i64, .i .i64], [.sq (cs [I]), .st [.l (cs [I]), .l (cs [.l (cs [I])])]], (cs [I, I, I, I, .l (cs [I]), .l (cs [I]), .l (cs [.l (cs [I])])])⟩
def q5_L16_o : List Out1 := [⟨.exit 0, ⟨[0, 1, 2, 6, 7], [.ref 0, .i .i64, .clo 425 [.ptr 1 0 0], .i .i64, .i .i64], [.sq (cs [I]), .st [.l (cs [I]), .l (cs [.l (cs [I])])]], (cs [I, I, I, .l (cs [I]), .l (cs [I]), .l (cs [.l (cs [I])])])⟩⟩]
def q5_L16_s (lo : Lo) : Int × Int × Int × Int × (List Int) × (List Int) × (List ((List Int))) → Option ((Int × Int × Int × Int × (List Int) × (List Int) × (List ((List Int)))) ⊕ ((Int × Int × Int × (List Int) × (List Int) × (List ((List Int)))))) := fun x => match x with
  | (n1, blockSize6, a7, b8, data0, h1_0, h1_1) => bif (decide (b8 ≤ n1)) then (Option.bind (q3 lo a7 b8 data0 h1_0 h1_1) fun y17 => chk (y17.1.length = data0.length) (some (.inl (n1, blockSize6, b8, (IntKind.wrap .i64 (b8 + blockSize6)), y17.1, y17.2.1, y17.2.2)))) else (some (.inr (n1, blockSize6, a7, data0, h1_0, h1_1)))
theorem q5_L16_e (lo : Lo) : ∀ x : Int × Int × Int × Int × (List Int) × (List Int) × (List ((List Int))), stepL (⟨pf, fs5 lo, [], 2⟩ : Tabs) [] q5_L16_g q5_L16_o q5_L16_b x = q5_L16_s lo x := fun x => by kernel_rfl
def q5_L16 (lo : Lo) : Int × Int × Int × Int × (List Int) × (List Int) × (List ((List Int))) → Option ((Int × Int × Int × (List Int) × (List Int) × (List ((List Int))))) := lo.run (q5_L16_s lo)
def q5_L16_p (lo : Lo) : LpE := ⟨16, [], q5_L16_g, q5_L16_o, q5_L16 lo⟩
theorem q5_L16_k {lo : Lo} (hlo : LoOK lo) (C : Ctx) (hT : TOK (⟨pf, fs5 lo, [], 2⟩ : Tabs) C) {Fr : Nat → Prop} {H0 : Heap} (hf : FrOK Fr H0) : LpSound Fr H0 2 C (.loop q5_L16_b.er) (q5_L16_p lo) :=
  loop_sound (T := (⟨pf, fs5 lo, [], 2⟩ : Tabs)) hT hf (show LsOK Fr H0 C (⟨pf, fs5 lo, [], 2⟩ : Tabs) q5_L16_b from ⟨⟨trivial, ⟨trivial, trivial⟩⟩, ⟨trivial, ⟨trivial, trivial⟩⟩⟩) (fun x y h => loopO_congr (q5_L16_e lo) (hlo _ _ _ h))
def q5_L6_b : VCode :=
 (.seq (.seq (.reg [o 33 (.mv (t 8)), o 34 (.mv (t 1)), o 35 (.bin .leq (t 33) (t 34))])
 (.cond (t 35) .skip
 (.exit 4)))
 (.blk 5 (.seq (.reg [o 36 (.mv (t 0)), o 37 (.mv (t 7)), o 38 (.mv (t 7)), o 39 (.mv (t 6)), o 40 (.bin .add (t 38) (t 39)), o 41 (.mv (t 8)), o 42 (.mv (t 2)), o 43 (.call 453 [(t 36), (t 37), (t 40), (t 41), (t 42)])])
 (.seq (.reg [o 44 (.mv (t 8)), o 7 (.mv (t 44))])
 (.reg [o 45 (.mv (t 8)), o 46 (.mv (t 6)), o 47 (.bin .mul (k 2) (t 46)), o 48 (.bin .add (t 45) (t 47)), o 8 (.mv (t 48))])))))
def q5_L6_g : Sg := ⟨[0, 1, 2, 6, 7, 8], [.ref 0, .i .i64, .clo 425 [.ptr 1 0 0], .i .i64, .i .i64, .i .i64], [.sq (cs [I]), .st [.l (cs [I]), .l (cs [.l (cs [I])])]], (cs [I, I, I, I, .l (cs [I]), .l (cs [I]), .l (cs [.l (cs [I])])])⟩
def q5_L6_o : List Out1 := [⟨.exit 4, ⟨[0, 1, 2, 6, 7], [.ref 0, .i .i64, .clo 425 [.ptr 1 0 0], .i .i64, .i .i64], [.sq (cs [I]), .st [.l (cs [I]), .l (cs [.l (cs [I])])]], (cs [I, I, I, .l (cs [I]), .l (cs [I]), .l (cs [.l (cs [I])])])⟩⟩]
def q5_L6_s (lo : Lo) : Int × Int × Int × Int × (List Int) × (List Int) × (List ((List Int))) → Option ((Int × Int × Int × Int × (List Int) × (List Int) × (List ((List Int)))) ⊕ ((Int × Int × Int × (List Int) × (List Int) × (List ((List Int)))))) := fun x => match x with
  | (n1, blockSize6, a7, b8, data0, h1_0, h1_1) => bif (decide (b8 ≤ n1)) then (Option.bind (q4 lo a7 (IntKind.wrap .i64 (a7 + blockSize6)) b8 data0 h1_0 h1_1) fun y20 => chk (y20.1.length = data0.length) (some (.inl (n1, blockSize6, b8, (IntKind.wrap .i64 (b8 + (IntKind.wrap .i64 ((2 : Int) * blockSize6)))), y20.1, y20.2.1, y20.2.2)))) else (some (.inr (n1, blockSize6, a7, data0, h1_0, h1_1)))
theorem q5_L6_e (lo : Lo) : ∀ x : Int × Int × Int × Int × (List Int) × (List Int) × (List ((List Int))), stepL (⟨pf, fs5 lo, [q5_L16_p lo], 2⟩ : Tabs) [] q5_L6_g q5_L6_o q5_L6_b x = q5_L6_s lo x := fun x => by kernel_rfl
def q5_L6 (lo : Lo) : Int × Int × Int × Int × (List Int) × (List Int) × (List ((List Int))) → Option ((Int × Int × Int × (List Int) × (List Int) × (List ((List Int))))) := lo.run (q5_L6_s lo)
def q5_L6_p (lo : Lo) : LpE := ⟨6, [], q5_L6_g, q5_L6_o, q5_L6 lo⟩
theorem q5_L6_k {lo : Lo} (hlo : LoOK lo) (C : Ctx) (hT : TOK (⟨pf, fs5 lo, [q5_L16_p lo], 2⟩ : Tabs) C) {Fr : Nat → Prop} {H0 : Heap} (hf : FrOK Fr H0) : LpSound Fr H0 2 C (.loop q5_L6_b.er) (q5_L6_p lo) :=
  loop_sound (T := (⟨pf, fs5 lo, [q5_L16_p lo], 2⟩ : Tabs)) hT hf (show LsOK Fr H0 C (⟨pf, fs5 lo, [q5_L16_p lo], 2⟩ : Tabs) q5_L6_b from ⟨⟨trivial, ⟨trivial, trivial⟩⟩, ⟨trivial, ⟨trivial, trivial⟩⟩⟩) (fun x y h => loopO_congr (q5_L6_e lo) (hlo _ _ _ h))
def q5_L1_b : VCode :=
 (.seq (.seq (.reg [o 28 (.mv (t 6)), o 29 (.mv (t 1)), o 30 (.bin .lss (t 28) (t 29))])
 (.cond (t 30) .skip
 (.exit 2)))
 (.blk 3 (.seq (.reg [o 31 (.mv (t 6)), o 32 (.bin .mul (k 2) (t 31)), o 7 (.mv (k 0)), o 8 (.mv (t 32))])
 (.seq (.blk 4 (.loop 6 q5_L6_b))
 (.seq (.seq (.reg [o 49 (.mv (t 7)), o 50 (.mv (t 6)), o 51 (.bin .add (t 49) (t 50)), o 9 (.mv (t 51))])
 (.seq (.reg [o 52 (.mv (t 9)), o 53 (.mv (t 1)), o 54 (.bin .lss (t 52) (t 53))])
 (.cond (t 54) (.reg [o 55 (.mv (t 0)), o 56 (.mv (t 7)), o 57 (.mv (t 9)), o 58 (.mv (t 1)), o 59 (.mv (t 2)), o 60 (.call 453 [(t 55), (t 56), (t 57), (t 58), (t 59)])])
 .skip)))
 (.reg [o 61 (.mv (t 6)), o 62 (.bin .mul (t 61) (k 2)), o 6 (.mv (t 62))]))))))
def q5_L1_g : Sg := ⟨[0, 1, 2, 6], [.ref 0, .i .i64, .clo 425 [.ptr 1 0 0], .i .i64], [.sq (cs [I]), .st [.l (cs [I]), .l (cs [.l (cs [I])])]], (cs [I, I, .l (cs [I]), .l (cs [I]), .l (cs [.l (cs [I])])])⟩
def q5_L1_o : List Out1 := [⟨.exit 2, ⟨[], [], [.sq (cs [I]), .st [.l (cs [I]), .l (cs [.l (cs [I])])]], (cs [.l (cs [I]), .l (cs [I]), .l (cs [.l (cs [I])])])⟩⟩]
def q5_L1_s (lo : Lo) : Int × Int × (List Int) × (List Int) × (List ((List Int))) → Option ((Int × Int × (List Int) × (List Int) × (List ((List Int)))) ⊕ (((List Int) × (List Int) × (List ((List Int)))))) := fun x => match x with
  | (n1, blockSize6, data0, h1_0, h1_1) => bif (decide (blockSize6 < n1)) then (Option.bind (q5_L6 lo (n1, blockSize6, (0 : Int), (IntKind.wrap .i64 ((2 : Int) * blockSize6)), data0, h1_0, h1_1)) fun y21 => bif (decide ((IntKind.wrap .i64 (y21.2.2.1 + y21.2.1)) < y21.1)) then (Option.bind (q4 lo y21.2.2.1 (IntKind.wrap .i64 (y21.2.2.1 + y21.2.1)) y21.1 y21.2.2.2.1 y21.2.2.2.2.1 y21.2.2.2.2.2) fun y22 => chk (y22.1.length = y21.2.2.2.1.length) (some (.inl (y21.1, (IntKind.wrap .i64 (y21.2.1 * (2 : Int))), y22.1, y22.2.1, y22.2.2)))) else (some (.inl (y21.1, (IntKind.wrap .i64 (y21.2.1 * (2 : Int))), y21.2.2.2.1, y21.2.2.2.2.1, y21.2.2.2.2.2)))) else (some (.inr (data0, h1_0, h1_1)))
theorem q5_L1_e (lo : Lo) : ∀ x : Int × Int × (List Int) × (List Int) × (List ((List Int))), stepL (⟨pf, fs5 lo, [q5_L6_p lo, q5_L16_p lo], 2⟩ : Tabs) [] q5_L1_g q5_L1_o q5_L1_b x = q5_L1_s lo x := fun x => by kernel_rfl
def q5_L1 (lo : Lo) : Int × Int × (List Int) × (List Int) × (List ((List Int))) → Option (((List Int) × (List Int) × (List ((List Int))))) := lo.run (q5_L1_s lo)
def q5_L1_p (lo : Lo) : LpE := ⟨1, [], q5_L1_g, q5_L1_o, q5_L1 lo⟩
theorem q5_L1_k {lo : Lo} (hlo : LoOK lo) (C : Ctx) (hT : TOK (⟨pf, fs5 lo, [q5_L6_p lo, q5_L16_p lo], 2⟩ : Tabs) C) {Fr : Nat → Prop} {H0 : Heap} (hf : FrOK Fr H0) : LpSound Fr H0 2 C (.loop q5_L1_b.er) (q5_L1_p lo) :=
  loop_sound (T := (⟨pf, fs5 lo, [q5_L6_p lo, q5_L16_p lo], 2⟩ : Tabs)) hT hf (show LsOK Fr H0 C (⟨pf, fs5 lo, [q5_L6_p lo, q5_L16_p lo], 2⟩ : Tabs) q5_L1_b from ⟨⟨trivial, ⟨trivial, trivial⟩⟩, ⟨trivial, ⟨(lsGet (by kernel_rfl) (q5_L6_k hlo C (tok_ls hT) hf)), ⟨⟨trivial, ⟨trivial, ⟨trivial, trivial⟩⟩⟩, trivial⟩⟩⟩⟩) (fun x y h => loopO_congr (q5_L1_e lo) (hlo _ _ _ h))
def q5 (lo : Lo) (n1 : Int) (data0 : List Int) (h1_0 : List Int) (h1_1 : List ((List Int))) : Option ((List Int) × (List Int) × (List ((List Int)))) :=
  Option.bind (q5_L16 lo (n1, (20 : Int), (0 : Int), (20 : Int), data0, h1_0, h1_1)) fun y18 => Option.bind (q3 lo y18.2.2.1 y18.1 y18.2.2.2.1 y18.2.2.2.2.1 y18.2.2.2.2.2) fun y19 => chk (y19.1.length = y18.2.2.2.1.length) (Option.bind (q5_L1 lo (y18.1, y18.2.1, y19.1, y19.2.1, y19.2.2)) fun y23 => some (y23.1, y23.2.1, y23.2.2))
def q5_c : VCode :=
 (.seq (.reg [o 6 (.mv (k 20))])
 (.seq (.reg [o 10 (.mv (t 6)), o 7 (.mv (k 0)), o 8 (.mv (t 10))])
 (.seq (.blk 0 (.loop 16 q5_L16_b))
 (.seq (.reg [o 23 (.mv (t 0)), o 24 (.mv (t 7)), o 25 (.mv (t 1)), o 26 (.mv (t 2)), o 27 (.call 452 [(t 23), (t 24), (t 25), (t 26)])])
 (.blk 2 (.loop 1 q5_L1_b))))))
def q5_F : VFn := ⟨true, 63, [], q5_c⟩
def q5_f (lo : Lo) : FnE := ⟨441, false, ⟨[0, 1, 2], [.ref 0, .i .i64, .clo 425 [.ptr 1 0 0]], [.sq (cs [I]), .st [.l (cs [I]), .l (cs [.l (cs [I])])]], (cs [I, .l (cs [I]), .l (cs [I]), .l (cs [.l (cs [I])])])⟩, .tp [], [.sq (cs [I]), .st [.l (cs [I]), .l (cs [.l (cs [I])])]], (cs [.l (cs [I]), .l (cs [I]), .l (cs [.l (cs [I])])]), (fun x => q5 lo x.1 x.2.1 x.2.2.1 x.2.2.2 : Int × (List Int) × (List Int) × (List ((List Int))) → Option ((List Int) × (List Int) × (List ((List Int)))))⟩
theorem q5_e (lo : Lo) : ∀ x : Int × (List Int) × (List Int) × (List ((List Int))), evI (⟨pf, fs5 lo, [q5_L1_p lo, q5_L6_p lo, q5_L16_p lo], 2⟩ : Tabs) q5_F ⟨[0, 1, 2], [.ref 0, .i .i64, .clo 425 [.ptr 1 0 0]], [.sq (cs [I]), .st [.l (cs [I]), .l (cs [.l (cs [I])])]], (cs [I, .l (cs [I]), .l (cs [I]), .l (cs [.l (cs [I])])])⟩ (.tp []) [.sq (cs [I]), .st [.l (cs [I]), .l (cs [.l (cs [I])])]] (cs [.l (cs [I]), .l (cs [I]), .l (cs [.l (cs [I])])]) x = q5 lo x.1 x.2.1 x.2.2.1 x.2.2.2 := fun x => by kernel_rfl
theorem q5_S {P : Program} {fm : FM} {lo : Lo} (hlo : LoOK lo) (hS : Sound P fm ⟨pf, fs5 lo, [], 0⟩) (hm : P.follows .mixedOrders = true) (htie : ∀ f, fm f = 441 → fnTr P fm pf f = some (q5_F.slots, q5_F.res, q5_F.code.er)) : Sound P fm ⟨pf, q5_f lo :: fs5 lo, [], 0⟩ :=
  fnI_sound hS hm [q5_L1_p lo, q5_L6_p lo, q5_L16_p lo] (q5_f lo) rfl q5_F htie (by decide) rfl (Nat.le_of_ble_eq_true (by kernel_rfl)) (fun C hT Fr H0 hf => show LsOK Fr H0 C (⟨pf, fs5 lo, [q5_L1_p lo, q5_L6_p lo, q5_L16_p lo], 2⟩ : Tabs) q5_c from ⟨trivial, ⟨trivial, ⟨(lsGet (by kernel_rfl) (q5_L16_k hlo C (tok_ls hT) hf)), ⟨trivial, (lsGet (by kernel_rfl) (q5_L1_k hlo C (tok_ls hT) hf))⟩⟩⟩⟩) (fun x y h => (q5_e lo x).trans h)
def fs6 (lo : Lo) : List FnE := q5_f lo :: fs5 lo
def q6 (lo : Lo) (x0 : List Int) (h1_0 : List Int) (h1_1 : List ((List Int))) : Option ((List Int) × (List Int) × (List ((List Int)))) :=
  Option.bind (q5 lo (x0.length : Int) x0 h1_0 h1_1) fun y24 => chk (y24.1.length = x0.length) (some (y24.1, y24.2.1, y24.2.2))
def q6_c : VCode :=
 (.reg [o 4 (.mv (t 0)), o 5 (.mv (t 0)), o 6 (.len (t 5)), o 7 (.mv (t 1)), o 8 (.call 441 [(t 4), (t 6), (t 7)])])
def q6_F : VFn := ⟨true, 9, [], q6_c⟩
def q6_f (lo : Lo) : FnE := ⟨424, false, ⟨[0, 1], [.ref 0, .clo 425 [.ptr 1 0 0]], [.sq (cs [I]), .st [.l (cs [I]), .l (cs [.l (cs [I])])]], (cs [.l (cs [I]), .l (cs [I]), .l (cs [.l (cs [I])])])⟩, .tp [], [.sq (cs [I]), .st [.l (cs [I]), .l (cs [.l (cs [I])])]], (cs [.l (cs [I]), .l (cs [I]), .l (cs [.l (cs [I])])]), (fun x => q6 lo x.1 x.2.1 x.2.2 : (List Int) × (List Int) × (List ((List Int))) → Option ((List Int) × (List Int) × (List ((List Int)))))⟩
theorem q6_e (lo : Lo) : ∀ x : (List Int) × (List Int) × (List ((List Int))), evI (⟨pf, fs6 lo, [], 2⟩ : Tabs) q6_F ⟨[0, 1], [.ref 0, .clo 425 [.ptr 1 0 0]], [.sq (cs [I]), .st [.l (cs [I]), .l (cs [.l (cs [I])])]], (cs [.l (cs [I]), .l (cs [I]), .l (cs [.l (cs [I])])])⟩ (.tp []) [.sq (cs [I]), .st [.l (cs [I]), .l (cs [.l (cs [I])])]] (cs [.l (cs [I]), .l (cs [I]), .l (cs [.l (cs [I])])]) x = q6 lo x.1 x.2.1 x.2.2 := fun x => by kernel_rfl
theorem q6_S {P : Program} {fm : FM} {lo : Lo} (hlo : LoOK lo) (hS : Sound P fm ⟨pf, fs6 lo, [], 0⟩) (hm : P.follows .mixedOrders = true) (htie : ∀ f, fm f = 424 → fnTr P fm pf f = some (q6_F.slots, q6_F.res, q6_F.code.er)) : Sound P fm ⟨pf, q6_f lo :: fs6 lo, [], 0⟩ :=
  fnI_sound hS hm [] (q6_f lo) rfl q6_F htie (by decide) rfl (Nat.le_of_ble_eq_true (by kernel_rfl)) (fun C hT Fr H0 hf => show LsOK Fr H0 C (⟨pf, fs6 lo, [], 2⟩ : Tabs) q6_c from trivial) (fun x y h => (q6_e lo x).trans h)
def fs7 (lo : Lo) : List FnE := q6_f lo :: fs6 lo
def q7 (lo : Lo) (i0 : Int) (h1 : List Int) : Option (Bool × (List Int)) :=
  chk (0 ≤ i0 ∧ i0 < (h1.length : Int)) (some ((decide (h1.getD i0.toNat (0 : Int) = (1 : Int))), h1))
def q7_c : VCode :=
 (.seq (.reg [o 3 (.mv (kb false))])
 (.seq (.reg [o 4 (.load false 1 (t 1)), o 5 (.mv (t 0)), o 6 (.iad 1 (t 4) (t 5)), o 7 (.load false 1 (t 6)), o 8 (.bin .eql (t 7) (k 1)), o 3 (.mv (t 8))])
 .ret))
def q7_F : VFn := ⟨true, 9, [.t 3], q7_c⟩
def q7_f (lo : Lo) : FnE := ⟨427, false, ⟨[0, 1], [.i .i64, .ptr 0 0 0], [.st [.ref 1], .sq (cs [I])], (cs [I, .l (cs [I])])⟩, .b, [.st [.ref 1], .sq (cs [I])], (cs [.b, .l (cs [I])]), (fun x => q7 lo x.1 x.2 : Int × (List Int) → Option (Bool × (List Int)))⟩
theorem q7_e (lo : Lo) : ∀ x : Int × (List Int), evI (⟨pf, fs7 lo, [], 2⟩ : Tabs) q7_F ⟨[0, 1], [.i .i64, .ptr 0 0 0], [.st [.ref 1], .sq (cs [I])], (cs [I, .l (cs [I])])⟩ (.b) [.st [.ref 1], .sq (cs [I])] (cs [.b, .l (cs [I])]) x = q7 lo x.1 x.2 := fun x => by kernel_rfl
theorem q7_S {P : Program} {fm : FM} {lo : Lo} (hlo : LoOK lo) (hS : Sound P fm ⟨pf, fs7 lo, [], 0⟩) (hm : P.follows .mixedOrders = true) (htie : ∀ f, fm f = 427 → fnTr P fm pf f = some (q7_F.slots, q7_F.res, q7_F.code.er)) : Sound P fm ⟨pf, q7_f lo :: fs7 lo, [], 0⟩ :=
  fnI_sound hS hm [] (q7_f lo) rfl q7_F htie (by decide) rfl (Nat.le_of_ble_eq_true (by kernel_rfl)) (fun C hT Fr H0 hf => show LsOK Fr H0 C (⟨pf, fs7 lo, [], 2⟩ : Tabs) q7_c from ⟨trivial, ⟨trivial, trivial⟩⟩) (fun x y h => (q7_e lo x).trans h)
def fs8 (lo : Lo) : List FnE := q7_f lo :: fs7 lo
def q8_L3_b : VCode :=
 (.seq (.reg [o 9 (.bin .lss (t 8) (t 7))])
 (.seq (.cond (t 9) .skip
 (.exit 0))
 (.seq (.blk 1 (.seq (.reg [o 10 (.mv (t 8)), o 5 (.mv (t 10))])
 (.seq (.reg [o 11 (.mv (t 1)), o 12 (.mv (t 0)), o 13 (.mv (t 5)), o 14 (.iad 1 (t 12) (t 13)), o 15 (.load false 1 (t 14)), o 16 (.dyn (t 11) [(t 15)])])
 (.cond (t 16) (.seq (.reg [o 17 (.mv (t 5)), o 4 (.mv (t 17))])
 .ret)
 .skip))))
 (.reg [o 18 (.bin .add (t 8) (k 1)), o 8 (.mv (t 18))]))))
def q8_L3_g : Sg := ⟨[0, 1, 7, 8], [.l (cs [I]), .clo 427 [.ptr 0 0 0], .i .i64, .i .i64], [.st [.ref 1], .sq (cs [I])], (cs [.l (cs [I]), I, I, .l (cs [I])])⟩
def q8_L3_o : List Out1 := [⟨.ret, ⟨[4], [.i .i64], [.st [.ref 1], .sq (cs [I])], (cs [I, .l (cs [I])])⟩⟩, ⟨.exit 0, ⟨[], [], [.st [.ref 1], .sq (cs [I])], (cs [.l (cs [I])])⟩⟩]
def q8_L3_s (lo : Lo) : (List Int) × Int × Int × (List Int) → Option (((List Int) × Int × Int × (List Int)) ⊕ ((Int × (List Int)) ⊕ ((List Int)))) := fun x => match x with
  | (s0, v7, v8, h1) => bif (decide (v8 < v7)) then (chk (0 ≤ v8 ∧ v8 < (s0.length : Int)) (Option.bind (q7 lo (s0.getD v8.toNat (0 : Int)) h1) fun y31 => chk (y31.2.length = h1.length) (bif y31.1 then (some (.inr (.inl (v8, y31.2)))) else (some (.inl (s0, v7, (IntKind.wrap .i64 (v8 + (1 : Int))), y31.2)))))) else (some (.inr (.inr h1)))
theorem q8_L3_e (lo : Lo) : ∀ x : (List Int) × Int × Int × (List Int), stepL (⟨pf, fs8 lo, [], 2⟩ : Tabs) [] q8_L3_g q8_L3_o q8_L3_b x = q8_L3_s lo x := fun x => by kernel_rfl
def q8_L3 (lo : Lo) : (List Int) × Int × Int × (List Int) → Option ((Int × (List Int)) ⊕ ((List Int))) := lo.run (q8_L3_s lo)
def q8_L3_p (lo : Lo) : LpE := ⟨3, [], q8_L3_g, q8_L3_o, q8_L3 lo⟩
theorem q8_L3_k {lo : Lo} (hlo : LoOK lo) (C : Ctx) (hT : TOK (⟨pf, fs8 lo, [], 2⟩ : Tabs) C) {Fr : Nat → Prop} {H0 : Heap} (hf : FrOK Fr H0) : LpSound Fr H0 2 C (.loop q8_L3_b.er) (q8_L3_p lo) :=
  loop_sound (T := (⟨pf, fs8 lo, [], 2⟩ : Tabs)) hT hf (show LsOK Fr H0 C (⟨pf, fs8 lo, [], 2⟩ : Tabs) q8_L3_b from ⟨trivial, ⟨⟨trivial, trivial⟩, ⟨⟨trivial, ⟨trivial, ⟨⟨trivial, trivial⟩, trivial⟩⟩⟩, trivial⟩⟩⟩) (fun x y h => loopO_congr (q8_L3_e lo) (hlo _ _ _ h))
def q8 (lo : Lo) (s0 : List Int) (h1 : List Int) : Option (Int × (List Int)) :=
  Option.bind (q8_L3 lo (s0, (s0.length : Int), (0 : Int), h1)) fun y32 => alt2 y32 (fun y33 => some (y33.1, y33.2)) (fun y34 => some ((-1 : Int), y34))
def q8_c : VCode :=
 (.seq (.reg [o 4 (.mv (k 0))])
 (.seq (.seq (.reg [o 6 (.mv (t 0)), o 7 (.len (t 6)), o 8 (.mv (k 0))])
 (.blk 0 (.loop 3 q8_L3_b)))
 (.seq (.reg [o 4 (.mv (k (-1)))])
 .ret)))
def q8_F : VFn := ⟨true, 19, [.t 4], q8_c⟩
def q8_f (lo : Lo) : FnE := ⟨442, false, ⟨[0, 1], [.l (cs [I]), .clo 427 [.ptr 0 0 0]], [.st [.ref 1], .sq (cs [I])], (cs [.l (cs [I]), .l (cs [I])])⟩, .i .i64, [.st [.ref 1], .sq (cs [I])], (cs [I, .l (cs [I])]), (fun x => q8 lo x.1 x.2 : (List Int) × (List Int) → Option (Int × (List Int)))⟩
theorem q8_e (lo : Lo) : ∀ x : (List Int) × (List Int), evI (⟨pf, fs8 lo, [q8_L3_p lo], 2⟩ : Tabs) q8_F ⟨[0, 1], [.l (cs [I]), .clo 427 [.ptr 0 0 0]], [.st [.ref 1], .sq (cs [I])], (cs [.l (cs [I]), .l (cs [I])])⟩ (.i .i64) [.st [.ref 1], .sq (cs [I])] (cs [I, .l (cs [I])]) x = q8 lo x.1 x.2 := fun x => by kernel_rfl
theorem q8_S {P : Program} {fm : FM} {lo : Lo} (hlo : LoOK lo) (hS : Sound P fm ⟨pf, fs8 lo, [], 0⟩) (hm : P.follows .mixedOrders = true) (htie : ∀ f, fm f = 442 → fnTr P fm pf f = some (q8_F.slots, q8_F.res, q8_F.code.er)) : Sound P fm ⟨pf, q8_f lo :: fs8 lo, [], 0⟩ :=
  fnI_sound hS hm [q8_L3_p lo] (q8_f lo) rfl q8_F htie (by decide) rfl (Nat.le_of_ble_eq_true (by kernel_rfl)) (fun C hT Fr H0 hf => show LsOK Fr H0 C (⟨pf, fs8 lo, [q8_L3_p lo], 2⟩ : Tabs) q8_c from ⟨trivial, ⟨⟨trivial, (lsGet (by kernel_rfl) (q8_L3_k hlo C (tok_ls hT) hf))⟩, ⟨trivial, trivial⟩⟩⟩) (fun x y h => (q8_e lo x).trans h)
def fs9 (lo : Lo) : List FnE := q8_f lo :: fs8 lo
def q9 (lo : Lo) (s0 : List Int) (h1 : List Int) : Option (Bool × (List Int)) :=
  Option.bind (q8 lo s0 h1) fun y35 => chk (y35.2.length = h1.length) (some ((decide ((0 : Int) ≤ y35.1)), y35.2))
def q9_c : VCode :=
 (.seq (.reg [o 4 (.mv (kb false))])
 (.seq (.reg [o 5 (.mv (t 0)), o 6 (.mv (t 1)), o 7 (.call 442 [(t 5), (t 6)]), o 8 (.bin .geq (t 7) (k 0)), o 4 (.mv (t 8))])
 .ret))
def q9_F : VFn := ⟨true, 9, [.t 4], q9_c⟩
def q9_f (lo : Lo) : FnE := ⟨426, false, ⟨[0, 1], [.l (cs [I]), .clo 427 [.ptr 0 0 0]], [.st [.ref 1], .sq (cs [I])], (cs [.l (cs [I]), .l (cs [I])])⟩, .b, [.st [.ref 1], .sq (cs [I])], (cs [.b, .l (cs [I])]), (fun x => q9 lo x.1 x.2 : (List Int) × (List Int) → Option (Bool × (List Int)))⟩
theorem q9_e (lo : Lo) : ∀ x : (List Int) × (List Int), evI (⟨pf, fs9 lo, [], 2⟩ : Tabs) q9_F ⟨[0, 1], [.l (cs [I]), .clo 427 [.ptr 0 0 0]], [.st [.ref 1], .sq (cs [I])], (cs [.l (cs [I]), .l (cs [I])])⟩ (.b) [.st [.ref 1], .sq (cs [I])] (cs [.b, .l (cs [I])]) x = q9 lo x.1 x.2 := fun x => by kernel_rfl
theorem q9_S {P : Program} {fm : FM} {lo : Lo} (hlo : LoOK lo) (hS : Sound P fm ⟨pf, fs9 lo, [], 0⟩) (hm : P.follows .mixedOrders = true) (htie : ∀ f, fm f = 426 → fnTr P fm pf f = some (q9_F.slots, q9_F.res, q9_F.code.er)) : Sound P fm ⟨pf, q9_f lo :: fs9 lo, [], 0⟩ :=
  fnI_sound hS hm [] (q9_f lo) rfl q9_F htie (by decide) rfl (Nat.le_of_ble_eq_true (by kernel_rfl)) (fun C hT Fr H0 hf => show LsOK Fr H0 C (⟨pf, fs9 lo, [], 2⟩ : Tabs) q9_c from ⟨trivial, ⟨trivial, trivial⟩⟩) (fun x y h => (q9_e lo x).trans h)
def fs10 (lo : Lo) : List FnE := q9_f lo :: fs9 lo
end Go.Abs.G39
namespace Go.Abs.G39
open Go Go.Abs
set_option maxRecDepth 100000
set_option linter.unusedVariables false
set_option maxHeartbeats 1000000
def q10_J9_b : VCode :=
 (.seq (.seq (.reg [o 13 (.mv (t 0)), o 14 (.bin .geq (t 13) (ki .u64 256))])
 (.cond (t 14) (.seq (.reg [o 15 (.mv (t 0)), o 16 (.bin .shr (t 15) (ki .u64 8)), o 0 (.mv (t 16))])
 (.reg [o 17 (.mv (t 2)), o 18 (.bin .add (t 17) (k 8)), o 2 (.mv (t 18))]))
 .skip))
 (.seq (.reg [o 19 (.mv (t 2)), o 20 (.mv (t 0)), o 21 (.conv .u8 (t 20)), o 22 (.idx (ks (⟨#[0, 1, 2, 2, 3, 3, 3, 3, 4, 4, 4, 4, 4, 4, 4, 4, 5, 5, 5, 5, 5, 5, 5, 5, 5, 5, 5, 5, 5, 5, 5, 5, 6, 6, 6, 6, 6, 6, 6, 6, 6, 6, 6, 6, 6, 6, 6, 6, 6, 6, 6, 6, 6, 6, 6, 6, 6, 6, 6, 6, 6, 6, 6, 6, 7, 7, 7, 7, 7, 7, 7, 7, 7, 7, 7, 7, 7, 7, 7, 7, 7, 7, 7, 7, 7, 7, 7, 7, 7, 7, 7, 7, 7, 7, 7, 7, 7, 7, 7, 7, 7, 7, 7, 7, 7, 7, 7, 7, 7, 7, 7, 7, 7, 7, 7, 7, 7, 7, 7, 7, 7, 7, 7, 7, 7, 7, 7, 7, 8, 8, 8, 8, 8, 8, 8, 8, 8, 8, 8, 8, 8, 8, 8, 8, 8, 8, 8, 8, 8, 8, 8, 8, 8, 8, 8, 8, 8, 8, 8, 8, 8, 8, 8, 8, 8, 8, 8, 8, 8, 8, 8, 8, 8, 8, 8, 8, 8, 8, 8, 8, 8, 8, 8, 8, 8, 8, 8, 8, 8, 8, 8, 8, 8, 8, 8, 8, 8, 8, 8, 8, 8, 8, 8, 8, 8, 8, 8, 8, 8, 8, 8, 8, 8, 8, 8, 8, 8, 8, 8, 8, 8, 8, 8, 8, 8, 8, 8, 8, 8, 8, 8, 8, 8, 8, 8, 8, 8, 8, 8, 8, 8, 8, 8, 8, 8, 8, 8, 8, 8, 8, 8, 8, 8, 8, 8, 8]⟩)) (t 21)), o 23 (.conv .i64 (t 22)), o 24 (.bin .add (t 19) (t 23)), o 2 (.mv (t 24))])
 (.fz [2] .ret)))
def q10_J9_g : Sg := ⟨[0, 2], [.i .u64, .i .i64], [], (cs [.i .u64, I])⟩
def q10_J9_o : List Out1 := [⟨.ret, ⟨[2], [.i .i64], [], (cs [I])⟩⟩]
def q10_J9 (lo : Lo) : Int × Int → Option Int := fun x => match x with
  | (x0, n2) => bif (decide ((256 : Int) ≤ x0)) then (chk (0 ≤ (8 : Int)) (chk (0 ≤ (IntKind.wrap .u8 (x0.fdiv (2 ^ (min (8 : Int).toNat (IntKind.bits .u64))))) ∧ (IntKind.wrap .u8 (x0.fdiv (2 ^ (min (8 : Int).toNat (IntKind.bits .u64))))) < ((ByteArray.mk #[0, 1, 2, 2, 3, 3, 3, 3, 4, 4, 4, 4, 4, 4, 4, 4, 5, 5, 5, 5, 5, 5, 5, 5, 5, 5, 5, 5, 5, 5, 5, 5, 6, 6, 6, 6, 6, 6, 6, 6, 6, 6, 6, 6, 6, 6, 6, 6, 6, 6, 6, 6, 6, 6, 6, 6, 6, 6, 6, 6, 6, 6, 6, 6, 7, 7, 7, 7, 7, 7, 7, 7, 7, 7, 7, 7, 7, 7, 7, 7, 7, 7, 7, 7, 7, 7, 7, 7, 7, 7, 7, 7, 7, 7, 7, 7, 7, 7, 7, 7, 7, 7, 7, 7, 7, 7, 7, 7, 7, 7, 7, 7, 7, 7, 7, 7, 7, 7, 7, 7, 7, 7, 7, 7, 7, 7, 7, 7, 8, 8, 8, 8, 8, 8, 8, 8, 8, 8, 8, 8, 8, 8, 8, 8, 8, 8, 8, 8, 8, 8, 8, 8, 8, 8, 8, 8, 8, 8, 8, 8, 8, 8, 8, 8, 8, 8, 8, 8, 8, 8, 8, 8, 8, 8, 8, 8, 8, 8, 8, 8, 8, 8, 8, 8, 8, 8, 8, 8, 8, 8, 8, 8, 8, 8, 8, 8, 8, 8, 8, 8, 8, 8, 8, 8, 8, 8, 8, 8, 8, 8, 8, 8, 8, 8, 8, 8, 8, 8, 8, 8, 8, 8, 8, 8, 8, 8, 8, 8, 8, 8, 8, 8, 8, 8, 8, 8, 8, 8, 8, 8, 8, 8, 8, 8, 8, 8, 8, 8, 8, 8, 8, 8, 8, 8, 8, 8]).size : Int)) (some (IntKind.wrap .i64 ((IntKind.wrap .i64 (n2 + (8 : Int))) + (IntKind.wrap .i64 (byteI (ByteArray.mk #[0, 1, 2, 2, 3, 3, 3, 3, 4, 4, 4, 4, 4, 4, 4, 4, 5, 5, 5, 5, 5, 5, 5, 5, 5, 5, 5, 5, 5, 5, 5, 5, 6, 6, 6, 6, 6, 6, 6, 6, 6, 6, 6, 6, 6, 6, 6, 6, 6, 6, 6, 6, 6, 6, 6, 6, 6, 6, 6, 6, 6, 6, 6, 6, 7, 7, 7, 7, 7, 7, 7, 7, 7, 7, 7, 7, 7, 7, 7, 7, 7, 7, 7, 7, 7, 7, 7, 7, 7, 7, 7, 7, 7, 7, 7, 7, 7, 7, 7, 7, 7, 7, 7, 7, 7, 7, 7, 7, 7, 7, 7, 7, 7, 7, 7, 7, 7, 7, 7, 7, 7, 7, 7, 7, 7, 7, 7, 7, 8, 8, 8, 8, 8, 8, 8, 8, 8, 8, 8, 8, 8, 8, 8, 8, 8, 8, 8, 8, 8, 8, 8, 8, 8, 8, 8, 8, 8, 8, 8, 8, 8, 8, 8, 8, 8, 8, 8, 8, 8, 8, 8, 8, 8, 8, 8, 8, 8, 8, 8, 8, 8, 8, 8, 8, 8, 8, 8, 8, 8, 8, 8, 8, 8, 8, 8, 8, 8, 8, 8, 8, 8, 8, 8, 8, 8, 8, 8, 8, 8, 8, 8, 8, 8, 8, 8, 8, 8, 8, 8, 8, 8, 8, 8, 8, 8, 8, 8, 8, 8, 8, 8, 8, 8, 8, 8, 8, 8, 8, 8, 8, 8, 8, 8, 8, 8, 8, 8, 8, 8, 8, 8, 8, 8, 8, 8, 8]) (IntKind.wrap .u8 (x0.fdiv (2 ^ (min (8 : Int).toNat (IntKind.bits .u64)))))))))))) else (chk (0 ≤ (IntKind.wrap .u8 x0) ∧ (IntKind.wrap .u8 x0) < ((ByteArray.mk #[0, 1, 2, 2, 3, 3, 3, 3, 4, 4, 4, 4, 4, 4, 4, 4, 5, 5, 5, 5, 5, 5, 5, 5, 5, 5, 5, 5, 5, 5, 5, 5, 6, 6, 6, 6, 6, 6, 6, 6, 6, 6, 6, 6, 6, 6, 6, 6, 6, 6, 6, 6, 6, 6, 6, 6, 6, 6, 6, 6, 6, 6, 6, 6, 7, 7, 7, 7, 7, 7, 7, 7, 7, 7, 7, 7, 7, 7, 7, 7, 7, 7, 7, 7, 7, 7, 7, 7, 7, 7, 7, 7, 7, 7, 7, 7, 7, 7, 7, 7, 7, 7, 7, 7, 7, 7, 7, 7, 7, 7, 7, 7, 7, 7, 7, 7, 7, 7, 7, 7, 7, 7, 7, 7, 7, 7, 7, 7, 8, 8, 8, 8, 8, 8, 8, 8, 8, 8, 8, 8, 8, 8, 8, 8, 8, 8, 8, 8, 8, 8, 8, 8, 8, 8, 8, 8, 8, 8, 8, 8, 8, 8, 8, 8, 8, 8, 8, 8, 8, 8, 8, 8, 8, 8, 8, 8, 8, 8, 8, 8, 8, 8, 8, 8, 8, 8, 8, 8, 8, 8, 8, 8, 8, 8, 8, 8, 8, 8, 8, 8, 8, 8, 8, 8, 8, 8, 8, 8, 8, 8, 8, 8, 8, 8, 8, 8, 8, 8, 8, 8, 8, 8, 8, 8, 8, 8, 8, 8, 8, 8, 8, 8, 8, 8, 8, 8, 8, 8, 8, 8, 8, 8, 8, 8, 8, 8, 8, 8, 8, 8, 8, 8, 8, 8, 8, 8]).size : Int)) (some (IntKind.wrap .i64 (n2 + (IntKind.wrap .i64 (byteI (ByteArray.mk #[0, 1, 2, 2, 3, 3, 3, 3, 4, 4, 4, 4, 4, 4, 4, 4, 5, 5, 5, 5, 5, 5, 5, 5, 5, 5, 5, 5, 5, 5, 5, 5, 6, 6, 6, 6, 6, 6, 6, 6, 6, 6, 6, 6, 6, 6, 6, 6, 6, 6, 6, 6, 6, 6, 6, 6, 6, 6, 6, 6, 6, 6, 6, 6, 7, 7, 7, 7, 7, 7, 7, 7, 7, 7, 7, 7, 7, 7, 7, 7, 7, 7, 7, 7, 7, 7, 7, 7, 7, 7, 7, 7, 7, 7, 7, 7, 7, 7, 7, 7, 7, 7, 7, 7, 7, 7, 7, 7, 7, 7, 7, 7, 7, 7, 7, 7, 7, 7, 7, 7, 7, 7, 7, 7, 7, 7, 7, 7, 8, 8, 8, 8, 8, 8, 8, 8, 8, 8, 8, 8, 8, 8, 8, 8, 8, 8, 8, 8, 8, 8, 8, 8, 8, 8, 8, 8, 8, 8, 8, 8, 8, 8, 8, 8, 8, 8, 8, 8, 8, 8, 8, 8, 8, 8, 8, 8, 8, 8, 8, 8, 8, 8, 8, 8, 8, 8, 8, 8, 8, 8, 8, 8, 8, 8, 8, 8, 8, 8, 8, 8, 8, 8, 8, 8, 8, 8, 8, 8, 8, 8, 8, 8, 8, 8, 8, 8, 8, 8, 8, 8, 8, 8, 8, 8, 8, 8, 8, 8, 8, 8, 8, 8, 8, 8, 8, 8, 8, 8, 8, 8, 8, 8, 8, 8, 8, 8, 8, 8, 8, 8, 8, 8, 8, 8, 8, 8]) (IntKind.wrap .u8 x0)))))))
theorem q10_J9_e (lo : Lo) : ∀ x : Int × Int, stepJ (⟨pf, fs10 lo, [], 0⟩ : Tabs) q10_J9_g q10_J9_o q10_J9_b x = q10_J9 lo x := fun x => by kernel_rfl
def q10_J9_p (lo : Lo) : LpE := ⟨9, [], q10_J9_g, q10_J9_o, q10_J9 lo⟩
theorem q10_J9_k {lo : Lo} (hlo : LoOK lo) (C : Ctx) (hT : TOK (⟨pf, fs10 lo, [], 0⟩ : Tabs) C) : LpSound (fun _ => False) [] 0 C q10_J9_b.er (q10_J9_p lo) :=
  jn_sound (T := (⟨pf, fs10 lo, [], 0⟩ : Tabs)) hT frNo (show LsOK (fun _ => False) [] C (⟨pf, fs10 lo, [], 0⟩ : Tabs) q10_J9_b from ⟨⟨trivial, ⟨⟨trivial, trivial⟩, trivial⟩⟩, ⟨trivial, trivial⟩⟩) (fun x y h => (q10_J9_e lo x).trans h)
def q10 (lo : Lo) (x0 : Int) : Option Int :=
  bif (decide ((4294967296 : Int) ≤ x0)) then (chk (0 ≤ (32 : Int)) (bif (decide ((65536 : Int) ≤ (x0.fdiv (2 ^ (min (32 : Int).toNat (IntKind.bits .u64)))))) then (chk (0 ≤ (16 : Int)) (Option.bind (q10_J9 lo (((x0.fdiv (2 ^ (min (32 : Int).toNat (IntKind.bits .u64)))).fdiv (2 ^ (min (16 : Int).toNat (IntKind.bits .u64)))), (IntKind.wrap .i64 ((32 : Int) + (16 : Int))))) fun y45 => some y45)) else (Option.bind (q10_J9 lo ((x0.fdiv (2 ^ (min (32 : Int).toNat (IntKind.bits .u64)))), (32 : Int))) fun y46 => some y46))) else (bif (decide ((65536 : Int) ≤ x0)) then (chk (0 ≤ (16 : Int)) (Option.bind (q10_J9 lo ((x0.fdiv (2 ^ (min (16 : Int).toNat (IntKind.bits .u64)))), (IntKind.wrap .i64 ((0 : Int) + (16 : Int))))) fun y47 => some y47)) else (Option.bind (q10_J9 lo (x0, (0 : Int))) fun y48 => some y48))
def q10_c : VCode :=
 (.seq (.reg [o 2 (.mv (k 0))])
 (.seq (.seq (.reg [o 3 (.mv (t 0)), o 4 (.bin .geq (t 3) (ki .u64 4294967296))])
 (.cond (t 4) (.seq (.reg [o 5 (.mv (t 0)), o 6 (.bin .shr (t 5) (ki .u64 32)), o 0 (.mv (t 6))])
 (.reg [o 2 (.mv (k 32))]))
 .skip))
 (.seq (.seq (.reg [o 7 (.mv (t 0)), o 8 (.bin .geq (t 7) (ki .u64 65536))])
 (.cond (t 8) (.seq (.reg [o 9 (.mv (t 0)), o 10 (.bin .shr (t 9) (ki .u64 16)), o 0 (.mv (t 10))])
 (.reg [o 11 (.mv (t 2)), o 12 (.bin .add (t 11) (k 16)), o 2 (.mv (t 12))]))
 .skip))
 (.jn 9 q10_J9_b))))
def q10_F : VFn := ⟨true, 25, [.t 2], q10_c⟩
def q10_f (lo : Lo) : FnE := ⟨187, true, ⟨[0], [.i .u64], [], (cs [.i .u64])⟩, .i .i64, [], (cs [I]), (fun x => q10 lo x : Int → Option Int)⟩
theorem q10_e (lo : Lo) : ∀ x : Int, evP (⟨pf, fs10 lo, [q10_J9_p lo], 0⟩ : Tabs) q10_F ⟨[0], [.i .u64], [], (cs [.i .u64])⟩ (.i .i64) (cs [I]) x = q10 lo x := fun x => by kernel_rfl
theorem q10_S {P : Program} {fm : FM} {lo : Lo} (hlo : LoOK lo) (hS : Sound P fm ⟨pf, fs10 lo, [], 0⟩) (hm : P.follows .mixedOrders = true) (htie : ∀ f, fm f = 187 → fnTr P fm pf f = some (q10_F.slots, q10_F.res, q10_F.code.er)) : Sound P fm ⟨pf, q10_f lo :: fs10 lo, [], 0⟩ :=
  fn_sound hS hm [q10_J9_p lo] (q10_f lo) rfl q10_F htie (by decide) rfl (Nat.le_of_ble_eq_true (by kernel_rfl)) (fun C hT => show LsOK (fun _ => False) [] C (⟨pf, fs10 lo, [q10_J9_p lo], 0⟩ : Tabs) q10_c from ⟨trivial, ⟨⟨trivial, ⟨⟨trivial, trivial⟩, trivial⟩⟩, ⟨⟨trivial, ⟨⟨trivial, trivial⟩, trivial⟩⟩, (lsGet (by kernel_rfl) (q10_J9_k hlo C (tok_ls hT)))⟩⟩⟩) (fun x y h => (q10_e lo x).trans h)
def fs11 (lo : Lo) : List FnE := q10_f lo :: fs10 lo
def q11 (lo : Lo) (x0 : Int) : Option Int :=
  Option.bind (q10 lo x0) fun y49 => some y49
def q11_c : VCode :=
 (.seq (.reg [o 2 (.mv (k 0))])
 (.seq (.cond (kb false) (.seq (.reg [o 3 (.mv (t 0)), o 4 (.conv .u32 (t 3)), o 5 (.call 186 [(t 4)]), o 2 (.mv (t 5))])
 (.fz [2] .ret))
 .skip)
 (.seq (.reg [o 6 (.mv (t 0)), o 7 (.call 187 [(t 6)]), o 2 (.mv (t 7))])
 (.fz [2] .ret))))
def q11_F : VFn := ⟨true, 8, [.t 2], q11_c⟩
def q11_f (lo : Lo) : FnE := ⟨163, true, ⟨[0], [.i .u64], [], (cs [.i .u64])⟩, .i .i64, [], (cs [I]), (fun x => q11 lo x : Int → Option Int)⟩
theorem q11_e (lo : Lo) : ∀ x : Int, evP (⟨pf, fs11 lo, [], 0⟩ : Tabs) q11_F ⟨[0], [.i .u64], [], (cs [.i .u64])⟩ (.i .i64) (cs [I]) x = q11 lo x := fun x => by kernel_rfl
theorem q11_S {P : Program} {fm : FM} {lo : Lo} (hlo : LoOK lo) (hS : Sound P fm ⟨pf, fs11 lo, [], 0⟩) (hm : P.follows .mixedOrders = true) (htie : ∀ f, fm f = 163 → fnTr P fm pf f = some (q11_F.slots, q11_F.res, q11_F.code.er)) : Sound P fm ⟨pf, q11_f lo :: fs11 lo, [], 0⟩ :=
  fn_sound hS hm [] (q11_f lo) rfl q11_F htie (by decide) rfl (Nat.le_of_ble_eq_true (by kernel_rfl)) (fun C hT => show LsOK (fun _ => False) [] C (⟨pf, fs11 lo, [], 0⟩ : Tabs) q11_c from ⟨trivial, ⟨⟨⟨trivial, trivial⟩, trivial⟩, ⟨trivial, trivial⟩⟩⟩) (fun x y h => (q11_e lo x).trans h)
def fs12 (lo : Lo) : List FnE := q11_f lo :: fs11 lo
def q12 (lo : Lo) (x0 : Int) : Option Bool :=
  some (!decide (x0 = x0))
def q12_c : VCode :=
 (.seq (.reg [o 2 (.mv (kb false))])
 (.seq (.reg [o 3 (.mv (t 0)), o 4 (.mv (t 0)), o 5 (.bin .neq (t 3) (t 4)), o 2 (.mv (t 5))])
 (.fz [2] .ret)))
def q12_F : VFn := ⟨true, 6, [.t 2], q12_c⟩
def q12_f (lo : Lo) : FnE := ⟨199, true, ⟨[0], [.i .i64], [], (cs [I])⟩, .b, [], (cs [.b]), (fun x => q12 lo x : Int → Option Bool)⟩
theorem q12_e (lo : Lo) : ∀ x : Int, evP (⟨pf, fs12 lo, [], 0⟩ : Tabs) q12_F ⟨[0], [.i .i64], [], (cs [I])⟩ (.b) (cs [.b]) x = q12 lo x := fun x => by kernel_rfl
theorem q12_S {P : Program} {fm : FM} {lo : Lo} (hlo : LoOK lo) (hS : Sound P fm ⟨pf, fs12 lo, [], 0⟩) (hm : P.follows .mixedOrders = true) (htie : ∀ f, fm f = 199 → fnTr P fm pf f = some (q12_F.slots, q12_F.res, q12_F.code.er)) : Sound P fm ⟨pf, q12_f lo :: fs12 lo, [], 0⟩ :=
  fn_sound hS hm [] (q12_f lo) rfl q12_F htie (by decide) rfl (Nat.le_of_ble_eq_true (by kernel_rfl)) (fun C hT => show LsOK (fun _ => False) [] C (⟨pf, fs12 lo, [], 0⟩ : Tabs) q12_c from ⟨trivial, ⟨trivial, trivial⟩⟩) (fun x y h => (q12_e lo x).trans h)
def fs13 (lo : Lo) : List FnE := q12_f lo :: fs12 lo
def q13 (lo : Lo) (x0 : Int) (y1 : Int) : Option Bool :=
  Option.bind (q12 lo x0) fun y51 => bif y51 then (Option.bind (q12 lo y1) fun y52 => bif (!y52) then (some true) else (some (decide (x0 < y1)))) else (some (decide (x0 < y1)))
def q13_c : VCode :=
 (.seq (.reg [o 4 (.mv (kb false))])
 (.seq (.reg [o 5 (.mv (t 0)), o 6 (.call 199 [(t 5)]), o 7 (.mv (t 6)), og 8 7 true (.mv (t 1)), og 9 7 true (.call 199 [(t 8)]), og 10 7 true (.not (t 9)), o 11 (.pick (t 7) (t 10) (kb false)), o 12 (.mv (t 11)), og 13 12 false (.mv (t 0)), og 14 12 false (.mv (t 1)), og 15 12 false (.bin .lss (t 13) (t 14)), o 16 (.pick (t 12) (kb true) (t 15)), o 4 (.mv (t 16))])
 (.fz [4] .ret)))
def q13_F : VFn := ⟨true, 17, [.t 4], q13_c⟩
def q13_f (lo : Lo) : FnE := ⟨183, true, ⟨[0, 1], [.i .i64, .i .i64], [], (cs [I, I])⟩, .b, [], (cs [.b]), (fun x => q13 lo x.1 x.2 : Int × Int → Option Bool)⟩
theorem q13_e (lo : Lo) : ∀ x : Int × Int, evP (⟨pf, fs13 lo, [], 0⟩ : Tabs) q13_F ⟨[0, 1], [.i .i64, .i .i64], [], (cs [I, I])⟩ (.b) (cs [.b]) x = q13 lo x.1 x.2 := fun x => by kernel_rfl
theorem q13_S {P : Program} {fm : FM} {lo : Lo} (hlo : LoOK lo) (hS : Sound P fm ⟨pf, fs13 lo, [], 0⟩) (hm : P.follows .mixedOrders = true) (htie : ∀ f, fm f = 183 → fnTr P fm pf f = some (q13_F.slots, q13_F.res, q13_F.code.er)) : Sound P fm ⟨pf, q13_f lo :: fs13 lo, [], 0⟩ :=
  fn_sound hS hm [] (q13_f lo) rfl q13_F htie (by decide) rfl (Nat.le_of_ble_eq_true (by kernel_rfl)) (fun C hT => show LsOK (fun _ => False) [] C (⟨pf, fs13 lo, [], 0⟩ : Tabs) q13_c from ⟨trivial, ⟨trivial, trivial⟩⟩) (fun x y h => (q13_e lo x).trans h)
def fs14 (lo : Lo) : List FnE := q13_f lo :: fs13 lo
def q14_L3_b : VCode :=
 (.seq (.seq (.reg [o 16 (.mv (t 7)), o 17 (.mv (t 1)), o 18 (.bin .gtr (t 16) (t 17)), o 19 (.mv (t 18)), og 20 19 true (.mv (t 0)), og 21 19 true (.mv (t 7)), og 22 19 true (.iad 1 (t 20) (t 21)), og 23 19 true (.load false 1 (t 22)), og 24 19 true (.mv (t 0)), og 25 19 true (.mv (t 7)), og 26 19 true (.bin .sub (t 25) (k 1)), og 27 19 true (.iad 1 (t 24) (t 26)), og 28 19 true (.load false 1 (t 27)), og 29 19 true (.call 183 [(t 23), (t 28)]), o 30 (.pick (t 19) (t 29) (kb false))])
 (.cond (t 30) .skip
 (.exit 2)))
 (.seq (.blk 3 (.reg [o 33 (.mv (t 0)), o 34 (.mv (t 7)), o 35 (.mv (t 0)), o 36 (.mv (t 7)), o 37 (.bin .sub (t 36) (k 1)), o 38 (.mv (t 0)), o 39 (.mv (t 7)), o 40 (.bin .sub (t 39) (k 1)), o 41 (.iad 1 (t 38) (t 40)), o 42 (.load false 1 (t 41)), o 43 (.mv (t 0)), o 44 (.mv (t 7)), o 45 (.iad 1 (t 43) (t 44)), o 46 (.load false 1 (t 45)), o 47 (.iad 1 (t 33) (t 34)), on (.store 1 (t 47) (t 42)), o 48 (.iad 1 (t 35) (t 37)), on (.store 1 (t 48) (t 46))]))
 (.reg [o 31 (.mv (t 7)), o 32 (.bin .sub (t 31) (k 1)), o 7 (.mv (t 32))])))
def q14_L3_g : Sg := ⟨[0, 1, 2, 6, 7], [.ref 0, .i .i64, .i .i64, .i .i64, .i .i64], [.sq (cs [I])], (cs [I, I, I, I, .l (cs [I])])⟩
def q14_L3_o : List Out1 := [⟨.exit 2, ⟨[0, 1, 2, 6], [.ref 0, .i .i64, .i .i64, .i .i64], [.sq (cs [I])], (cs [I, I, I, .l (cs [I])])⟩⟩]
def q14_L3_s (lo : Lo) : Int × Int × Int × Int × (List Int) → Option ((Int × Int × Int × Int × (List Int)) ⊕ ((Int × Int × Int × (List Int)))) := fun x => match x with
  | (a1, b2, i6, j7, data0) => bif (decide (a1 < j7)) then (chk (0 ≤ j7 ∧ j7 < (data0.length : Int)) (chk (0 ≤ (IntKind.wrap .i64 (j7 - (1 : Int))) ∧ (IntKind.wrap .i64 (j7 - (1 : Int))) < (data0.length : Int)) (Option.bind (q13 lo (data0.getD j7.toNat (0 : Int)) (data0.getD ((IntKind.wrap .i64 (j7 - (1 : Int))).toNat) (0 : Int))) fun y53 => bif y53 then (chk (0 ≤ (IntKind.wrap .i64 (j7 - (1 : Int))) ∧ (IntKind.wrap .i64 (j7 - (1 : Int))) < (data0.length : Int)) (chk (0 ≤ j7 ∧ j7 < (data0.length : Int)) (chk (0 ≤ j7 ∧ j7 < (data0.length : Int)) (chk (0 ≤ (IntKind.wrap .i64 (j7 - (1 : Int))) ∧ (IntKind.wrap .i64 (j7 - (1 : Int))) < ((data0.set j7.toNat (data0.getD ((IntKind.wrap .i64 (j7 - (1 : Int))).toNat) (0 : Int))).length : Int)) (some (.inl (a1, b2, i6, (IntKind.wrap .i64 (j7 - (1 : Int))), ((data0.set j7.toNat (data0.getD ((IntKind.wrap .i64 (j7 - (1 : Int))).toNat) (0 : Int))).set ((IntKind.wrap .i64 (j7 - (1 : Int))).toNat) (data0.getD j7.toNat (0 : Int)))))))))) else (some (.inr (a1, b2, i6, data0)))))) else (some (.inr (a1, b2, i6, data0)))
theorem q14_L3_e (lo : Lo) : ∀ x : Int × Int × Int × Int × (List Int), stepL (⟨pf, fs14 lo, [], 1⟩ : Tabs) [] q14_L3_g q14_L3_o q14_L3_b x = q14_L3_s lo x := fun x => by kernel_rfl
def q14_L3 (lo : Lo) : Int × Int × Int × Int × (List Int) → Option ((Int × Int × Int × (List Int))) := lo.run (q14_L3_s lo)
def q14_L3_p (lo : Lo) : LpE := ⟨3, [], q14_L3_g, q14_L3_o, q14_L3 lo⟩
theorem q14_L3_k {lo : Lo} (hlo : LoOK lo) (C : Ctx) (hT : TOK (⟨pf, fs14 lo, [], 1⟩ : Tabs) C) {Fr : Nat → Prop} {H0 : Heap} (hf : FrOK Fr H0) : LpSound Fr H0 1 C (.loop q14_L3_b.er) (q14_L3_p lo) :=
  loop_sound (T := (⟨pf, fs14 lo, [], 1⟩ : Tabs)) hT hf (show LsOK Fr H0 C (⟨pf, fs14 lo, [], 1⟩ : Tabs) q14_L3_b from ⟨⟨trivial, ⟨trivial, trivial⟩⟩, ⟨trivial, trivial⟩⟩) (fun x y h => loopO_congr (q14_L3_e lo) (hlo _ _ _ h))
def q14_L1_b : VCode :=
 (.seq (.seq (.reg [o 10 (.mv (t 6)), o 11 (.mv (t 2)), o 12 (.bin .lss (t 10) (t 11))])
 (.cond (t 12) .skip
 (.exit 0)))
 (.seq (.blk 1 (.seq (.reg [o 15 (.mv (t 6)), o 7 (.mv (t 15))])
 (.blk 2 (.loop 3 q14_L3_b))))
 (.reg [o 13 (.mv (t 6)), o 14 (.bin .add (t 13) (k 1)), o 6 (.mv (t 14))])))
def q14_L1_g : Sg := ⟨[0, 1, 2, 6], [.ref 0, .i .i64, .i .i64, .i .i64], [.sq (cs [I])], (cs [I, I, I, .l (cs [I])])⟩
def q14_L1_o : List Out1 := [⟨.exit 0, ⟨[], [], [.sq (cs [I])], (cs [.l (cs [I])])⟩⟩]
def q14_L1_s (lo : Lo) : Int × Int × Int × (List Int) → Option ((Int × Int × Int × (List Int)) ⊕ (((List Int)))) := fun x => match x with
  | (a1, b2, i6, data0) => bif (decide (i6 < b2)) then (Option.bind (q14_L3 lo (a1, b2, i6, i6, data0)) fun y54 => some (.inl (y54.1, y54.2.1, (IntKind.wrap .i64 (y54.2.2.1 + (1 : Int))), y54.2.2.2))) else (some (.inr data0))
theorem q14_L1_e (lo : Lo) : ∀ x : Int × Int × Int × (List Int), stepL (⟨pf, fs14 lo, [q14_L3_p lo], 1⟩ : Tabs) [] q14_L1_g q14_L1_o q14_L1_b x = q14_L1_s lo x := fun x => by kernel_rfl
def q14_L1 (lo : Lo) : Int × Int × Int × (List Int) → Option (((List Int))) := lo.run (q14_L1_s lo)
def q14_L1_p (lo : Lo) : LpE := ⟨1, [], q14_L1_g, q14_L1_o, q14_L1 lo⟩
theorem q14_L1_k {lo : Lo} (hlo : LoOK lo) (C : Ctx) (hT : TOK (⟨pf, fs14 lo, [q14_L3_p lo], 1⟩ : Tabs) C) {Fr : Nat → Prop} {H0 : Heap} (hf : FrOK Fr H0) : LpSound Fr H0 1 C (.loop q14_L1_b.er) (q14_L1_p lo) :=
  loop_sound (T := (⟨pf, fs14 lo, [q14_L3_p lo], 1⟩ : Tabs)) hT hf (show LsOK Fr H0 C (⟨pf, fs14 lo, [q14_L3_p lo], 1⟩ : Tabs) q14_L1_b from ⟨⟨trivial, ⟨trivial, trivial⟩⟩, ⟨⟨trivial, (lsGet (by kernel_rfl) (q14_L3_k hlo C (tok_ls hT) hf))⟩, trivial⟩⟩) (fun x y h => loopO_congr (q14_L1_e lo) (hlo _ _ _ h))
def q14 (lo : Lo) (a1 : Int) (b2 : Int) (data0 : List Int) : Option ((List Int)) :=
  Option.bind (q14_L1 lo (a1, b2, (IntKind.wrap .i64 (a1 + (1 : Int))), data0)) fun y55 => some y55
def q14_c : VCode :=
 (.seq (.reg [o 8 (.mv (t 1)), o 9 (.bin .add (t 8) (k 1)), o 6 (.mv (t 9))])
 (.blk 0 (.loop 1 q14_L1_b)))
def q14_F : VFn := ⟨true, 49, [], q14_c⟩
def q14_f (lo : Lo) : FnE := ⟨177, false, ⟨[0, 1, 2], [.ref 0, .i .i64, .i .i64], [.sq (cs [I])], (cs [I, I, .l (cs [I])])⟩, .tp [], [.sq (cs [I])], (cs [.l (cs [I])]), (fun x => q14 lo x.1 x.2.1 x.2.2 : Int × Int × (List Int) → Option ((List Int)))⟩
theorem q14_e (lo : Lo) : ∀ x : Int × Int × (List Int), evI (⟨pf, fs14 lo, [q14_L1_p lo, q14_L3_p lo], 1⟩ : Tabs) q14_F ⟨[0, 1, 2], [.ref 0, .i .i64, .i .i64], [.sq (cs [I])], (cs [I, I, .l (cs [I])])⟩ (.tp []) [.sq (cs [I])] (cs [.l (cs [I])]) x = q14 lo x.1 x.2.1 x.2.2 := fun x => by kernel_rfl
theorem q14_S {P : Program} {fm : FM} {lo : Lo} (hlo : LoOK lo) (hS : Sound P fm ⟨pf, fs14 lo, [], 0⟩) (hm : P.follows .mixedOrders = true) (htie : ∀ f, fm f = 177 → fnTr P fm pf f = some (q14_F.slots, q14_F.res, q14_F.code.er)) : Sound P fm ⟨pf, q14_f lo :: fs14 lo, [], 0⟩ :=
  fnI_sound hS hm [q14_L1_p lo, q14_L3_p lo] (q14_f lo) rfl q14_F htie (by decide) rfl (Nat.le_of_ble_eq_true (by kernel_rfl)) (fun C hT Fr H0 hf => show LsOK Fr H0 C (⟨pf, fs14 lo, [q14_L1_p lo, q14_L3_p lo], 1⟩ : Tabs) q14_c from ⟨trivial, (lsGet (by kernel_rfl) (q14_L1_k hlo C (tok_ls hT) hf))⟩) (fun x y h => (q14_e lo x).trans h)
def fs15 (lo : Lo) : List FnE := q14_f lo :: fs14 lo
def q15 (lo : Lo) (x0 : Int) (x1 : Int) (x2 : List Int) : Option ((List Int)) := none
def q15_f (lo : Lo) : FnE := ⟨178, false, ⟨[0, 1, 2], [.ref 0, .i .i64, .i .i64], [.sq (cs [I])], (cs [I, I, .l (cs [I])])⟩, .tp [], [.sq (cs [I])], (cs [.l (cs [I])]), (fun x => q15 lo x.1 x.2.1 x.2.2 : Int × Int × (List Int) → Option ((List Int)))⟩
theorem q15_S {P : Program} {fm : FM} {lo : Lo} (hlo : LoOK lo) (hS : Sound P fm ⟨pf, fs15 lo, [], 0⟩) (hm : P.follows .mixedOrders = true) (hN : True) : Sound P fm ⟨pf, q15_f lo :: fs15 lo, [], 0⟩ :=
  none_sound hS (q15_f lo) (fun _ => rfl)
def fs16 (lo : Lo) : List FnE := q15_f lo :: fs15 lo
def q16 (lo : Lo) (x0 : Int) (x1 : Int) (x2 : List Int) : Option ((List Int)) := none
def q16_f (lo : Lo) : FnE := ⟨179, false, ⟨[0, 1, 2], [.ref 0, .i .i64, .i .i64], [.sq (cs [I])], (cs [I, I, .l (cs [I])])⟩, .tp [], [.sq (cs [I])], (cs [.l (cs [I])]), (fun x => q16 lo x.1 x.2.1 x.2.2 : Int × Int × (List Int) → Option ((List Int)))⟩
theorem q16_S {P : Program} {fm : FM} {lo : Lo} (hlo : LoOK lo) (hS : Sound P fm ⟨pf, fs16 lo, [], 0⟩) (hm : P.follows .mixedOrders = true) (hN : True) : Sound P fm ⟨pf, q16_f lo :: fs16 lo, [], 0⟩ :=
  none_sound hS (q16_f lo) (fun _ => rfl)
def fs17 (lo : Lo) : List FnE := q16_f lo :: fs16 lo
def q17 (lo : Lo) (x0 : List Int) (x1 : Int) (x2 : Int) : Option (Int × Int) := none
def q17_f (lo : Lo) : FnE := ⟨180, true, ⟨[0, 1, 2], [.l (cs [I]), .i .i64, .i .i64], [], (cs [.l (cs [I]), I, I])⟩, .tp [.i .i64, .i .i64], [], (cs [I, I]), (fun x => q17 lo x.1 x.2.1 x.2.2 : (List Int) × Int × Int → Option (Int × Int))⟩
theorem q17_S {P : Program} {fm : FM} {lo : Lo} (hlo : LoOK lo) (hS : Sound P fm ⟨pf, fs17 lo, [], 0⟩) (hm : P.follows .mixedOrders = true) (hN : True) : Sound P fm ⟨pf, q17_f lo :: fs17 lo, [], 0⟩ :=
  none_sound hS (q17_f lo) (fun _ => rfl)
def fs18 (lo : Lo) : List FnE := q17_f lo :: fs17 lo
def q18 (lo : Lo) (x0 : Int) (x1 : Int) (x2 : List Int) : Option ((List Int)) := none
def q18_f (lo : Lo) : FnE := ⟨181, false, ⟨[0, 1, 2], [.ref 0, .i .i64, .i .i64], [.sq (cs [I])], (cs [I, I, .l (cs [I])])⟩, .tp [], [.sq (cs [I])], (cs [.l (cs [I])]), (fun x => q18 lo x.1 x.2.1 x.2.2 : Int × Int × (List Int) → Option ((List Int)))⟩
theorem q18_S {P : Program} {fm : FM} {lo : Lo} (hlo : LoOK lo) (hS : Sound P fm ⟨pf, fs18 lo, [], 0⟩) (hm : P.follows .mixedOrders = true) (hN : True) : Sound P fm ⟨pf, q18_f lo :: fs18 lo, [], 0⟩ :=
  none_sound hS (q18_f lo) (fun _ => rfl)
def fs19 (lo : Lo) : List FnE := q18_f lo :: fs18 lo
def q19 (lo : Lo) (x0 : Int) (x1 : Int) (x2 : List Int) : Option (Bool × (List Int)) := none
def q19_f (lo : Lo) : FnE := ⟨182, false, ⟨[0, 1, 2], [.ref 0, .i .i64, .i .i64], [.sq (cs [I])], (cs [I, I, .l (cs [I])])⟩, .b, [.sq (cs [I])], (cs [.b, .l (cs [I])]), (fun x => q19 lo x.1 x.2.1 x.2.2 : Int × Int × (List Int) → Option (Bool × (List Int)))⟩
theorem q19_S {P : Program} {fm : FM} {lo : Lo} (hlo : LoOK lo) (hS : Sound P fm ⟨pf, fs19 lo, [], 0⟩) (hm : P.follows .mixedOrders = true) (hN : True) : Sound P fm ⟨pf, q19_f lo :: fs19 lo, [], 0⟩ :=
  none_sound hS (q19_f lo) (fun _ => rfl)
def fs20 (lo : Lo) : List FnE := q19_f lo :: fs19 lo
def q20 (lo : Lo) (x0 : Int) (x1 : Int) (x2 : Int) (x3 : List Int) : Option (Int × (List Int)) := none
def q20_f (lo : Lo) : FnE := ⟨184, false, ⟨[0, 1, 2, 3], [.ref 0, .i .i64, .i .i64, .i .i64], [.sq (cs [I])], (cs [I, I, I, .l (cs [I])])⟩, .i .i64, [.sq (cs [I])], (cs [I, .l (cs [I])]), (fun x => q20 lo x.1 x.2.1 x.2.2.1 x.2.2.2 : Int × Int × Int × (List Int) → Option (Int × (List Int)))⟩
theorem q20_S {P : Program} {fm : FM} {lo : Lo} (hlo : LoOK lo) (hS : Sound P fm ⟨pf, fs20 lo, [], 0⟩) (hm : P.follows .mixedOrders = true) (hN : True) : Sound P fm ⟨pf, q20_f lo :: fs20 lo, [], 0⟩ :=
  none_sound hS (q20_f lo) (fun _ => rfl)
def fs21 (lo : Lo) : List FnE := q20_f lo :: fs20 lo
def q21 (lo : Lo) (x0 : Int) (x1 : Int) (x2 : Int) (x3 : List Int) : Option (Int × Bool × (List Int)) := none
def q21_f (lo : Lo) : FnE := ⟨185, false, ⟨[0, 1, 2, 3], [.ref 0, .i .i64, .i .i64, .i .i64], [.sq (cs [I])], (cs [I, I, I, .l (cs [I])])⟩, .tp [.i .i64, .b], [.sq (cs [I])], (cs [I, .b, .l (cs [I])]), (fun x => q21 lo x.1 x.2.1 x.2.2.1 x.2.2.2 : Int × Int × Int × (List Int) → Option (Int × Bool × (List Int)))⟩
theorem q21_S {P : Program} {fm : FM} {lo : Lo} (hlo : LoOK lo) (hS : Sound P fm ⟨pf, fs21 lo, [], 0⟩) (hm : P.follows .mixedOrders = true) (hN : True) : Sound P fm ⟨pf, q21_f lo :: fs21 lo, [], 0⟩ :=
  none_sound hS (q21_f lo) (fun _ => rfl)
def fs22 (lo : Lo) : List FnE := q21_f lo :: fs21 lo
def q22_q (F : Int × Int × Int × (List Int) → Option ((List Int))) : FnE := ⟨162, false, ⟨[0, 1, 2, 3], [.ref 0, .i .i64, .i .i64, .i .i64], [.sq (cs [I])], (cs [I, I, I, .l (cs [I])])⟩, .tp [], [.sq (cs [I])], (cs [.l (cs [I])]), F⟩
def q22_J20_b : VCode :=
 (.seq (.seq (.reg [o 73 (.mv (t 1)), o 74 (.bin .gtr (t 73) (k 0)), o 75 (.mv (t 74)), og 76 75 true (.mv (t 0)), og 77 75 true (.mv (t 1)), og 78 75 true (.bin .sub (t 77) (k 1)), og 79 75 true (.iad 1 (t 76) (t 78)), og 80 75 true (.load false 1 (t 79)), og 81 75 true (.mv (t 0)), og 82 75 true (.mv (t 11)), og 83 75 true (.iad 1 (t 81) (t 82)), og 84 75 true (.load false 1 (t 83)), og 85 75 true (.call 183 [(t 80), (t 84)]), og 86 75 true (.not (t 85)), o 87 (.pick (t 75) (t 86) (kb false))])
 (.cond (t 87) (.seq (.reg [o 88 (.mv (t 0)), o 89 (.mv (t 1)), o 90 (.mv (t 2)), o 91 (.mv (t 11)), o 92 (.call 184 [(t 88), (t 89), (t 90), (t 91)]), o 13 (.mv (t 92))])
 (.seq (.reg [o 93 (.mv (t 13)), o 1 (.mv (t 93))])
 (.exit 1)))
 .skip))
 (.seq (.reg [o 95 (.mv (t 0)), o 96 (.mv (t 1)), o 97 (.mv (t 2)), o 98 (.mv (t 11)), o 99 (.call 185 [(t 95), (t 96), (t 97), (t 98)]), o 94 (.mv (t 99)), o 100 (.ext (t 94) 0), o 101 (.ext (t 94) 1), o 14 (.mv (t 100)), o 15 (.mv (t 101))])
 (.seq (.reg [o 102 (.mv (t 15)), o 9 (.mv (t 102))])
 (.seq (.reg [o 103 (.mv (t 14)), o 104 (.mv (t 1)), o 105 (.bin .sub (t 103) (t 104)), o 106 (.mv (t 2)), o 107 (.mv (t 14)), o 108 (.bin .sub (t 106) (t 107)), o 16 (.mv (t 105)), o 17 (.mv (t 108))])
 (.seq (.reg [o 109 (.mv (t 10)), o 110 (.bin .quo (t 109) (k 8)), o 18 (.mv (t 110))])
 (.seq (.reg [o 111 (.mv (t 16)), o 112 (.mv (t 17)), o 113 (.bin .lss (t 111) (t 112))])
 (.cond (t 113) (.seq (.reg [o 114 (.mv (t 16)), o 115 (.mv (t 18)), o 116 (.bin .geq (t 114) (t 115)), o 8 (.mv (t 116))])
 (.seq (.reg [o 117 (.mv (t 0)), o 118 (.mv (t 1)), o 119 (.mv (t 14)), o 120 (.mv (t 3)), o 121 (.call 162 [(t 117), (t 118), (t 119), (t 120)])])
 (.reg [o 122 (.mv (t 14)), o 123 (.bin .add (t 122) (k 1)), o 1 (.mv (t 123))])))
 (.seq (.reg [o 124 (.mv (t 17)), o 125 (.mv (t 18)), o 126 (.bin .geq (t 124) (t 125)), o 8 (.mv (t 126))])
 (.seq (.reg [o 127 (.mv (t 0)), o 128 (.mv (t 14)), o 129 (.bin .add (t 128) (k 1)), o 130 (.mv (t 2)), o 131 (.mv (t 3)), o 132 (.call 162 [(t 127), (t 129), (t 130), (t 131)])])
 (.reg [o 133 (.mv (t 14)), o 2 (.mv (t 133))]))))))))))
def q22_J20_g : Sg := ⟨[0, 1, 2, 3, 8, 9, 10, 11], [.ref 0, .i .i64, .i .i64, .i .i64, .b, .b, .i .i64, .i .i64], [.sq (cs [I])], (cs [I, I, I, .b, .b, I, I, .l (cs [I])])⟩
def q22_J20_o : List Out1 := [⟨.exit 1, ⟨[0, 1, 2, 3, 8, 9], [.ref 0, .i .i64, .i .i64, .i .i64, .b, .b], [.sq (cs [I])], (cs [I, I, I, .b, .b, .l (cs [I])])⟩⟩, ⟨.nor, ⟨[0, 1, 2, 3, 8, 9], [.ref 0, .i .i64, .i .i64, .i .i64, .b, .b], [.sq (cs [I])], (cs [I, I, I, .b, .b, .l (cs [I])])⟩⟩]
def q22_J20 (lo : Lo) (rec : Int × Int × Int × (List Int) → Option ((List Int))) : Int × Int × Int × Bool × Bool × Int × Int × (List Int) → Option ((Int × Int × Int × Bool × Bool × (List Int)) ⊕ (Int × Int × Int × Bool × Bool × (List Int))) := fun x => match x with
  | (a1, b2, limit3, wasBalanced8, wasPartitioned9, length10, pivot11, data0) => bif (decide ((0 : Int) < a1)) then (chk (0 ≤ (IntKind.wrap .i64 (a1 - (1 : Int))) ∧ (IntKind.wrap .i64 (a1 - (1 : Int))) < (data0.length : Int)) (chk (0 ≤ pivot11 ∧ pivot11 < (data0.length : Int)) (Option.bind (q13 lo (data0.getD ((IntKind.wrap .i64 (a1 - (1 : Int))).toNat) (0 : Int)) (data0.getD pivot11.toNat (0 : Int))) fun y62 => bif (!y62) then (Option.bind (q20 lo a1 b2 pivot11 data0) fun y63 => chk (y63.2.length = data0.length) (some (.inl (y63.1, b2, limit3, wasBalanced8, wasPartitioned9, y63.2)))) else (Option.bind (q21 lo a1 b2 pivot11 data0) fun y64 => chk (y64.2.2.length = data0.length) (chk ((8 : Int) ≠ 0) (bif (decide ((IntKind.wrap .i64 (y64.1 - a1)) < (IntKind.wrap .i64 (b2 - y64.1)))) then (Option.bind (rec (a1, y64.1, limit3, y64.2.2)) fun y65 => chk (y65.length = y64.2.2.length) (some (.inr ((IntKind.wrap .i64 (y64.1 + (1 : Int))), b2, limit3, (decide ((IntKind.wrap .i64 (length10.tdiv (8 : Int))) ≤ (IntKind.wrap .i64 (y64.1 - a1)))), y64.2.1, y65)))) else (Option.bind (rec ((IntKind.wrap .i64 (y64.1 + (1 : Int))), b2, limit3, y64.2.2)) fun y66 => chk (y66.length = y64.2.2.length) (some (.inr (a1, y64.1, limit3, (decide ((IntKind.wrap .i64 (length10.tdiv (8 : Int))) ≤ (IntKind.wrap .i64 (b2 - y64.1)))), y64.2.1, y66)))))))))) else (Option.bind (q21 lo a1 b2 pivot11 data0) fun y67 => chk (y67.2.2.length = data0.length) (chk ((8 : Int) ≠ 0) (bif (decide ((IntKind.wrap .i64 (y67.1 - a1)) < (IntKind.wrap .i64 (b2 - y67.1)))) then (Option.bind (rec (a1, y67.1, limit3, y67.2.2)) fun y68 => chk (y68.length = y67.2.2.length) (some (.inr ((IntKind.wrap .i64 (y67.1 + (1 : Int))), b2, limit3, (decide ((IntKind.wrap .i64 (length10.tdiv (8 : Int))) ≤ (IntKind.wrap .i64 (y67.1 - a1)))), y67.2.1, y68)))) else (Option.bind (rec ((IntKind.wrap .i64 (y67.1 + (1 : Int))), b2, limit3, y67.2.2)) fun y69 => chk (y69.length = y67.2.2.length) (some (.inr (a1, y67.1, limit3, (decide ((IntKind.wrap .i64 (length10.tdiv (8 : Int))) ≤ (IntKind.wrap .i64 (b2 - y67.1)))), y67.2.1, y69)))))))
theorem q22_J20_e (lo : Lo) (rec : Int × Int × Int × (List Int) → Option ((List Int))) : ∀ x : Int × Int × Int × Bool × Bool × Int × Int × (List Int), stepJ (⟨pf, q22_q rec :: fs22 lo, [], 1⟩ : Tabs) q22_J20_g q22_J20_o q22_J20_b x = q22_J20 lo rec x := fun x => by kernel_rfl
def q22_J20_p (lo : Lo) (rec : Int × Int × Int × (List Int) → Option ((List Int))) : LpE := ⟨20, [], q22_J20_g, q22_J20_o, q22_J20 lo rec⟩
theorem q22_J20_k {lo : Lo} (hlo : LoOK lo) (rec : Int × Int × Int × (List Int) → Option ((List Int))) (C : Ctx) (hT : TOK (⟨pf, q22_q rec :: fs22 lo, [], 1⟩ : Tabs) C) {Fr : Nat → Prop} {H0 : Heap} (hf : FrOK Fr H0) : LpSound Fr H0 1 C q22_J20_b.er (q22_J20_p lo rec) :=
  jn_sound (T := (⟨pf, q22_q rec :: fs22 lo, [], 1⟩ : Tabs)) hT hf (show LsOK Fr H0 C (⟨pf, q22_q rec :: fs22 lo, [], 1⟩ : Tabs) q22_J20_b from ⟨⟨trivial, ⟨⟨trivial, ⟨trivial, trivial⟩⟩, trivial⟩⟩, ⟨trivial, ⟨trivial, ⟨trivial, ⟨trivial, ⟨trivial, ⟨⟨trivial, ⟨trivial, trivial⟩⟩, ⟨trivial, ⟨trivial, trivial⟩⟩⟩⟩⟩⟩⟩⟩⟩) (fun x y h => (q22_J20_e lo rec x).trans h)
def q22_J25_b : VCode :=
 (.seq (.seq (.reg [o 61 (.mv (t 8)), o 62 (.mv (t 61)), og 63 62 true (.mv (t 9)), o 64 (.pick (t 62) (t 63) (kb false)), o 65 (.mv (t 64)), og 66 65 true (.mv (t 12)), og 67 65 true (.bin .eql (t 66) (k 1)), o 68 (.pick (t 65) (t 67) (kb false))])
 (.cond (t 68) (.seq (.reg [o 69 (.mv (t 0)), o 70 (.mv (t 1)), o 71 (.mv (t 2)), o 72 (.call 182 [(t 69), (t 70), (t 71)])])
 (.cond (t 72) .ret
 .skip))
 .skip))
 (.jn 20 q22_J20_b))
def q22_J25_g : Sg := ⟨[0, 1, 2, 3, 8, 9, 10, 11, 12], [.ref 0, .i .i64, .i .i64, .i .i64, .b, .b, .i .i64, .i .i64, .i .i64], [.sq (cs [I])], (cs [I, I, I, .b, .b, I, I, I, .l (cs [I])])⟩
def q22_J25_o : List Out1 := [⟨.ret, ⟨[], [], [.sq (cs [I])], (cs [.l (cs [I])])⟩⟩, ⟨.exit 1, ⟨[0, 1, 2, 3, 8, 9], [.ref 0, .i .i64, .i .i64, .i .i64, .b, .b], [.sq (cs [I])], (cs [I, I, I, .b, .b, .l (cs [I])])⟩⟩, ⟨.nor, ⟨[0, 1, 2, 3, 8, 9], [.ref 0, .i .i64, .i .i64, .i .i64, .b, .b], [.sq (cs [I])], (cs [I, I, I, .b, .b, .l (cs [I])])⟩⟩]
def q22_J25 (lo : Lo) (rec : Int × Int × Int × (List Int) → Option ((List Int))) : Int × Int × Int × Bool × Bool × Int × Int × Int × (List Int) → Option (((List Int)) ⊕ (Int × Int × Int × Bool × Bool × (List Int)) ⊕ (Int × Int × Int × Bool × Bool × (List Int))) := fun x => match x with
  | (a1, b2, limit3, wasBalanced8, wasPartitioned9, length10, pivot11, hint12, data0) => bif wasBalanced8 then (bif wasPartitioned9 then (bif (decide (hint12 = (1 : Int))) then (Option.bind (q19 lo a1 b2 data0) fun y61 => chk (y61.2.length = data0.length) (bif y61.1 then (some (.inl y61.2)) else (Option.bind (q22_J20 lo rec (a1, b2, limit3, wasBalanced8, wasPartitioned9, length10, pivot11, y61.2)) fun y70 => alt2 y70 (fun y71 => some (.inr (.inl (y71.1, y71.2.1, y71.2.2.1, y71.2.2.2.1, y71.2.2.2.2.1, y71.2.2.2.2.2)))) (fun y72 => some (.inr (.inr (y72.1, y72.2.1, y72.2.2.1, y72.2.2.2.1, y72.2.2.2.2.1, y72.2.2.2.2.2))))))) else (Option.bind (q22_J20 lo rec (a1, b2, limit3, wasBalanced8, wasPartitioned9, length10, pivot11, data0)) fun y73 => alt2 y73 (fun y74 => some (.inr (.inl (y74.1, y74.2.1, y74.2.2.1, y74.2.2.2.1, y74.2.2.2.2.1, y74.2.2.2.2.2)))) (fun y75 => some (.inr (.inr (y75.1, y75.2.1, y75.2.2.1, y75.2.2.2.1, y75.2.2.2.2.1, y75.2.2.2.2.2)))))) else (Option.bind (q22_J20 lo rec (a1, b2, limit3, wasBalanced8, wasPartitioned9, length10, pivot11, data0)) fun y76 => alt2 y76 (fun y77 => some (.inr (.inl (y77.1, y77.2.1, y77.2.2.1, y77.2.2.2.1, y77.2.2.2.2.1, y77.2.2.2.2.2)))) (fun y78 => some (.inr (.inr (y78.1, y78.2.1, y78.2.2.1, y78.2.2.2.1, y78.2.2.2.2.1, y78.2.2.2.2.2)))))) else (Option.bind (q22_J20 lo rec (a1, b2, limit3, wasBalanced8, wasPartitioned9, length10, pivot11, data0)) fun y79 => alt2 y79 (fun y80 => some (.inr (.inl (y80.1, y80.2.1, y80.2.2.1, y80.2.2.2.1, y80.2.2.2.2.1, y80.2.2.2.2.2)))) (fun y81 => some (.inr (.inr (y81.1, y81.2.1, y81.2.2.1, y81.2.2.2.1, y81.2.2.2.2.1, y81.2.2.2.2.2)))))
theorem q22_J25_e (lo : Lo) (rec : Int × Int × Int × (List Int) → Option ((List Int))) : ∀ x : Int × Int × Int × Bool × Bool × Int × Int × Int × (List Int), stepJ (⟨pf, q22_q rec :: fs22 lo, [q22_J20_p lo rec], 1⟩ : Tabs) q22_J25_g q22_J25_o q22_J25_b x = q22_J25 lo rec x := fun x => by kernel_rfl
def q22_J25_p (lo : Lo) (rec : Int × Int × Int × (List Int) → Option ((List Int))) : LpE := ⟨25, [], q22_J25_g, q22_J25_o, q22_J25 lo rec⟩
theorem q22_J25_k {lo : Lo} (hlo : LoOK lo) (rec : Int × Int × Int × (List Int) → Option ((List Int))) (C : Ctx) (hT : TOK (⟨pf, q22_q rec :: fs22 lo, [q22_J20_p lo rec], 1⟩ : Tabs) C) {Fr : Nat → Prop} {H0 : Heap} (hf : FrOK Fr H0) : LpSound Fr H0 1 C q22_J25_b.er (q22_J25_p lo rec) :=
  jn_sound (T := (⟨pf, q22_q rec :: fs22 lo, [q22_J20_p lo rec], 1⟩ : Tabs)) hT hf (show LsOK Fr H0 C (⟨pf, q22_q rec :: fs22 lo, [q22_J20_p lo rec], 1⟩ : Tabs) q22_J25_b from ⟨⟨trivial, ⟨⟨trivial, ⟨trivial, trivial⟩⟩, trivial⟩⟩, (lsGet (by kernel_rfl) (q22_J20_k hlo rec C (tok_ls hT) hf))⟩) (fun x y h => (q22_J25_e lo rec x).trans h)
def q22_J30_b : VCode :=
 (.seq (.reg [o 43 (.mv (t 0)), o 44 (.mv (t 1)), o 45 (.mv (t 2)), o 46 (.call 180 [(t 43), (t 44), (t 45)]), o 42 (.mv (t 46)), o 47 (.ext (t 42) 0), o 48 (.ext (t 42) 1), o 11 (.mv (t 47)), o 12 (.mv (t 48))])
 (.seq (.seq (.reg [o 49 (.mv (t 12)), o 50 (.bin .eql (t 49) (k 2))])
 (.cond (t 50) (.seq (.reg [o 51 (.mv (t 0)), o 52 (.mv (t 1)), o 53 (.mv (t 2)), o 54 (.call 181 [(t 51), (t 52), (t 53)])])
 (.seq (.reg [o 55 (.mv (t 2)), o 56 (.bin .sub (t 55) (k 1)), o 57 (.mv (t 11)), o 58 (.mv (t 1)), o 59 (.bin .sub (t 57) (t 58)), o 60 (.bin .sub (t 56) (t 59)), o 11 (.mv (t 60))])
 (.reg [o 12 (.mv (k 1))])))
 .skip))
 (.jn 25 q22_J25_b)))
def q22_J30_g : Sg := ⟨[0, 1, 2, 3, 8, 9, 10], [.ref 0, .i .i64, .i .i64, .i .i64, .b, .b, .i .i64], [.sq (cs [I])], (cs [I, I, I, .b, .b, I, .l (cs [I])])⟩
def q22_J30_o : List Out1 := [⟨.ret, ⟨[], [], [.sq (cs [I])], (cs [.l (cs [I])])⟩⟩, ⟨.exit 1, ⟨[0, 1, 2, 3, 8, 9], [.ref 0, .i .i64, .i .i64, .i .i64, .b, .b], [.sq (cs [I])], (cs [I, I, I, .b, .b, .l (cs [I])])⟩⟩, ⟨.nor, ⟨[0, 1, 2, 3, 8, 9], [.ref 0, .i .i64, .i .i64, .i .i64, .b, .b], [.sq (cs [I])], (cs [I, I, I, .b, .b, .l (cs [I])])⟩⟩]
def q22_J30 (lo : Lo) (rec : Int × Int × Int × (List Int) → Option ((List Int))) : Int × Int × Int × Bool × Bool × Int × (List Int) → Option (((List Int)) ⊕ (Int × Int × Int × Bool × Bool × (List Int)) ⊕ (Int × Int × Int × Bool × Bool × (List Int))) := fun x => match x with
  | (a1, b2, limit3, wasBalanced8, wasPartitioned9, length10, data0) => Option.bind (q17 lo data0 a1 b2) fun y59 => bif (decide (y59.2 = (2 : Int))) then (Option.bind (q18 lo a1 b2 data0) fun y60 => chk (y60.length = data0.length) (Option.bind (q22_J25 lo rec (a1, b2, limit3, wasBalanced8, wasPartitioned9, length10, (IntKind.wrap .i64 ((IntKind.wrap .i64 (b2 - (1 : Int))) - (IntKind.wrap .i64 (y59.1 - a1)))), (1 : Int), y60)) fun y82 => alt2 y82 (fun y83 => some (.inl y83)) (fun y84 => alt2 y84 (fun y85 => some (.inr (.inl (y85.1, y85.2.1, y85.2.2.1, y85.2.2.2.1, y85.2.2.2.2.1, y85.2.2.2.2.2)))) (fun y86 => some (.inr (.inr (y86.1, y86.2.1, y86.2.2.1, y86.2.2.2.1, y86.2.2.2.2.1, y86.2.2.2.2.2))))))) else (Option.bind (q22_J25 lo rec (a1, b2, limit3, wasBalanced8, wasPartitioned9, length10, y59.1, y59.2, data0)) fun y87 => alt2 y87 (fun y88 => some (.inl y88)) (fun y89 => alt2 y89 (fun y90 => some (.inr (.inl (y90.1, y90.2.1, y90.2.2.1, y90.2.2.2.1, y90.2.2.2.2.1, y90.2.2.2.2.2)))) (fun y91 => some (.inr (.inr (y91.1, y91.2.1, y91.2.2.1, y91.2.2.2.1, y91.2.2.2.2.1, y91.2.2.2.2.2))))))
theorem q22_J30_e (lo : Lo) (rec : Int × Int × Int × (List Int) → Option ((List Int))) : ∀ x : Int × Int × Int × Bool × Bool × Int × (List Int), stepJ (⟨pf, q22_q rec :: fs22 lo, [q22_J25_p lo rec, q22_J20_p lo rec], 1⟩ : Tabs) q22_J30_g q22_J30_o q22_J30_b x = q22_J30 lo rec x := fun x => by kernel_rfl
def q22_J30_p (lo : Lo) (rec : Int × Int × Int × (List Int) → Option ((List Int))) : LpE := ⟨30, [], q22_J30_g, q22_J30_o, q22_J30 lo rec⟩
theorem q22_J30_k {lo : Lo} (hlo : LoOK lo) (rec : Int × Int × Int × (List Int) → Option ((List Int))) (C : Ctx) (hT : TOK (⟨pf, q22_q rec :: fs22 lo, [q22_J25_p lo rec, q22_J20_p lo rec], 1⟩ : Tabs) C) {Fr : Nat → Prop} {H0 : Heap} (hf : FrOK Fr H0) : LpSound Fr H0 1 C q22_J30_b.er (q22_J30_p lo rec) :=
  jn_sound (T := (⟨pf, q22_q rec :: fs22 lo, [q22_J25_p lo rec, q22_J20_p lo rec], 1⟩ : Tabs)) hT hf (show LsOK Fr H0 C (⟨pf, q22_q rec :: fs22 lo, [q22_J25_p lo rec, q22_J20_p lo rec], 1⟩ : Tabs) q22_J30_b from ⟨trivial, ⟨⟨trivial, ⟨⟨trivial, ⟨trivial, trivial⟩⟩, trivial⟩⟩, (lsGet (by kernel_rfl) (q22_J25_k hlo rec C (tok_ls hT) hf))⟩⟩) (fun x y h => (q22_J30_e lo rec x).trans h)
def q22_L1_b : VCode :=
 (.blk 1 (.seq (.reg [o 19 (.mv (t 2)), o 20 (.mv (t 1)), o 21 (.bin .sub (t 19) (t 20)), o 10 (.mv (t 21))])
 (.seq (.seq (.reg [o 22 (.mv (t 10)), o 23 (.bin .leq (t 22) (k 12))])
 (.cond (t 23) (.seq (.reg [o 24 (.mv (t 0)), o 25 (.mv (t 1)), o 26 (.mv (t 2)), o 27 (.call 177 [(t 24), (t 25), (t 26)])])
 .ret)
 .skip))
 (.seq (.seq (.reg [o 28 (.mv (t 3)), o 29 (.bin .eql (t 28) (k 0))])
 (.cond (t 29) (.seq (.reg [o 30 (.mv (t 0)), o 31 (.mv (t 1)), o 32 (.mv (t 2)), o 33 (.call 178 [(t 30), (t 31), (t 32)])])
 .ret)
 .skip))
 (.seq (.seq (.reg [o 34 (.mv (t 8)), o 35 (.not (t 34))])
 (.cond (t 35) (.seq (.reg [o 36 (.mv (t 0)), o 37 (.mv (t 1)), o 38 (.mv (t 2)), o 39 (.call 179 [(t 36), (t 37), (t 38)])])
 (.reg [o 40 (.mv (t 3)), o 41 (.bin .sub (t 40) (k 1)), o 3 (.mv (t 41))]))
 .skip))
 (.jn 30 q22_J30_b))))))
def q22_L1_g : Sg := ⟨[0, 1, 2, 3, 8, 9], [.ref 0, .i .i64, .i .i64, .i .i64, .b, .b], [.sq (cs [I])], (cs [I, I, I, .b, .b, .l (cs [I])])⟩
def q22_L1_o : List Out1 := [⟨.ret, ⟨[], [], [.sq (cs [I])], (cs [.l (cs [I])])⟩⟩]
def q22_L1_s (lo : Lo) (rec : Int × Int × Int × (List Int) → Option ((List Int))) : Int × Int × Int × Bool × Bool × (List Int) → Option ((Int × Int × Int × Bool × Bool × (List Int)) ⊕ (((List Int)))) := fun x => match x with
  | (a1, b2, limit3, wasBalanced8, wasPartitioned9, data0) => bif (decide ((IntKind.wrap .i64 (b2 - a1)) ≤ (12 : Int))) then (Option.bind (q14 lo a1 b2 data0) fun y56 => chk (y56.length = data0.length) (some (.inr y56))) else (bif (decide (limit3 = (0 : Int))) then (Option.bind (q15 lo a1 b2 data0) fun y57 => chk (y57.length = data0.length) (some (.inr y57))) else (bif (!wasBalanced8) then (Option.bind (q16 lo a1 b2 data0) fun y58 => chk (y58.length = data0.length) (Option.bind (q22_J30 lo rec (a1, b2, (IntKind.wrap .i64 (limit3 - (1 : Int))), wasBalanced8, wasPartitioned9, (IntKind.wrap .i64 (b2 - a1)), y58)) fun y92 => alt2 y92 (fun y93 => some (.inr y93)) (fun y94 => alt2 y94 (fun y95 => some (.inl (y95.1, y95.2.1, y95.2.2.1, y95.2.2.2.1, y95.2.2.2.2.1, y95.2.2.2.2.2))) (fun y96 => some (.inl (y96.1, y96.2.1, y96.2.2.1, y96.2.2.2.1, y96.2.2.2.2.1, y96.2.2.2.2.2)))))) else (Option.bind (q22_J30 lo rec (a1, b2, limit3, wasBalanced8, wasPartitioned9, (IntKind.wrap .i64 (b2 - a1)), data0)) fun y97 => alt2 y97 (fun y98 => some (.inr y98)) (fun y99 => alt2 y99 (fun y100 => some (.inl (y100.1, y100.2.1, y100.2.2.1, y100.2.2.2.1, y100.2.2.2.2.1, y100.2.2.2.2.2))) (fun y101 => some (.inl (y101.1, y101.2.1, y101.2.2.1, y101.2.2.2.1, y101.2.2.2.2.1, y101.2.2.2.2.2)))))))
theorem q22_L1_e (lo : Lo) (rec : Int × Int × Int × (List Int) → Option ((List Int))) : ∀ x : Int × Int × Int × Bool × Bool × (List Int), stepL (⟨pf, q22_q rec :: fs22 lo, [q22_J30_p lo rec, q22_J25_p lo rec, q22_J20_p lo rec], 1⟩ : Tabs) [] q22_L1_g q22_L1_o q22_L1_b x = q22_L1_s lo rec x := fun x => by kernel_rfl
def q22_L1 (lo : Lo) (rec : Int × Int × Int × (List Int) → Option ((List Int))) : Int × Int × Int × Bool × Bool × (List Int) → Option (((List Int))) := lo.run (q22_L1_s lo rec)
def q22_L1_p (lo : Lo) (rec : Int × Int × Int × (List Int) → Option ((List Int))) : LpE := ⟨1, [], q22_L1_g, q22_L1_o, q22_L1 lo rec⟩
theorem q22_L1_k {lo : Lo} (hlo : LoOK lo) (rec : Int × Int × Int × (List Int) → Option ((List Int))) (C : Ctx) (hT : TOK (⟨pf, q22_q rec :: fs22 lo, [q22_J30_p lo rec, q22_J25_p lo rec, q22_J20_p lo rec], 1⟩ : Tabs) C) {Fr : Nat → Prop} {H0 : Heap} (hf : FrOK Fr H0) : LpSound Fr H0 1 C (.loop q22_L1_b.er) (q22_L1_p lo rec) :=
  loop_sound (T := (⟨pf, q22_q rec :: fs22 lo, [q22_J30_p lo rec, q22_J25_p lo rec, q22_J20_p lo rec], 1⟩ : Tabs)) hT hf (show LsOK Fr H0 C (⟨pf, q22_q rec :: fs22 lo, [q22_J30_p lo rec, q22_J25_p lo rec, q22_J20_p lo rec], 1⟩ : Tabs) q22_L1_b from ⟨trivial, ⟨⟨trivial, ⟨⟨trivial, trivial⟩, trivial⟩⟩, ⟨⟨trivial, ⟨⟨trivial, trivial⟩, trivial⟩⟩, ⟨⟨trivial, ⟨⟨trivial, trivial⟩, trivial⟩⟩, (lsGet (by kernel_rfl) (q22_J30_k hlo rec C (tok_ls hT) hf))⟩⟩⟩⟩) (fun x y h => loopO_congr (q22_L1_e lo rec) (hlo _ _ _ h))
def q22_r (lo : Lo) (rec : Int × Int × Int × (List Int) → Option ((List Int))) (a1 : Int) (b2 : Int) (limit3 : Int) (data0 : List Int) : Option ((List Int)) :=
  Option.bind (q22_L1 lo rec (a1, b2, limit3, true, true, data0)) fun y102 => some y102
def q22_n (lo : Lo) : Nat → Int × Int × Int × (List Int) → Option ((List Int))
  | 0, _ => none
  | n + 1, x => q22_r lo (q22_n lo n) x.1 x.2.1 x.2.2.1 x.2.2.2
def q22 (lo : Lo) (a1 : Int) (b2 : Int) (limit3 : Int) (data0 : List Int) : Option ((List Int)) := lo.run (fixS (q22_n lo)) (0, (a1, b2, limit3, data0))
def q22_c : VCode :=
 (.seq (.reg [o 8 (.mv (kb true))])
 (.seq (.reg [o 9 (.mv (kb true))])
 (.blk 0 (.loop 1 q22_L1_b))))
def q22_F : VFn := ⟨true, 134, [], q22_c⟩
def q22_f (lo : Lo) : FnE := ⟨162, false, ⟨[0, 1, 2, 3], [.ref 0, .i .i64, .i .i64, .i .i64], [.sq (cs [I])], (cs [I, I, I, .l (cs [I])])⟩, .tp [], [.sq (cs [I])], (cs [.l (cs [I])]), (fun x => q22 lo x.1 x.2.1 x.2.2.1 x.2.2.2 : Int × Int × Int × (List Int) → Option ((List Int)))⟩
theorem q22_e (lo : Lo) (rec : Int × Int × Int × (List Int) → Option ((List Int))) : ∀ x : Int × Int × Int × (List Int), evI (⟨pf, q22_q rec :: fs22 lo, [q22_L1_p lo rec, q22_J30_p lo rec, q22_J25_p lo rec, q22_J20_p lo rec], 1⟩ : Tabs) q22_F ⟨[0, 1, 2, 3], [.ref 0, .i .i64, .i .i64, .i .i64], [.sq (cs [I])], (cs [I, I, I, .l (cs [I])])⟩ (.tp []) [.sq (cs [I])] (cs [.l (cs [I])]) x = q22_r lo rec x.1 x.2.1 x.2.2.1 x.2.2.2 := fun x => by kernel_rfl
theorem q22_S {P : Program} {fm : FM} {lo : Lo} (hlo : LoOK lo) (hS : Sound P fm ⟨pf, fs22 lo, [], 0⟩) (hm : P.follows .mixedOrders = true) (htie : ∀ f, fm f = 162 → fnTr P fm pf f = some (q22_F.slots, q22_F.res, q22_F.code.er)) : Sound P fm ⟨pf, q22_f lo :: fs22 lo, [], 0⟩ :=
  fnI_rec hS hm (q22_f lo) rfl (q22_n lo) (fun n => (fun (rec : Int × Int × Int × (List Int) → Option ((List Int))) => ([q22_L1_p lo rec, q22_J30_p lo rec, q22_J25_p lo rec, q22_J20_p lo rec] : List LpE)) (q22_n lo n)) q22_F htie (by decide) rfl (Nat.le_of_ble_eq_true (by kernel_rfl)) (fun _ => rfl) (fun x y h => fix_lim (hlo _ _ _ h))
    (fun n C hT Fr H0 hf => (fun (rec : Int × Int × Int × (List Int) → Option ((List Int))) (hT : TOK (⟨pf, q22_q rec :: fs22 lo, [q22_L1_p lo rec, q22_J30_p lo rec, q22_J25_p lo rec, q22_J20_p lo rec], 1⟩ : Tabs) C) => show LsOK Fr H0 C (⟨pf, q22_q rec :: fs22 lo, [q22_L1_p lo rec, q22_J30_p lo rec, q22_J25_p lo rec, q22_J20_p lo rec], 1⟩ : Tabs) q22_c from ⟨trivial, ⟨trivial, (lsGet (by kernel_rfl) (q22_L1_k hlo rec C (tok_ls hT) hf))⟩⟩) (q22_n lo n) hT) (fun n x y h => (q22_e lo (q22_n lo n) x).trans h)
def fs23 (lo : Lo) : List FnE := q22_f lo :: fs22 lo
def q23 (lo : Lo) (x0 : List Int) : Option ((List Int)) :=
  Option.bind (q11 lo (IntKind.wrap .u64 (x0.length : Int))) fun y50 => Option.bind (q22 lo (0 : Int) (x0.length : Int) y50 x0) fun y103 => chk (y103.length = x0.length) (some y103)
def q23_c : VCode :=
 (.seq (.reg [o 3 (.mv (t 0)), o 4 (.len (t 3)), o 2 (.mv (t 4))])
 (.reg [o 5 (.mv (t 0)), o 6 (.mv (t 2)), o 7 (.mv (t 2)), o 8 (.conv .u64 (t 7)), o 9 (.call 163 [(t 8)]), o 10 (.call 162 [(t 5), (k 0), (t 6), (t 9)])]))
def q23_F : VFn := ⟨true, 11, [], q23_c⟩
def q23_f (lo : Lo) : FnE := ⟨147, false, ⟨[0], [.ref 0], [.sq (cs [I])], (cs [.l (cs [I])])⟩, .tp [], [.sq (cs [I])], (cs [.l (cs [I])]), (fun x => q23 lo x : (List Int) → Option ((List Int)))⟩
theorem q23_e (lo : Lo) : ∀ x : (List Int), evI (⟨pf, fs23 lo, [], 1⟩ : Tabs) q23_F ⟨[0], [.ref 0], [.sq (cs [I])], (cs [.l (cs [I])])⟩ (.tp []) [.sq (cs [I])] (cs [.l (cs [I])]) x = q23 lo x := fun x => by kernel_rfl
theorem q23_S {P : Program} {fm : FM} {lo : Lo} (hlo : LoOK lo) (hS : Sound P fm ⟨pf, fs23 lo, [], 0⟩) (hm : P.follows .mixedOrders = true) (htie : ∀ f, fm f = 147 → fnTr P fm pf f = some (q23_F.slots, q23_F.res, q23_F.code.er)) : Sound P fm ⟨pf, q23_f lo :: fs23 lo, [], 0⟩ :=
  fnI_sound hS hm [] (q23_f lo) rfl q23_F htie (by decide) rfl (Nat.le_of_ble_eq_true (by kernel_rfl)) (fun C hT Fr H0 hf => show LsOK Fr H0 C (⟨pf, fs23 lo, [], 1⟩ : Tabs) q23_c from ⟨trivial, trivial⟩) (fun x y h => (q23_e lo x).trans h)
def fs24 (lo : Lo) : List FnE := q23_f lo :: fs23 lo
def q24 (lo : Lo) (l : List Int) : Option (List Int) := vsortI (q23 lo) l
def q24_f (lo : Lo) : FnE := vsortE 147 (.cons (.i .i64) .nil) (q24 lo)
theorem q24_S {P : Program} {fm : FM} {lo : Lo} (hlo : LoOK lo) (hS : Sound P fm ⟨pf, fs24 lo, [], 0⟩) (hm : P.follows .mixedOrders = true) (hG : ∀ f, fm f = 147 → callable P f = true ∧ ∃ ρ : Go.Shelf.Ren, Go.Proofs.Lays.n189 P ρ ∧ ρ.f 189 = f) : Sound P fm ⟨pf, q24_f lo :: fs24 lo, [], 0⟩ :=
  vsortI_sound hS rfl (F0 := q23 lo) (List.mem_cons_self ..) hG
def fs25 (lo : Lo) : List FnE := q24_f lo :: fs24 lo
end Go.Abs.G39
namespace Go.Abs.G39
open Go Go.Abs
set_option maxRecDepth 100000
set_option linter.unusedVariables false
set_option maxHeartbeats 1000000
def q25_L32_b : VCode :=
 (.seq (.reg [o 47 (.bin .lss (t 46) (t 45))])
 (.seq (.cond (t 47) .skip
 (.exit 2))
 (.seq (.blk 3 (.seq (.reg [o 48 (.iad 1 (t 44) (t 46)), o 49 (.load false 1 (t 48)), o 10 (.mv (t 49))])
 (.reg [o 50 (.mv (t 6)), o 51 (.mv (t 10)), o 52 (.mv (t 6)), o 53 (.mv (t 10)), o 54 (.iad 1 (t 52) (t 53)), o 55 (.load false 1 (t 54)), o 56 (.mv (t 7)), o 57 (.bsl (cs [I]) 1 [(0, (t 56))]), o 58 (.app (cs [I]) 0 (t 55) (t 57)), o 59 (.iad 1 (t 50) (t 51)), on (.store 1 (t 59) (t 58))])))
 (.reg [o 60 (.bin .add (t 46) (k 1)), o 46 (.mv (t 60))]))))
def q25_L32_g : Sg := ⟨[1, 5, 6, 7, 32, 33, 34, 44, 45, 46], [.ptr 0 0 0, .ptr 1 0 0, .ref 2, .i .i64, .l (cs [.l (cs [I])]), .i .i64, .i .i64, .l (cs [I]), .i .i64, .i .i64], [.st [.l (cs [I]), .l (cs [.l (cs [I])])], .st [.ref 3], .fm (cs [I]), .sq (cs [I])], (cs [I, .l (cs [.l (cs [I])]), I, I, .l (cs [I]), I, I, .l (cs [I]), .l (cs [.l (cs [I])]), .l (cs [.l (cs [I])]), .l (cs [I])])⟩
def q25_L32_o : List Out1 := [⟨.exit 2, ⟨[1, 5, 6, 32, 33, 34], [.ptr 0 0 0, .ptr 1 0 0, .ref 2, .l (cs [.l (cs [I])]), .i .i64, .i .i64], [.st [.l (cs [I]), .l (cs [.l (cs [I])])], .st [.ref 3], .fm (cs [I]), .sq (cs [I])], (cs [.l (cs [.l (cs [I])]), I, I, .l (cs [I]), .l (cs [.l (cs [I])]), .l (cs [.l (cs [I])]), .l (cs [I])])⟩⟩]
def q25_L32_s (lo : Lo) : Int × (List ((List Int))) × Int × Int × (List Int) × Int × Int × (List Int) × (List ((List Int))) × (List ((List Int))) × (List Int) → Option ((Int × (List ((List Int))) × Int × Int × (List Int) × Int × Int × (List Int) × (List ((List Int))) × (List ((List Int))) × (List Int)) ⊕ (((List ((List Int))) × Int × Int × (List Int) × (List ((List Int))) × (List ((List Int))) × (List Int)))) := fun x => match x with
  | (i7, v32, v33, v34, v44, v45, v46, in1_0, in1_1, at6, h3) => bif (decide (v46 < v45)) then (chk (0 ≤ v46 ∧ v46 < (v44.length : Int)) (chk (0 ≤ (v44.getD v46.toNat (0 : Int)) ∧ (v44.getD v46.toNat (0 : Int)) < (at6.length : Int)) (chk ((at6.getD ((v44.getD v46.toNat (0 : Int)).toNat) []).length + [i7].length ≤ maxEl) (chk (0 ≤ (v44.getD v46.toNat (0 : Int)) ∧ (v44.getD v46.toNat (0 : Int)) < (at6.length : Int)) (chk ((v44.getD v46.toNat (0 : Int)).toNat = (v44.getD v46.toNat (0 : Int)).toNat) (some (.inl (i7, v32, v33, v34, v44, v45, (IntKind.wrap .i64 (v46 + (1 : Int))), in1_0, in1_1, (at6.set ((v44.getD v46.toNat (0 : Int)).toNat) ((at6.getD ((v44.getD v46.toNat (0 : Int)).toNat) []) ++ [i7])), h3)))))))) else (some (.inr (v32, v33, v34, in1_0, in1_1, at6, h3)))
theorem q25_L32_e (lo : Lo) : ∀ x : Int × (List ((List Int))) × Int × Int × (List Int) × Int × Int × (List Int) × (List ((List Int))) × (List ((List Int))) × (List Int), stepL (⟨pf, fs25 lo, [], 0⟩ : Tabs) [] q25_L32_g q25_L32_o q25_L32_b x = q25_L32_s lo x := fun x => by kernel_rfl
def q25_L32 (lo : Lo) : Int × (List ((List Int))) × Int × Int × (List Int) × Int × Int × (List Int) × (List ((List Int))) × (List ((List Int))) × (List Int) → Option (((List ((List Int))) × Int × Int × (List Int) × (List ((List Int))) × (List ((List Int))) × (List Int))) := lo.run (q25_L32_s lo)
def q25_L32_p (lo : Lo) : LpE := ⟨32, [], q25_L32_g, q25_L32_o, q25_L32 lo⟩
theorem q25_L32_k {lo : Lo} (hlo : LoOK lo) (C : Ctx) (hT : TOK (⟨pf, fs25 lo, [], 0⟩ : Tabs) C) : LpSound (fun _ => False) [] 0 C (.loop q25_L32_b.er) (q25_L32_p lo) :=
  loop_sound (T := (⟨pf, fs25 lo, [], 0⟩ : Tabs)) hT frNo (show LsOK (fun _ => False) [] C (⟨pf, fs25 lo, [], 0⟩ : Tabs) q25_L32_b from ⟨trivial, ⟨⟨trivial, trivial⟩, ⟨⟨trivial, trivial⟩, trivial⟩⟩⟩) (fun x y h => loopO_congr (q25_L32_e lo) (hlo _ _ _ h))
def q25_L30_b : VCode :=
 (.seq (.reg [o 35 (.bin .lss (t 34) (t 33))])
 (.seq (.cond (t 35) .skip
 (.exit 0))
 (.seq (.blk 1 (.seq (.reg [o 36 (.mv (t 34)), o 37 (.iad 1 (t 32) (t 34)), o 38 (.load false 1 (t 37)), o 7 (.mv (t 36)), o 8 (.mv (t 38))])
 (.seq (.reg [o 39 (.load false 1 (t 5)), o 40 (.mv (t 7)), o 41 (.mv (t 8)), o 42 (.len (t 41)), o 43 (.iad 1 (t 39) (t 40)), on (.store 1 (t 43) (t 42))])
 (.seq (.reg [o 44 (.mv (t 8)), o 45 (.len (t 44)), o 46 (.mv (k 0))])
 (.blk 2 (.loop 32 q25_L32_b))))))
 (.reg [o 61 (.bin .add (t 34) (k 1)), o 34 (.mv (t 61))]))))
def q25_L30_g : Sg := ⟨[1, 5, 6, 32, 33, 34], [.ptr 0 0 0, .ptr 1 0 0, .ref 2, .l (cs [.l (cs [I])]), .i .i64, .i .i64], [.st [.l (cs [I]), .l (cs [.l (cs [I])])], .st [.ref 3], .fm (cs [I]), .sq (cs [I])], (cs [.l (cs [.l (cs [I])]), I, I, .l (cs [I]), .l (cs [.l (cs [I])]), .l (cs [.l (cs [I])]), .l (cs [I])])⟩
def q25_L30_o : List Out1 := [⟨.exit 0, ⟨[1, 5, 6], [.ptr 0 0 0, .ptr 1 0 0, .ref 2], [.st [.l (cs [I]), .l (cs [.l (cs [I])])], .st [.ref 3], .fm (cs [I]), .sq (cs [I])], (cs [.l (cs [I]), .l (cs [.l (cs [I])]), .l (cs [.l (cs [I])]), .l (cs [I])])⟩⟩]
def q25_L30_s (lo : Lo) : (List ((List Int))) × Int × Int × (List Int) × (List ((List Int))) × (List ((List Int))) × (List Int) → Option (((List ((List Int))) × Int × Int × (List Int) × (List ((List Int))) × (List ((List Int))) × (List Int)) ⊕ (((List Int) × (List ((List Int))) × (List ((List Int))) × (List Int)))) := fun x => match x with
  | (v32, v33, v34, in1_0, in1_1, at6, h3) => bif (decide (v34 < v33)) then (chk (0 ≤ v34 ∧ v34 < (v32.length : Int)) (chk (0 ≤ v34 ∧ v34 < (h3.length : Int)) (Option.bind (q25_L32 lo (v34, v32, v33, v34, (v32.getD v34.toNat []), ((v32.getD v34.toNat []).length : Int), (0 : Int), in1_0, in1_1, at6, (h3.set v34.toNat ((v32.getD v34.toNat []).length : Int)))) fun y38 => some (.inl (y38.1, y38.2.1, (IntKind.wrap .i64 (y38.2.2.1 + (1 : Int))), y38.2.2.2.1, y38.2.2.2.2.1, y38.2.2.2.2.2.1, y38.2.2.2.2.2.2))))) else (some (.inr (in1_0, in1_1, at6, h3)))
theorem q25_L30_e (lo : Lo) : ∀ x : (List ((List Int))) × Int × Int × (List Int) × (List ((List Int))) × (List ((List Int))) × (List Int), stepL (⟨pf, fs25 lo, [q25_L32_p lo], 0⟩ : Tabs) [] q25_L30_g q25_L30_o q25_L30_b x = q25_L30_s lo x := fun x => by kernel_rfl
def q25_L30 (lo : Lo) : (List ((List Int))) × Int × Int × (List Int) × (List ((List Int))) × (List ((List Int))) × (List Int) → Option (((List Int) × (List ((List Int))) × (List ((List Int))) × (List Int))) := lo.run (q25_L30_s lo)
def q25_L30_p (lo : Lo) : LpE := ⟨30, [], q25_L30_g, q25_L30_o, q25_L30 lo⟩
theorem q25_L30_k {lo : Lo} (hlo : LoOK lo) (C : Ctx) (hT : TOK (⟨pf, fs25 lo, [q25_L32_p lo], 0⟩ : Tabs) C) : LpSound (fun _ => False) [] 0 C (.loop q25_L30_b.er) (q25_L30_p lo) :=
  loop_sound (T := (⟨pf, fs25 lo, [q25_L32_p lo], 0⟩ : Tabs)) hT frNo (show LsOK (fun _ => False) [] C (⟨pf, fs25 lo, [q25_L32_p lo], 0⟩ : Tabs) q25_L30_b from ⟨trivial, ⟨⟨trivial, trivial⟩, ⟨⟨trivial, ⟨trivial, ⟨trivial, (lsGet (by kernel_rfl) (q25_L32_k hlo C (tok_ls hT)))⟩⟩⟩, trivial⟩⟩⟩) (fun x y h => loopO_congr (q25_L30_e lo) (hlo _ _ _ h))
def q25_L22_b : VCode :=
 (.seq (.reg [o 69 (.bin .lss (t 68) (t 67))])
 (.seq (.cond (t 69) .skip
 (.exit 4))
 (.seq (.blk 5 (.seq (.reg [o 70 (.mv (t 68)), o 12 (.mv (t 70))])
 (.reg [o 71 (.mv (t 11)), o 72 (.mv (t 12)), o 73 (.mv (t 12)), o 74 (.iad 1 (t 71) (t 72)), on (.store 1 (t 74) (t 73))])))
 (.reg [o 75 (.bin .add (t 68) (k 1)), o 68 (.mv (t 75))]))))
def q25_L22_g : Sg := ⟨[1, 5, 6, 11, 67, 68], [.ptr 0 0 0, .ptr 1 0 0, .ref 2, .ref 3, .i .i64, .i .i64], [.st [.l (cs [I]), .l (cs [.l (cs [I])])], .st [.ref 4], .fm (cs [I]), .sq (cs [I]), .sq (cs [I])], (cs [I, I, .l (cs [I]), .l (cs [.l (cs [I])]), .l (cs [.l (cs [I])]), .l (cs [I]), .l (cs [I])])⟩
def q25_L22_o : List Out1 := [⟨.exit 4, ⟨[1, 5, 6, 11], [.ptr 0 0 0, .ptr 1 0 0, .ref 2, .ref 3], [.st [.l (cs [I]), .l (cs [.l (cs [I])])], .st [.ref 4], .fm (cs [I]), .sq (cs [I]), .sq (cs [I])], (cs [.l (cs [I]), .l (cs [.l (cs [I])]), .l (cs [.l (cs [I])]), .l (cs [I]), .l (cs [I])])⟩⟩]
def q25_L22_s (lo : Lo) : Int × Int × (List Int) × (List ((List Int))) × (List ((List Int))) × (List Int) × (List Int) → Option ((Int × Int × (List Int) × (List ((List Int))) × (List ((List Int))) × (List Int) × (List Int)) ⊕ (((List Int) × (List ((List Int))) × (List ((List Int))) × (List Int) × (List Int)))) := fun x => match x with
  | (v67, v68, in1_0, in1_1, at6, order11, h4) => bif (decide (v68 < v67)) then (chk (0 ≤ v68 ∧ v68 < (order11.length : Int)) (some (.inl (v67, (IntKind.wrap .i64 (v68 + (1 : Int))), in1_0, in1_1, at6, (order11.set v68.toNat v68), h4)))) else (some (.inr (in1_0, in1_1, at6, order11, h4)))
theorem q25_L22_e (lo : Lo) : ∀ x : Int × Int × (List Int) × (List ((List Int))) × (List ((List Int))) × (List Int) × (List Int), stepL (⟨pf, fs25 lo, [q25_L30_p lo, q25_L32_p lo], 0⟩ : Tabs) [] q25_L22_g q25_L22_o q25_L22_b x = q25_L22_s lo x := fun x => by kernel_rfl
def q25_L22 (lo : Lo) : Int × Int × (List Int) × (List ((List Int))) × (List ((List Int))) × (List Int) × (List Int) → Option (((List Int) × (List ((List Int))) × (List ((List Int))) × (List Int) × (List Int))) := lo.run (q25_L22_s lo)
def q25_L22_p (lo : Lo) : LpE := ⟨22, [], q25_L22_g, q25_L22_o, q25_L22 lo⟩
theorem q25_L22_k {lo : Lo} (hlo : LoOK lo) (C : Ctx) (hT : TOK (⟨pf, fs25 lo, [q25_L30_p lo, q25_L32_p lo], 0⟩ : Tabs) C) : LpSound (fun _ => False) [] 0 C (.loop q25_L22_b.er) (q25_L22_p lo) :=
  loop_sound (T := (⟨pf, fs25 lo, [q25_L30_p lo, q25_L32_p lo], 0⟩ : Tabs)) hT frNo (show LsOK (fun _ => False) [] C (⟨pf, fs25 lo, [q25_L30_p lo, q25_L32_p lo], 0⟩ : Tabs) q25_L22_b from ⟨trivial, ⟨⟨trivial, trivial⟩, ⟨⟨trivial, trivial⟩, trivial⟩⟩⟩) (fun x y h => loopO_congr (q25_L22_e lo) (hlo _ _ _ h))
def q25_L6_b : VCode :=
 (.seq (.reg [o 101 (.bin .lss (t 100) (t 99))])
 (.seq (.cond (t 101) .skip
 (.exit 8))
 (.seq (.blk 9 (.seq (.reg [o 102 (.iad 1 (t 98) (t 100)), o 103 (.load false 1 (t 102)), o 17 (.mv (t 103))])
 (.reg [o 104 (.load false 1 (t 5)), o 105 (.mv (t 17)), o 106 (.iad 1 (t 104) (t 105)), o 107 (.load false 1 (t 106)), o 108 (.bin .sub (t 107) (k 1)), o 109 (.iad 1 (t 104) (t 105)), on (.store 1 (t 109) (t 108))])))
 (.reg [o 110 (.bin .add (t 100) (k 1)), o 100 (.mv (t 110))]))))
def q25_L6_g : Sg := ⟨[5, 6, 13, 79, 80, 81, 98, 99, 100], [.ptr 0 0 0, .l (cs [.l (cs [I])]), .ref 1, .ref 2, .i .i64, .i .i64, .l (cs [I]), .i .i64, .i .i64], [.st [.ref 3], .sq (cs [I]), .sq (cs [I]), .sq (cs [I])], (cs [.l (cs [.l (cs [I])]), I, I, .l (cs [I]), I, I, .l (cs [I]), .l (cs [I]), .l (cs [I])])⟩
def q25_L6_o : List Out1 := [⟨.exit 8, ⟨[5, 6, 13, 79, 80, 81], [.ptr 0 0 0, .l (cs [.l (cs [I])]), .ref 1, .ref 2, .i .i64, .i .i64], [.st [.ref 3], .sq (cs [I]), .sq (cs [I]), .sq (cs [I])], (cs [.l (cs [.l (cs [I])]), I, I, .l (cs [I]), .l (cs [I]), .l (cs [I])])⟩⟩]
def q25_L6_s (lo : Lo) : (List ((List Int))) × Int × Int × (List Int) × Int × Int × (List Int) × (List Int) × (List Int) → Option (((List ((List Int))) × Int × Int × (List Int) × Int × Int × (List Int) × (List Int) × (List Int)) ⊕ (((List ((List Int))) × Int × Int × (List Int) × (List Int) × (List Int)))) := fun x => match x with
  | (at6, v80, v81, v98, v99, v100, out13, v79, h3) => bif (decide (v100 < v99)) then (chk (0 ≤ v100 ∧ v100 < (v98.length : Int)) (chk (0 ≤ (v98.getD v100.toNat (0 : Int)) ∧ (v98.getD v100.toNat (0 : Int)) < (h3.length : Int)) (chk (0 ≤ (v98.getD v100.toNat (0 : Int)) ∧ (v98.getD v100.toNat (0 : Int)) < (h3.length : Int)) (some (.inl (at6, v80, v81, v98, v99, (IntKind.wrap .i64 (v100 + (1 : Int))), out13, v79, (h3.set ((v98.getD v100.toNat (0 : Int)).toNat) (IntKind.wrap .i64 ((h3.getD ((v98.getD v100.toNat (0 : Int)).toNat) (0 : Int)) - (1 : Int)))))))))) else (some (.inr (at6, v80, v81, out13, v79, h3)))
theorem q25_L6_e (lo : Lo) : ∀ x : (List ((List Int))) × Int × Int × (List Int) × Int × Int × (List Int) × (List Int) × (List Int), stepL (⟨pf, fs25 lo, [q25_L22_p lo, q25_L30_p lo, q25_L32_p lo], 0⟩ : Tabs) [] q25_L6_g q25_L6_o q25_L6_b x = q25_L6_s lo x := fun x => by kernel_rfl
def q25_L6 (lo : Lo) : (List ((List Int))) × Int × Int × (List Int) × Int × Int × (List Int) × (List Int) × (List Int) → Option (((List ((List Int))) × Int × Int × (List Int) × (List Int) × (List Int))) := lo.run (q25_L6_s lo)
def q25_L6_p (lo : Lo) : LpE := ⟨6, [], q25_L6_g, q25_L6_o, q25_L6 lo⟩
theorem q25_L6_k {lo : Lo} (hlo : LoOK lo) (C : Ctx) (hT : TOK (⟨pf, fs25 lo, [q25_L22_p lo, q25_L30_p lo, q25_L32_p lo], 0⟩ : Tabs) C) : LpSound (fun _ => False) [] 0 C (.loop q25_L6_b.er) (q25_L6_p lo) :=
  loop_sound (T := (⟨pf, fs25 lo, [q25_L22_p lo, q25_L30_p lo, q25_L32_p lo], 0⟩ : Tabs)) hT frNo (show LsOK (fun _ => False) [] C (⟨pf, fs25 lo, [q25_L22_p lo, q25_L30_p lo, q25_L32_p lo], 0⟩ : Tabs) q25_L6_b from ⟨trivial, ⟨⟨trivial, trivial⟩, ⟨⟨trivial, trivial⟩, trivial⟩⟩⟩) (fun x y h => loopO_congr (q25_L6_e lo) (hlo _ _ _ h))
def q25_L4_b : VCode :=
 (.seq (.reg [o 82 (.bin .lss (t 81) (t 80))])
 (.seq (.cond (t 82) .skip
 (.exit 6))
 (.seq (.blk 7 (.seq (.reg [o 83 (.iad 1 (t 79) (t 81)), o 84 (.load false 1 (t 83)), o 15 (.mv (t 84))])
 (.seq (.seq (.fz [6] (.reg [o 85 (.mv (t 6)), o 86 (.mv (t 15)), o 87 (.iad 1 (t 85) (t 86)), o 88 (.load false 1 (t 87)), o 89 (.mkf 427 [(t 5)]), o 90 (.call 426 [(t 88), (t 89)])]))
 (.cond (t 90) (.seq (.reg [o 91 (.mv (t 13)), o 92 (.mv (t 15)), o 93 (.bsl (cs [I]) 1 [(0, (t 92))]), o 94 (.app (cs [I]) 0 (t 91) (t 93)), o 13 (.mv (t 94))])
 (.exit 7))
 .skip))
 (.seq (.reg [o 95 (.mv (t 6)), o 96 (.mv (t 15)), o 97 (.iad 1 (t 95) (t 96)), o 98 (.load false 1 (t 97)), o 99 (.len (t 98)), o 100 (.mv (k 0))])
 (.blk 8 (.loop 6 q25_L6_b))))))
 (.reg [o 111 (.bin .add (t 81) (k 1)), o 81 (.mv (t 111))]))))
def q25_L4_g : Sg := ⟨[5, 6, 13, 79, 80, 81], [.ptr 0 0 0, .l (cs [.l (cs [I])]), .ref 1, .ref 2, .i .i64, .i .i64], [.st [.ref 3], .sq (cs [I]), .sq (cs [I]), .sq (cs [I])], (cs [.l (cs [.l (cs [I])]), I, I, .l (cs [I]), .l (cs [I]), .l (cs [I])])⟩
def q25_L4_o : List Out1 := [⟨.exit 6, ⟨[13], [.ref 0], [.sq (cs [I])], (cs [.l (cs [I])])⟩⟩]
def q25_L4_s (lo : Lo) : (List ((List Int))) × Int × Int × (List Int) × (List Int) × (List Int) → Option (((List ((List Int))) × Int × Int × (List Int) × (List Int) × (List Int)) ⊕ (((List Int)))) := fun x => match x with
  | (at6, v80, v81, out13, v79, h3) => bif (decide (v81 < v80)) then (chk (0 ≤ v81 ∧ v81 < (v79.length : Int)) (chk (0 ≤ v79.getD v81.toNat (0 : Int) ∧ v79.getD v81.toNat (0 : Int) < (at6.length : Int)) (Option.bind (q9 lo (at6.getD ((v79.getD v81.toNat (0 : Int)).toNat) []) h3) fun y42 => chk (y42.2.length = h3.length) (bif y42.1 then (chk (out13.length + ([v79.getD v81.toNat (0 : Int)]).length ≤ maxEl) (some (.inl (at6, v80, (IntKind.wrap .i64 (v81 + (1 : Int))), (out13 ++ ([v79.getD v81.toNat (0 : Int)])), v79, y42.2)))) else (chk (0 ≤ v79.getD v81.toNat (0 : Int) ∧ v79.getD v81.toNat (0 : Int) < (at6.length : Int)) (Option.bind (q25_L6 lo (at6, v80, v81, (at6.getD ((v79.getD v81.toNat (0 : Int)).toNat) []), ((at6.getD ((v79.getD v81.toNat (0 : Int)).toNat) []).length : Int), (0 : Int), out13, v79, y42.2)) fun y43 => some (.inl (y43.1, y43.2.1, (IntKind.wrap .i64 (y43.2.2.1 + (1 : Int))), y43.2.2.2.1, y43.2.2.2.2.1, y43.2.2.2.2.2)))))))) else (some (.inr out13))
theorem q25_L4_e (lo : Lo) : ∀ x : (List ((List Int))) × Int × Int × (List Int) × (List Int) × (List Int), stepL (⟨pf, fs25 lo, [q25_L6_p lo, q25_L22_p lo, q25_L30_p lo, q25_L32_p lo], 0⟩ : Tabs) [(13, none, false)] q25_L4_g q25_L4_o q25_L4_b x = q25_L4_s lo x := fun x => by kernel_rfl
def q25_L4 (lo : Lo) : (List ((List Int))) × Int × Int × (List Int) × (List Int) × (List Int) → Option (((List Int))) := lo.run (q25_L4_s lo)
def q25_L4_p (lo : Lo) : LpE := ⟨4, [(13, none, false)], q25_L4_g, q25_L4_o, q25_L4 lo⟩
theorem q25_L4_k {lo : Lo} (hlo : LoOK lo) (C : Ctx) (hT : TOK (⟨pf, fs25 lo, [q25_L6_p lo, q25_L22_p lo, q25_L30_p lo, q25_L32_p lo], 0⟩ : Tabs) C) : LpSound (fun _ => False) [] 0 C (.loop q25_L4_b.er) (q25_L4_p lo) :=
  loop_sound (T := (⟨pf, fs25 lo, [q25_L6_p lo, q25_L22_p lo, q25_L30_p lo, q25_L32_p lo], 0⟩ : Tabs)) hT frNo (show LsOK (fun _ => False) [] C (⟨pf, fs25 lo, [q25_L6_p lo, q25_L22_p lo, q25_L30_p lo, q25_L32_p lo], 0⟩ : Tabs) q25_L4_b from ⟨trivial, ⟨⟨trivial, trivial⟩, ⟨⟨trivial, ⟨⟨trivial, ⟨⟨trivial, trivial⟩, trivial⟩⟩, ⟨trivial, (lsGet (by kernel_rfl) (q25_L6_k hlo C (tok_ls hT)))⟩⟩⟩, trivial⟩⟩⟩) (fun x y h => loopO_congr (q25_L4_e lo) (hlo _ _ _ h))
def q25 (lo : Lo) (in0_0 : List Int) (in0_1 : List ((List Int))) : Option ((List Int) × Int) :=
  Option.bind (q1 lo in0_0 in0_1) fun y37 => bif (!decide (y37 = (0 : Int))) then (some (([] : List Int), y37)) else (chk (0 ≤ (in0_1.length : Int) ∧ (in0_1.length : Int) ≤ (in0_1.length : Int) ∧ (in0_1.length : Int) ≤ (maxEl : Nat)) (chk (0 ≤ (in0_0.length : Int) ∧ (in0_0.length : Int) ≤ (in0_0.length : Int) ∧ (in0_0.length : Int) ≤ (maxEl : Nat)) (Option.bind (q25_L30 lo (in0_1, (in0_1.length : Int), (0 : Int), in0_0, in0_1, (List.replicate (in0_0.length : Int).toNat ([] : List Int)), (List.replicate (in0_1.length : Int).toNat (0 : Int)))) fun y39 => chk (0 ≤ (y39.1.length : Int) ∧ (y39.1.length : Int) ≤ (y39.1.length : Int) ∧ (y39.1.length : Int) ≤ (maxEl : Nat)) (Option.bind (q25_L22 lo (((List.replicate (y39.1.length : Int).toNat (0 : Int)).length : Int), (0 : Int), y39.1, y39.2.1, y39.2.2.1, (List.replicate (y39.1.length : Int).toNat (0 : Int)), y39.2.2.2)) fun y40 => Option.bind (q6 lo y40.2.2.2.1 y40.1 y40.2.1) fun y41 => chk (y41.1.length = y40.2.2.2.1.length) (Option.bind (q25_L4 lo (y40.2.2.1, (y41.1.length : Int), (0 : Int), [], y41.1, y40.2.2.2.2)) fun y44 => Option.bind (q24 lo y44) fun y104 => chk (y104.length = y44.length) (some (y104, (0 : Int))))))))
def q25_c : VCode :=
 (.seq (.reg [o 1 (.box (t 0)), o 2 (.mv (ke (cs [I]))), o 3 (.mv (k 0))])
 (.seq (.seq (.reg [o 18 (.load true 2 (t 1)), o 19 (.call 401 [(t 18)]), o 4 (.mv (t 19))])
 (.seq (.reg [o 20 (.mv (t 4)), o 21 (.bin .neq (t 20) (k 0))])
 (.cond (t 21) (.seq (.reg [o 22 (.mv (t 4)), o 2 (.mv (ke (cs [I]))), o 3 (.mv (t 22))])
 (.fz [2, 3] .ret))
 .skip)))
 (.seq (.reg [o 23 (.fad 1 (t 1)), o 24 (.load false 1 (t 23)), o 25 (.len (t 24)), o 26 (.mksl (cs [I]) 0 (t 25) (t 25)), o 5 (.alloc [.e (cs [I])]), on (.store 1 (t 5) (t 26))])
 (.seq (.reg [o 27 (.fad 0 (t 1)), o 28 (.load false 1 (t 27)), o 29 (.len (t 28)), o 30 (.mksl (cs [.l (cs [I])]) 2 (t 29) (t 29)), o 6 (.mv (t 30))])
 (.seq (.seq (.reg [o 31 (.fad 1 (t 1)), o 32 (.load false 1 (t 31)), o 33 (.len (t 32)), o 34 (.mv (k 0))])
 (.blk 0 (.loop 30 q25_L30_b)))
 (.seq (.reg [o 62 (.fad 0 (t 1)), o 63 (.load false 1 (t 62)), o 64 (.len (t 63)), o 65 (.mksl (cs [I]) 0 (t 64) (t 64)), o 11 (.mv (t 65))])
 (.seq (.seq (.reg [o 66 (.mv (t 11)), o 67 (.len (t 66)), o 68 (.mv (k 0))])
 (.blk 4 (.loop 22 q25_L22_b)))
 (.seq (.reg [o 76 (.mv (t 11)), o 77 (.mkf 425 [(t 1)]), o 78 (.call 424 [(t 76), (t 77)])])
 (.seq (.reg [o 13 (.mv (ke (cs [I])))])
 (.seq (.seq (.reg [o 79 (.mv (t 11)), o 80 (.len (t 79)), o 81 (.mv (k 0))])
 (.blk 6 (.fz [6] (.loop 4 q25_L4_b))))
 (.seq (.reg [o 112 (.mv (t 13)), o 113 (.call 147 [(t 112)])])
 (.seq (.reg [o 114 (.mv (t 13)), o 2 (.mv (t 114)), o 3 (.mv (k 0))])
 (.fz [2, 3] .ret)))))))))))))
def q25_F : VFn := ⟨true, 115, [.t 2, .t 3], q25_c⟩
def q25_f (lo : Lo) : FnE := ⟨404, true, ⟨[0], [.ag [.l (cs [I]), .l (cs [.l (cs [I])])]], [], (cs [.l (cs [I]), .l (cs [.l (cs [I])])])⟩, .tp [.l (cs [I]), .i .i64], [], (cs [.l (cs [I]), I]), (fun x => q25 lo x.1 x.2 : (List Int) × (List ((List Int))) → Option ((List Int) × Int))⟩
theorem q25_e (lo : Lo) : ∀ x : (List Int) × (List ((List Int))), evP (⟨pf, fs25 lo, [q25_L4_p lo, q25_L6_p lo, q25_L22_p lo, q25_L30_p lo, q25_L32_p lo], 0⟩ : Tabs) q25_F ⟨[0], [.ag [.l (cs [I]), .l (cs [.l (cs [I])])]], [], (cs [.l (cs [I]), .l (cs [.l (cs [I])])])⟩ (.tp [.l (cs [I]), .i .i64]) (cs [.l (cs [I]), I]) x = q25 lo x.1 x.2 := fun x => by kernel_rfl
theorem q25_S {P : Program} {fm : FM} {lo : Lo} (hlo : LoOK lo) (hS : Sound P fm ⟨pf, fs25 lo, [], 0⟩) (hm : P.follows .mixedOrders = true) (htie : ∀ f, fm f = 404 → fnTr P fm pf f = some (q25_F.slots, q25_F.res, q25_F.code.er)) : Sound P fm ⟨pf, q25_f lo :: fs25 lo, [], 0⟩ :=
  fn_sound hS hm [q25_L4_p lo, q25_L6_p lo, q25_L22_p lo, q25_L30_p lo, q25_L32_p lo] (q25_f lo) rfl q25_F htie (by decide) rfl (Nat.le_of_ble_eq_true (by kernel_rfl)) (fun C hT => show LsOK (fun _ => False) [] C (⟨pf, fs25 lo, [q25_L4_p lo, q25_L6_p lo, q25_L22_p lo, q25_L30_p lo, q25_L32_p lo], 0⟩ : Tabs) q25_c from ⟨trivial, ⟨⟨trivial, ⟨trivial, ⟨⟨trivial, trivial⟩, trivial⟩⟩⟩, ⟨trivial, ⟨trivial, ⟨⟨trivial, (lsGet (by kernel_rfl) (q25_L30_k hlo C (tok_ls hT)))⟩, ⟨trivial, ⟨⟨trivial, (lsGet (by kernel_rfl) (q25_L22_k hlo C (tok_ls hT)))⟩, ⟨trivial, ⟨trivial, ⟨⟨trivial, (lsGet (by kernel_rfl) (q25_L4_k hlo C (tok_ls hT)))⟩, ⟨trivial, ⟨trivial, trivial⟩⟩⟩⟩⟩⟩⟩⟩⟩⟩⟩⟩) (fun x y h => (q25_e lo x).trans h)
def fs26 (lo : Lo) : List FnE := q25_f lo :: fs25 lo
def q26_L3_b : VCode :=
 (.seq (.reg [o 9 (.bin .lss (t 8) (t 7))])
 (.seq (.cond (t 9) .skip
 (.exit 0))
 (.seq (.blk 1 (.seq (.reg [o 10 (.mv (t 8)), o 5 (.mv (t 10))])
 (.seq (.reg [o 11 (.mv (t 1)), o 12 (.mv (t 0)), o 13 (.mv (t 5)), o 14 (.iad 1 (t 12) (t 13)), o 15 (.load false 1 (t 14)), o 16 (.bin .eql (t 11) (t 15))])
 (.cond (t 16) (.seq (.reg [o 17 (.mv (t 5)), o 4 (.mv (t 17))])
 (.fz [4] .ret))
 .skip))))
 (.reg [o 18 (.bin .add (t 8) (k 1)), o 8 (.mv (t 18))]))))
def q26_L3_g : Sg := ⟨[0, 1, 7, 8], [.l (cs [I]), .i .i64, .i .i64, .i .i64], [], (cs [.l (cs [I]), I, I, I])⟩
def q26_L3_o : List Out1 := [⟨.ret, ⟨[4], [.i .i64], [], (cs [I])⟩⟩, ⟨.exit 0, ⟨[], [], [], (cs [])⟩⟩]
def q26_L3_s (lo : Lo) : (List Int) × Int × Int × Int → Option (((List Int) × Int × Int × Int) ⊕ (Int ⊕ Unit)) := fun x => match x with
  | (s0, v1, v7, v8) => bif (decide (v8 < v7)) then (chk (0 ≤ v8 ∧ v8 < (s0.length : Int)) (bif (decide (v1 = (s0.getD v8.toNat (0 : Int)))) then (some (.inr (.inl v8))) else (some (.inl (s0, v1, v7, (IntKind.wrap .i64 (v8 + (1 : Int)))))))) else (some (.inr (.inr ())))
theorem q26_L3_e (lo : Lo) : ∀ x : (List Int) × Int × Int × Int, stepL (⟨pf, fs26 lo, [], 0⟩ : Tabs) [] q26_L3_g q26_L3_o q26_L3_b x = q26_L3_s lo x := fun x => by kernel_rfl
def q26_L3 (lo : Lo) : (List Int) × Int × Int × Int → Option (Int ⊕ Unit) := lo.run (q26_L3_s lo)
def q26_L3_p (lo : Lo) : LpE := ⟨3, [], q26_L3_g, q26_L3_o, q26_L3 lo⟩
theorem q26_L3_k {lo : Lo} (hlo : LoOK lo) (C : Ctx) (hT : TOK (⟨pf, fs26 lo, [], 0⟩ : Tabs) C) : LpSound (fun _ => False) [] 0 C (.loop q26_L3_b.er) (q26_L3_p lo) :=
  loop_sound (T := (⟨pf, fs26 lo, [], 0⟩ : Tabs)) hT frNo (show LsOK (fun _ => False) [] C (⟨pf, fs26 lo, [], 0⟩ : Tabs) q26_L3_b from ⟨trivial, ⟨⟨trivial, trivial⟩, ⟨⟨trivial, ⟨trivial, ⟨⟨trivial, trivial⟩, trivial⟩⟩⟩, trivial⟩⟩⟩) (fun x y h => loopO_congr (q26_L3_e lo) (hlo _ _ _ h))
def q26 (lo : Lo) (s0 : List Int) (v1 : Int) : Option Int :=
  Option.bind (q26_L3 lo (s0, v1, (s0.length : Int), (0 : Int))) fun y107 => alt2 y107 (fun y108 => some y108) (fun y109 => some (-1 : Int))
def q26_c : VCode :=
 (.seq (.reg [o 4 (.mv (k 0))])
 (.seq (.seq (.reg [o 6 (.mv (t 0)), o 7 (.len (t 6)), o 8 (.mv (k 0))])
 (.blk 0 (.loop 3 q26_L3_b)))
 (.seq (.reg [o 4 (.mv (k (-1)))])
 (.fz [4] .ret))))
def q26_F : VFn := ⟨true, 19, [.t 4], q26_c⟩
def q26_f (lo : Lo) : FnE := ⟨448, true, ⟨[0, 1], [.l (cs [I]), .i .i64], [], (cs [.l (cs [I]), I])⟩, .i .i64, [], (cs [I]), (fun x => q26 lo x.1 x.2 : (List Int) × Int → Option Int)⟩
theorem q26_e (lo : Lo) : ∀ x : (List Int) × Int, evP (⟨pf, fs26 lo, [q26_L3_p lo], 0⟩ : Tabs) q26_F ⟨[0, 1], [.l (cs [I]), .i .i64], [], (cs [.l (cs [I]), I])⟩ (.i .i64) (cs [I]) x = q26 lo x.1 x.2 := fun x => by kernel_rfl
theorem q26_S {P : Program} {fm : FM} {lo : Lo} (hlo : LoOK lo) (hS : Sound P fm ⟨pf, fs26 lo, [], 0⟩) (hm : P.follows .mixedOrders = true) (htie : ∀ f, fm f = 448 → fnTr P fm pf f = some (q26_F.slots, q26_F.res, q26_F.code.er)) : Sound P fm ⟨pf, q26_f lo :: fs26 lo, [], 0⟩ :=
  fn_sound hS hm [q26_L3_p lo] (q26_f lo) rfl q26_F htie (by decide) rfl (Nat.le_of_ble_eq_true (by kernel_rfl)) (fun C hT => show LsOK (fun _ => False) [] C (⟨pf, fs26 lo, [q26_L3_p lo], 0⟩ : Tabs) q26_c from ⟨trivial, ⟨⟨trivial, (lsGet (by kernel_rfl) (q26_L3_k hlo C (tok_ls hT)))⟩, ⟨trivial, trivial⟩⟩⟩) (fun x y h => (q26_e lo x).trans h)
def fs27 (lo : Lo) : List FnE := q26_f lo :: fs26 lo
def q27 (lo : Lo) (s0 : List Int) (v1 : Int) : Option Bool :=
  Option.bind (q26 lo s0 v1) fun y110 => some (decide ((0 : Int) ≤ y110))
def q27_c : VCode :=
 (.seq (.reg [o 4 (.mv (kb false))])
 (.seq (.reg [o 5 (.mv (t 0)), o 6 (.mv (t 1)), o 7 (.call 448 [(t 5), (t 6)]), o 8 (.bin .geq (t 7) (k 0)), o 4 (.mv (t 8))])
 (.fz [4] .ret)))
def q27_F : VFn := ⟨true, 9, [.t 4], q27_c⟩
def q27_f (lo : Lo) : FnE := ⟨434, true, ⟨[0, 1], [.l (cs [I]), .i .i64], [], (cs [.l (cs [I]), I])⟩, .b, [], (cs [.b]), (fun x => q27 lo x.1 x.2 : (List Int) × Int → Option Bool)⟩
theorem q27_e (lo : Lo) : ∀ x : (List Int) × Int, evP (⟨pf, fs27 lo, [], 0⟩ : Tabs) q27_F ⟨[0, 1], [.l (cs [I]), .i .i64], [], (cs [.l (cs [I]), I])⟩ (.b) (cs [.b]) x = q27 lo x.1 x.2 := fun x => by kernel_rfl
theorem q27_S {P : Program} {fm : FM} {lo : Lo} (hlo : LoOK lo) (hS : Sound P fm ⟨pf, fs27 lo, [], 0⟩) (hm : P.follows .mixedOrders = true) (htie : ∀ f, fm f = 434 → fnTr P fm pf f = some (q27_F.slots, q27_F.res, q27_F.code.er)) : Sound P fm ⟨pf, q27_f lo :: fs27 lo, [], 0⟩ :=
  fn_sound hS hm [] (q27_f lo) rfl q27_F htie (by decide) rfl (Nat.le_of_ble_eq_true (by kernel_rfl)) (fun C hT => show LsOK (fun _ => False) [] C (⟨pf, fs27 lo, [], 0⟩ : Tabs) q27_c from ⟨trivial, ⟨trivial, trivial⟩⟩) (fun x y h => (q27_e lo x).trans h)
def fs28 (lo : Lo) : List FnE := q27_f lo :: fs27 lo
def q28_L3_b : VCode :=
 (.seq (.reg [o 18 (.bin .lss (t 17) (t 16))])
 (.seq (.cond (t 18) .skip
 (.exit 0))
 (.seq (.blk 1 (.seq (.reg [o 19 (.mv (t 17)), o 20 (.iad 1 (t 15) (t 17)), o 21 (.load false 1 (t 20)), o 8 (.mv (t 19)), o 9 (.mv (t 21))])
 (.seq (.seq (.reg [o 22 (.mv (t 9)), o 23 (.bin .lss (t 22) (k 0)), o 24 (.mv (t 23)), og 25 24 false (.mv (t 9)), og 26 24 false (.fad 0 (t 2)), og 27 24 false (.load false 1 (t 26)), og 28 24 false (.len (t 27)), og 29 24 false (.bin .geq (t 25) (t 28)), o 30 (.pick (t 24) (kb true) (t 29)), o 31 (.mv (t 30)), og 32 31 false (.mv (t 1)), og 33 31 false (.mv (t 8)), og 34 31 false (.slcR 1 (t 32) none (some (t 33))), og 35 31 false (.mv (t 9)), og 36 31 false (.call 434 [(t 34), (t 35)]), o 37 (.pick (t 31) (kb true) (t 36))])
 (.cond (t 37) (.seq (.reg [o 4 (.mv (k 0)), o 5 (.mv (k 1))])
 (.fz [4, 5] .ret))
 .skip))
 (.reg [o 38 (.mv (t 7)), o 39 (.fad 0 (t 2)), o 40 (.load false 1 (t 39)), o 41 (.mv (t 9)), o 42 (.iad 1 (t 40) (t 41)), o 43 (.load false 1 (t 42)), o 44 (.bin .add (t 38) (t 43)), o 7 (.mv (t 44))]))))
 (.reg [o 45 (.bin .add (t 17) (k 1)), o 17 (.mv (t 45))]))))
def q28_L3_g : Sg := ⟨[1, 2, 7, 15, 16, 17], [.l (cs [I]), .ptr 0 0 0, .i .i64, .l (cs [I]), .i .i64, .i .i64], [.st [.l (cs [I]), .l (cs [.l (cs [I])])]], (cs [.l (cs [I]), I, .l (cs [I]), I, I, .l (cs [I]), .l (cs [.l (cs [I])])])⟩
def q28_L3_o : List Out1 := [⟨.ret, ⟨[4, 5], [.i .i64, .i .i64], [], (cs [I, I])⟩⟩, ⟨.exit 0, ⟨[7], [.i .i64], [], (cs [I])⟩⟩]
def q28_L3_s (lo : Lo) : (List Int) × Int × (List Int) × Int × Int × (List Int) × (List ((List Int))) → Option (((List Int) × Int × (List Int) × Int × Int × (List Int) × (List ((List Int)))) ⊕ ((Int × Int) ⊕ Int)) := fun x => match x with
  | (l1, sum7, v15, v16, v17, in2_0, in2_1) => bif (decide (v17 < v16)) then (chk (0 ≤ v17 ∧ v17 < (v15.length : Int)) (bif (decide ((v15.getD v17.toNat (0 : Int)) < (0 : Int))) then (some (.inr (.inl ((0 : Int), (1 : Int))))) else (bif (decide ((in2_0.length : Int) ≤ (v15.getD v17.toNat (0 : Int)))) then (some (.inr (.inl ((0 : Int), (1 : Int))))) else (chk (0 ≤ (0 : Int) ∧ (0 : Int) ≤ v17 ∧ v17 ≤ (l1.length : Int)) (Option.bind (q27 lo ((l1.take v17.toNat).drop 0) (v15.getD v17.toNat (0 : Int))) fun y111 => bif y111 then (some (.inr (.inl ((0 : Int), (1 : Int))))) else (chk (0 ≤ (v15.getD v17.toNat (0 : Int)) ∧ (v15.getD v17.toNat (0 : Int)) < (in2_0.length : Int)) (some (.inl (l1, (IntKind.wrap .i64 (sum7 + (in2_0.getD ((v15.getD v17.toNat (0 : Int)).toNat) (0 : Int)))), v15, v16, (IntKind.wrap .i64 (v17 + (1 : Int))), in2_0, in2_1))))))))) else (some (.inr (.inr sum7)))
theorem q28_L3_e (lo : Lo) : ∀ x : (List Int) × Int × (List Int) × Int × Int × (List Int) × (List ((List Int))), stepL (⟨pf, fs28 lo, [], 0⟩ : Tabs) [] q28_L3_g q28_L3_o q28_L3_b x = q28_L3_s lo x := fun x => by kernel_rfl
def q28_L3 (lo : Lo) : (List Int) × Int × (List Int) × Int × Int × (List Int) × (List ((List Int))) → Option ((Int × Int) ⊕ Int) := lo.run (q28_L3_s lo)
def q28_L3_p (lo : Lo) : LpE := ⟨3, [], q28_L3_g, q28_L3_o, q28_L3 lo⟩
theorem q28_L3_k {lo : Lo} (hlo : LoOK lo) (C : Ctx) (hT : TOK (⟨pf, fs28 lo, [], 0⟩ : Tabs) C) : LpSound (fun _ => False) [] 0 C (.loop q28_L3_b.er) (q28_L3_p lo) :=
  loop_sound (T := (⟨pf, fs28 lo, [], 0⟩ : Tabs)) hT frNo (show LsOK (fun _ => False) [] C (⟨pf, fs28 lo, [], 0⟩ : Tabs) q28_L3_b from ⟨trivial, ⟨⟨trivial, trivial⟩, ⟨⟨trivial, ⟨⟨trivial, ⟨⟨trivial, trivial⟩, trivial⟩⟩, trivial⟩⟩, trivial⟩⟩⟩) (fun x y h => loopO_congr (q28_L3_e lo) (hlo _ _ _ h))
def q28 (lo : Lo) (in0_0 : List Int) (in0_1 : List ((List Int))) (l1 : List Int) : Option (Int × Int) :=
  Option.bind (q1 lo in0_0 in0_1) fun y106 => bif (!decide (y106 = (0 : Int))) then (some ((0 : Int), y106)) else (Option.bind (q28_L3 lo (l1, (0 : Int), l1, (l1.length : Int), (0 : Int), in0_0, in0_1)) fun y112 => alt2 y112 (fun y113 => some (y113.1, y113.2)) (fun y114 => some (y114, (0 : Int))))
def q28_c : VCode :=
 (.seq (.reg [o 2 (.box (t 0)), o 4 (.mv (k 0)), o 5 (.mv (k 0))])
 (.seq (.seq (.reg [o 10 (.load true 2 (t 2)), o 11 (.call 401 [(t 10)]), o 6 (.mv (t 11))])
 (.seq (.reg [o 12 (.mv (t 6)), o 13 (.bin .neq (t 12) (k 0))])
 (.cond (t 13) (.seq (.reg [o 14 (.mv (t 6)), o 4 (.mv (k 0)), o 5 (.mv (t 14))])
 (.fz [4, 5] .ret))
 .skip)))
 (.seq (.reg [o 7 (.mv (k 0))])
 (.seq (.seq (.reg [o 15 (.mv (t 1)), o 16 (.len (t 15)), o 17 (.mv (k 0))])
 (.blk 0 (.loop 3 q28_L3_b)))
 (.seq (.reg [o 46 (.mv (t 7)), o 4 (.mv (t 46)), o 5 (.mv (k 0))])
 (.fz [4, 5] .ret))))))
def q28_F : VFn := ⟨true, 47, [.t 4, .t 5], q28_c⟩
def q28_f (lo : Lo) : FnE := ⟨413, true, ⟨[0, 1], [.ag [.l (cs [I]), .l (cs [.l (cs [I])])], .l (cs [I])], [], (cs [.l (cs [I]), .l (cs [.l (cs [I])]), .l (cs [I])])⟩, .tp [.i .i64, .i .i64], [], (cs [I, I]), (fun x => q28 lo x.1 x.2.1 x.2.2 : (List Int) × (List ((List Int))) × (List Int) → Option (Int × Int))⟩
theorem q28_e (lo : Lo) : ∀ x : (List Int) × (List ((List Int))) × (List Int), evP (⟨pf, fs28 lo, [q28_L3_p lo], 0⟩ : Tabs) q28_F ⟨[0, 1], [.ag [.l (cs [I]), .l (cs [.l (cs [I])])], .l (cs [I])], [], (cs [.l (cs [I]), .l (cs [.l (cs [I])]), .l (cs [I])])⟩ (.tp [.i .i64, .i .i64]) (cs [I, I]) x = q28 lo x.1 x.2.1 x.2.2 := fun x => by kernel_rfl
theorem q28_S {P : Program} {fm : FM} {lo : Lo} (hlo : LoOK lo) (hS : Sound P fm ⟨pf, fs28 lo, [], 0⟩) (hm : P.follows .mixedOrders = true) (htie : ∀ f, fm f = 413 → fnTr P fm pf f = some (q28_F.slots, q28_F.res, q28_F.code.er)) : Sound P fm ⟨pf, q28_f lo :: fs28 lo, [], 0⟩ :=
  fn_sound hS hm [q28_L3_p lo] (q28_f lo) rfl q28_F htie (by decide) rfl (Nat.le_of_ble_eq_true (by kernel_rfl)) (fun C hT => show LsOK (fun _ => False) [] C (⟨pf, fs28 lo, [q28_L3_p lo], 0⟩ : Tabs) q28_c from ⟨trivial, ⟨⟨trivial, ⟨trivial, ⟨⟨trivial, trivial⟩, trivial⟩⟩⟩, ⟨trivial, ⟨⟨trivial, (lsGet (by kernel_rfl) (q28_L3_k hlo C (tok_ls hT)))⟩, ⟨trivial, trivial⟩⟩⟩⟩⟩) (fun x y h => (q28_e lo x).trans h)
def fs29 (lo : Lo) : List FnE := q28_f lo :: fs28 lo
def q29 (lo : Lo) (in0_0 : List Int) (in0_1 : List ((List Int))) (budget1 : Int) : Option ((List Int) × (List ((List Int))) × Int × (List Int)) :=
  chk (0 ≤ (in0_0.length : Int) ∧ (in0_0.length : Int) ≤ (in0_0.length : Int) ∧ (in0_0.length : Int) ≤ (maxEl : Nat)) (some (in0_0, in0_1, budget1, (List.replicate (in0_0.length : Int).toNat (0 : Int))))
def q29_c : VCode :=
 (.seq (.reg [o 2 (.box (t 0)), o 4 (.mv (.c (.v (.pointer none))))])
 (.seq (.reg [⟨some 5, .load true 2 (t 2), none, true, false⟩, o 6 (.fad 0 (t 2)), o 7 (.load false 1 (t 6)), o 8 (.len (t 7)), o 9 (.mksl (cs [I]) 0 (t 8) (t 8)), o 10 (.mv (t 1)), o 11 (.build [.e (cs [I]), .e (cs [.l (cs [I])]), .e (cs [I]), .i .i64 0] [(0, 2, (t 5)), (2, 1, (t 9)), (3, 1, (t 10))]), o 12 (.box (t 11)), o 4 (.mv (t 12))])
 .ret))
def q29_F : VFn := ⟨true, 13, [.t 4], q29_c⟩
def q29_f (lo : Lo) : FnE := ⟨429, false, ⟨[0, 1], [.ag [.l (cs [I]), .l (cs [.l (cs [I])])], .i .i64], [], (cs [.l (cs [I]), .l (cs [.l (cs [I])]), I])⟩, .ptr 0 0 0, [.st [.l (cs [I]), .l (cs [.l (cs [I])]), .ref 1, .i .i64], .sq (cs [I])], (cs [.l (cs [I]), .l (cs [.l (cs [I])]), I, .l (cs [I])]), (fun x => q29 lo x.1 x.2.1 x.2.2 : (List Int) × (List ((List Int))) × Int → Option ((List Int) × (List ((List Int))) × Int × (List Int)))⟩
theorem q29_e (lo : Lo) : ∀ x : (List Int) × (List ((List Int))) × Int, evI (⟨pf, fs29 lo, [], 0⟩ : Tabs) q29_F ⟨[0, 1], [.ag [.l (cs [I]), .l (cs [.l (cs [I])])], .i .i64], [], (cs [.l (cs [I]), .l (cs [.l (cs [I])]), I])⟩ (.ptr 0 0 0) [.st [.l (cs [I]), .l (cs [.l (cs [I])]), .ref 1, .i .i64], .sq (cs [I])] (cs [.l (cs [I]), .l (cs [.l (cs [I])]), I, .l (cs [I])]) x = q29 lo x.1 x.2.1 x.2.2 := fun x => by kernel_rfl
theorem q29_S {P : Program} {fm : FM} {lo : Lo} (hlo : LoOK lo) (hS : Sound P fm ⟨pf, fs29 lo, [], 0⟩) (hm : P.follows .mixedOrders = true) (htie : ∀ f, fm f = 429 → fnTr P fm pf f = some (q29_F.slots, q29_F.res, q29_F.code.er)) : Sound P fm ⟨pf, q29_f lo :: fs29 lo, [], 0⟩ :=
  fnI_sound hS hm [] (q29_f lo) rfl q29_F htie (by decide) rfl (Nat.le_of_ble_eq_true (by kernel_rfl)) (fun C hT Fr H0 hf => show LsOK Fr H0 C (⟨pf, fs29 lo, [], 0⟩ : Tabs) q29_c from ⟨trivial, ⟨trivial, trivial⟩⟩) (fun x y h => (q29_e lo x).trans h)
def fs30 (lo : Lo) : List FnE := q29_f lo :: fs29 lo
def q30 (lo : Lo) (s0_0 : List Int) (s0_1 : List ((List Int))) (s0_2 : Int) (h1 : List Int) : Option (Bool × (List Int) × (List ((List Int))) × Int × (List Int)) :=
  some ((decide ((0 : Int) ≤ (IntKind.wrap .i64 (s0_2 - (1 : Int))))), s0_0, s0_1, (IntKind.wrap .i64 (s0_2 - (1 : Int))), h1)
def q30_c : VCode :=
 (.seq (.reg [o 2 (.mv (kb false))])
 (.seq (.reg [o 3 (.mv (t 0)), o 4 (.nilc (t 3)), o 5 (.fad 3 (t 4)), o 6 (.load false 1 (t 5)), o 7 (.bin .sub (t 6) (k 1)), o 8 (.nilc (t 3)), o 9 (.fad 3 (t 8)), on (.store 1 (t 9) (t 7))])
 (.seq (.reg [o 10 (.mv (t 0)), o 11 (.nilc (t 10)), o 12 (.fad 3 (t 11)), o 13 (.load false 1 (t 12)), o 14 (.bin .geq (t 13) (k 0)), o 2 (.mv (t 14))])
 .ret)))
def q30_F : VFn := ⟨true, 15, [.t 2], q30_c⟩
def q30_f (lo : Lo) : FnE := ⟨443, false, ⟨[0], [.ptr 0 0 0], [.st [.l (cs [I]), .l (cs [.l (cs [I])]), .ref 1, .i .i64], .sq (cs [I])], (cs [.l (cs [I]), .l (cs [.l (cs [I])]), I, .l (cs [I])])⟩, .b, [.st [.l (cs [I]), .l (cs [.l (cs [I])]), .ref 1, .i .i64], .sq (cs [I])], (cs [.b, .l (cs [I]), .l (cs [.l (cs [I])]), I, .l (cs [I])]), (fun x => q30 lo x.1 x.2.1 x.2.2.1 x.2.2.2 : (List Int) × (List ((List Int))) × Int × (List Int) → Option (Bool × (List Int) × (List ((List Int))) × Int × (List Int)))⟩
theorem q30_e (lo : Lo) : ∀ x : (List Int) × (List ((List Int))) × Int × (List Int), evI (⟨pf, fs30 lo, [], 2⟩ : Tabs) q30_F ⟨[0], [.ptr 0 0 0], [.st [.l (cs [I]), .l (cs [.l (cs [I])]), .ref 1, .i .i64], .sq (cs [I])], (cs [.l (cs [I]), .l (cs [.l (cs [I])]), I, .l (cs [I])])⟩ (.b) [.st [.l (cs [I]), .l (cs [.l (cs [I])]), .ref 1, .i .i64], .sq (cs [I])] (cs [.b, .l (cs [I]), .l (cs [.l (cs [I])]), I, .l (cs [I])]) x = q30 lo x.1 x.2.1 x.2.2.1 x.2.2.2 := fun x => by kernel_rfl
theorem q30_S {P : Program} {fm : FM} {lo : Lo} (hlo : LoOK lo) (hS : Sound P fm ⟨pf, fs30 lo, [], 0⟩) (hm : P.follows .mixedOrders = true) (htie : ∀ f, fm f = 443 → fnTr P fm pf f = some (q30_F.slots, q30_F.res, q30_F.code.er)) : Sound P fm ⟨pf, q30_f lo :: fs30 lo, [], 0⟩ :=
  fnI_sound hS hm [] (q30_f lo) rfl q30_F htie (by decide) rfl (Nat.le_of_ble_eq_true (by kernel_rfl)) (fun C hT Fr H0 hf => show LsOK Fr H0 C (⟨pf, fs30 lo, [], 2⟩ : Tabs) q30_c from ⟨trivial, ⟨trivial, ⟨trivial, trivial⟩⟩⟩) (fun x y h => (q30_e lo x).trans h)
def fs31 (lo : Lo) : List FnE := q30_f lo :: fs30 lo
def q31 (lo : Lo) (v0 : Int) (v2 : Int) (h2_0 : List Int) (h2_1 : List ((List Int))) (h2_2 : Int) (h3 : List Int) : Option (Bool × Int × (List Int) × (List ((List Int))) × Int × (List Int)) :=
  chk (0 ≤ v0 ∧ v0 < (h3.length : Int)) (some ((decide (h3.getD v0.toNat (0 : Int) = v2)), v2, h2_0, h2_1, h2_2, h3))
def q31_c : VCode :=
 (.seq (.reg [o 4 (.mv (kb false))])
 (.seq (.reg [o 5 (.load false 1 (t 1)), o 6 (.nilc (t 5)), o 7 (.fad 2 (t 6)), o 8 (.load false 1 (t 7)), o 9 (.mv (t 0)), o 10 (.iad 1 (t 8) (t 9)), o 11 (.load false 1 (t 10)), o 12 (.load false 1 (t 2)), o 13 (.bin .eql (t 11) (t 12)), o 4 (.mv (t 13))])
 .ret))
def q31_F : VFn := ⟨true, 14, [.t 4], q31_c⟩
def q31_f (lo : Lo) : FnE := ⟨455, false, ⟨[0, 1, 2], [.i .i64, .ptr 0 0 0, .ptr 1 0 0], [.st [.ptr 2 0 0], .st [.i .i64], .st [.l (cs [I]), .l (cs [.l (cs [I])]), .ref 3, .i .i64], .sq (cs [I]), .st [.ptr 2 0 0]], (cs [I, I, .l (cs [I]), .l (cs [.l (cs [I])]), I, .l (cs [I])])⟩, .b, [.st [.ptr 2 0 0], .st [.i .i64], .st [.l (cs [I]), .l (cs [.l (cs [I])]), .ref 3, .i .i64], .sq (cs [I]), .st [.ptr 2 0 0]], (cs [.b, I, .l (cs [I]), .l (cs [.l (cs [I])]), I, .l (cs [I])]), (fun x => q31 lo x.1 x.2.1 x.2.2.1 x.2.2.2.1 x.2.2.2.2.1 x.2.2.2.2.2 : Int × Int × (List Int) × (List ((List Int))) × Int × (List Int) → Option (Bool × Int × (List Int) × (List ((List Int))) × Int × (List Int)))⟩
theorem q31_e (lo : Lo) : ∀ x : Int × Int × (List Int) × (List ((List Int))) × Int × (List Int), evI (⟨pf, fs31 lo, [], 5⟩ : Tabs) q31_F ⟨[0, 1, 2], [.i .i64, .ptr 0 0 0, .ptr 1 0 0], [.st [.ptr 2 0 0], .st [.i .i64], .st [.l (cs [I]), .l (cs [.l (cs [I])]), .ref 3, .i .i64], .sq (cs [I]), .st [.ptr 2 0 0]], (cs [I, I, .l (cs [I]), .l (cs [.l (cs [I])]), I, .l (cs [I])])⟩ (.b) [.st [.ptr 2 0 0], .st [.i .i64], .st [.l (cs [I]), .l (cs [.l (cs [I])]), .ref 3, .i .i64], .sq (cs [I]), .st [.ptr 2 0 0]] (cs [.b, I, .l (cs [I]), .l (cs [.l (cs [I])]), I, .l (cs [I])]) x = q31 lo x.1 x.2.1 x.2.2.1 x.2.2.2.1 x.2.2.2.2.1 x.2.2.2.2.2 := fun x => by kernel_rfl
theorem q31_S {P : Program} {fm : FM} {lo : Lo} (hlo : LoOK lo) (hS : Sound P fm ⟨pf, fs31 lo, [], 0⟩) (hm : P.follows .mixedOrders = true) (htie : ∀ f, fm f = 455 → fnTr P fm pf f = some (q31_F.slots, q31_F.res, q31_F.code.er)) : Sound P fm ⟨pf, q31_f lo :: fs31 lo, [], 0⟩ :=
  fnI_sound hS hm [] (q31_f lo) rfl q31_F htie (by decide) rfl (Nat.le_of_ble_eq_true (by kernel_rfl)) (fun C hT Fr H0 hf => show LsOK Fr H0 C (⟨pf, fs31 lo, [], 5⟩ : Tabs) q31_c from ⟨trivial, ⟨trivial, trivial⟩⟩) (fun x y h => (q31_e lo x).trans h)
def fs32 (lo : Lo) : List FnE := q31_f lo :: fs31 lo
def q32_L3_b : VCode :=
 (.seq (.reg [o 9 (.bin .lss (t 8) (t 7))])
 (.seq (.cond (t 9) .skip
 (.exit 0))
 (.seq (.blk 1 (.seq (.reg [o 10 (.mv (t 8)), o 5 (.mv (t 10))])
 (.seq (.reg [o 11 (.mv (t 1)), o 12 (.mv (t 0)), o 13 (.mv (t 5)), o 14 (.iad 1 (t 12) (t 13)), o 15 (.load false 1 (t 14)), o 16 (.dyn (t 11) [(t 15)])])
 (.cond (t 16) (.seq (.reg [o 17 (.mv (t 5)), o 4 (.mv (t 17))])
 .ret)
 .skip))))
 (.reg [o 18 (.bin .add (t 8) (k 1)), o 8 (.mv (t 18))]))))
def q32_L3_g : Sg := ⟨[0, 1, 7, 8], [.l (cs [I]), .clo 455 [.ptr 0 0 0, .ptr 1 0 0], .i .i64, .i .i64], [.st [.ptr 2 0 0], .st [.i .i64], .st [.l (cs [I]), .l (cs [.l (cs [I])]), .ref 3, .i .i64], .sq (cs [I]), .st [.ptr 2 0 0]], (cs [.l (cs [I]), I, I, I, .l (cs [I]), .l (cs [.l (cs [I])]), I, .l (cs [I])])⟩
def q32_L3_o : List Out1 := [⟨.ret, ⟨[4], [.i .i64], [.st [.ptr 2 0 0], .st [.i .i64], .st [.l (cs [I]), .l (cs [.l (cs [I])]), .ref 3, .i .i64], .sq (cs [I]), .st [.ptr 2 0 0]], (cs [I, I, .l (cs [I]), .l (cs [.l (cs [I])]), I, .l (cs [I])])⟩⟩, ⟨.exit 0, ⟨[], [], [.st [.ptr 2 0 0], .st [.i .i64], .st [.l (cs [I]), .l (cs [.l (cs [I])]), .ref 3, .i .i64], .sq (cs [I]), .st [.ptr 2 0 0]], (cs [I, .l (cs [I]), .l (cs [.l (cs [I])]), I, .l (cs [I])])⟩⟩]
def q32_L3_s (lo : Lo) : (List Int) × Int × Int × Int × (List Int) × (List ((List Int))) × Int × (List Int) → Option (((List Int) × Int × Int × Int × (List Int) × (List ((List Int))) × Int × (List Int)) ⊕ ((Int × Int × (List Int) × (List ((List Int))) × Int × (List Int)) ⊕ (Int × (List Int) × (List ((List Int))) × Int × (List Int)))) := fun x => match x with
  | (s0, v7, v8, h1, h2_0, h2_1, h2_2, h3) => bif (decide (v8 < v7)) then (chk (0 ≤ v8 ∧ v8 < (s0.length : Int)) (Option.bind (q31 lo (s0.getD v8.toNat (0 : Int)) h1 h2_0 h2_1 h2_2 h3) fun y118 => chk (y118.2.2.2.2.2.length = h3.length) (bif y118.1 then (some (.inr (.inl (v8, y118.2.1, y118.2.2.1, y118.2.2.2.1, y118.2.2.2.2.1, y118.2.2.2.2.2)))) else (some (.inl (s0, v7, (IntKind.wrap .i64 (v8 + (1 : Int))), y118.2.1, y118.2.2.1, y118.2.2.2.1, y118.2.2.2.2.1, y118.2.2.2.2.2)))))) else (some (.inr (.inr (h1, h2_0, h2_1, h2_2, h3))))
theorem q32_L3_e (lo : Lo) : ∀ x : (List Int) × Int × Int × Int × (List Int) × (List ((List Int))) × Int × (List Int), stepL (⟨pf, fs32 lo, [], 5⟩ : Tabs) [] q32_L3_g q32_L3_o q32_L3_b x = q32_L3_s lo x := fun x => by kernel_rfl
def q32_L3 (lo : Lo) : (List Int) × Int × Int × Int × (List Int) × (List ((List Int))) × Int × (List Int) → Option ((Int × Int × (List Int) × (List ((List Int))) × Int × (List Int)) ⊕ (Int × (List Int) × (List ((List Int))) × Int × (List Int))) := lo.run (q32_L3_s lo)
def q32_L3_p (lo : Lo) : LpE := ⟨3, [], q32_L3_g, q32_L3_o, q32_L3 lo⟩
theorem q32_L3_k {lo : Lo} (hlo : LoOK lo) (C : Ctx) (hT : TOK (⟨pf, fs32 lo, [], 5⟩ : Tabs) C) {Fr : Nat → Prop} {H0 : Heap} (hf : FrOK Fr H0) : LpSound Fr H0 5 C (.loop q32_L3_b.er) (q32_L3_p lo) :=
  loop_sound (T := (⟨pf, fs32 lo, [], 5⟩ : Tabs)) hT hf (show LsOK Fr H0 C (⟨pf, fs32 lo, [], 5⟩ : Tabs) q32_L3_b from ⟨trivial, ⟨⟨trivial, trivial⟩, ⟨⟨trivial, ⟨trivial, ⟨⟨trivial, trivial⟩, trivial⟩⟩⟩, trivial⟩⟩⟩) (fun x y h => loopO_congr (q32_L3_e lo) (hlo _ _ _ h))
def q32 (lo : Lo) (s0 : List Int) (h1 : Int) (h2_0 : List Int) (h2_1 : List ((List Int))) (h2_2 : Int) (h3 : List Int) : Option (Int × Int × (List Int) × (List ((List Int))) × Int × (List Int)) :=
  Option.bind (q32_L3 lo (s0, (s0.length : Int), (0 : Int), h1, h2_0, h2_1, h2_2, h3)) fun y119 => alt2 y119 (fun y120 => some (y120.1, y120.2.1, y120.2.2.1, y120.2.2.2.1, y120.2.2.2.2.1, y120.2.2.2.2.2)) (fun y121 => some ((-1 : Int), y121.1, y121.2.1, y121.2.2.1, y121.2.2.2.1, y121.2.2.2.2))
def q32_c : VCode :=
 (.seq (.reg [o 4 (.mv (k 0))])
 (.seq (.seq (.reg [o 6 (.mv (t 0)), o 7 (.len (t 6)), o 8 (.mv (k 0))])
 (.blk 0 (.loop 3 q32_L3_b)))
 (.seq (.reg [o 4 (.mv (k (-1)))])
 .ret)))
def q32_F : VFn := ⟨true, 19, [.t 4], q32_c⟩
def q32_f (lo : Lo) : FnE := ⟨442, false, ⟨[0, 1], [.l (cs [I]), .clo 455 [.ptr 0 0 0, .ptr 1 0 0]], [.st [.ptr 2 0 0], .st [.i .i64], .st [.l (cs [I]), .l (cs [.l (cs [I])]), .ref 3, .i .i64], .sq (cs [I]), .st [.ptr 2 0 0]], (cs [.l (cs [I]), I, .l (cs [I]), .l (cs [.l (cs [I])]), I, .l (cs [I])])⟩, .i .i64, [.st [.ptr 2 0 0], .st [.i .i64], .st [.l (cs [I]), .l (cs [.l (cs [I])]), .ref 3, .i .i64], .sq (cs [I]), .st [.ptr 2 0 0]], (cs [I, I, .l (cs [I]), .l (cs [.l (cs [I])]), I, .l (cs [I])]), (fun x => q32 lo x.1 x.2.1 x.2.2.1 x.2.2.2.1 x.2.2.2.2.1 x.2.2.2.2.2 : (List Int) × Int × (List Int) × (List ((List Int))) × Int × (List Int) → Option (Int × Int × (List Int) × (List ((List Int))) × Int × (List Int)))⟩
theorem q32_e (lo : Lo) : ∀ x : (List Int) × Int × (List Int) × (List ((List Int))) × Int × (List Int), evI (⟨pf, fs32 lo, [q32_L3_p lo], 5⟩ : Tabs) q32_F ⟨[0, 1], [.l (cs [I]), .clo 455 [.ptr 0 0 0, .ptr 1 0 0]], [.st [.ptr 2 0 0], .st [.i .i64], .st [.l (cs [I]), .l (cs [.l (cs [I])]), .ref 3, .i .i64], .sq (cs [I]), .st [.ptr 2 0 0]], (cs [.l (cs [I]), I, .l (cs [I]), .l (cs [.l (cs [I])]), I, .l (cs [I])])⟩ (.i .i64) [.st [.ptr 2 0 0], .st [.i .i64], .st [.l (cs [I]), .l (cs [.l (cs [I])]), .ref 3, .i .i64], .sq (cs [I]), .st [.ptr 2 0 0]] (cs [I, I, .l (cs [I]), .l (cs [.l (cs [I])]), I, .l (cs [I])]) x = q32 lo x.1 x.2.1 x.2.2.1 x.2.2.2.1 x.2.2.2.2.1 x.2.2.2.2.2 := fun x => by kernel_rfl
theorem q32_S {P : Program} {fm : FM} {lo : Lo} (hlo : LoOK lo) (hS : Sound P fm ⟨pf, fs32 lo, [], 0⟩) (hm : P.follows .mixedOrders = true) (htie : ∀ f, fm f = 442 → fnTr P fm pf f = some (q32_F.slots, q32_F.res, q32_F.code.er)) : Sound P fm ⟨pf, q32_f lo :: fs32 lo, [], 0⟩ :=
  fnI_sound hS hm [q32_L3_p lo] (q32_f lo) rfl q32_F htie (by decide) rfl (Nat.le_of_ble_eq_true (by kernel_rfl)) (fun C hT Fr H0 hf => show LsOK Fr H0 C (⟨pf, fs32 lo, [q32_L3_p lo], 5⟩ : Tabs) q32_c from ⟨trivial, ⟨⟨trivial, (lsGet (by kernel_rfl) (q32_L3_k hlo C (tok_ls hT) hf))⟩, ⟨trivial, trivial⟩⟩⟩) (fun x y h => (q32_e lo x).trans h)
def fs33 (lo : Lo) : List FnE := q32_f lo :: fs32 lo
def q33 (lo : Lo) (s0 : List Int) (h1 : Int) (h2_0 : List Int) (h2_1 : List ((List Int))) (h2_2 : Int) (h3 : List Int) : Option (Bool × Int × (List Int) × (List ((List Int))) × Int × (List Int)) :=
  Option.bind (q32 lo s0 h1 h2_0 h2_1 h2_2 h3) fun y122 => chk (y122.2.2.2.2.2.length = h3.length) (some ((decide ((0 : Int) ≤ y122.1)), y122.2.1, y122.2.2.1, y122.2.2.2.1, y122.2.2.2.2.1, y122.2.2.2.2.2))
def q33_c : VCode :=
 (.seq (.reg [o 4 (.mv (kb false))])
 (.seq (.reg [o 5 (.mv (t 0)), o 6 (.mv (t 1)), o 7 (.call 442 [(t 5), (t 6)]), o 8 (.bin .geq (t 7) (k 0)), o 4 (.mv (t 8))])
 .ret))
def q33_F : VFn := ⟨true, 9, [.t 4], q33_c⟩
def q33_f (lo : Lo) : FnE := ⟨426, false, ⟨[0, 1], [.l (cs [I]), .clo 455 [.ptr 0 0 0, .ptr 1 0 0]], [.st [.ptr 2 0 0], .st [.i .i64], .st [.l (cs [I]), .l (cs [.l (cs [I])]), .ref 3, .i .i64], .sq (cs [I]), .st [.ptr 2 0 0]], (cs [.l (cs [I]), I, .l (cs [I]), .l (cs [.l (cs [I])]), I, .l (cs [I])])⟩, .b, [.st [.ptr 2 0 0], .st [.i .i64], .st [.l (cs [I]), .l (cs [.l (cs [I])]), .ref 3, .i .i64], .sq (cs [I]), .st [.ptr 2 0 0]], (cs [.b, I, .l (cs [I]), .l (cs [.l (cs [I])]), I, .l (cs [I])]), (fun x => q33 lo x.1 x.2.1 x.2.2.1 x.2.2.2.1 x.2.2.2.2.1 x.2.2.2.2.2 : (List Int) × Int × (List Int) × (List ((List Int))) × Int × (List Int) → Option (Bool × Int × (List Int) × (List ((List Int))) × Int × (List Int)))⟩
theorem q33_e (lo : Lo) : ∀ x : (List Int) × Int × (List Int) × (List ((List Int))) × Int × (List Int), evI (⟨pf, fs33 lo, [], 5⟩ : Tabs) q33_F ⟨[0, 1], [.l (cs [I]), .clo 455 [.ptr 0 0 0, .ptr 1 0 0]], [.st [.ptr 2 0 0], .st [.i .i64], .st [.l (cs [I]), .l (cs [.l (cs [I])]), .ref 3, .i .i64], .sq (cs [I]), .st [.ptr 2 0 0]], (cs [.l (cs [I]), I, .l (cs [I]), .l (cs [.l (cs [I])]), I, .l (cs [I])])⟩ (.b) [.st [.ptr 2 0 0], .st [.i .i64], .st [.l (cs [I]), .l (cs [.l (cs [I])]), .ref 3, .i .i64], .sq (cs [I]), .st [.ptr 2 0 0]] (cs [.b, I, .l (cs [I]), .l (cs [.l (cs [I])]), I, .l (cs [I])]) x = q33 lo x.1 x.2.1 x.2.2.1 x.2.2.2.1 x.2.2.2.2.1 x.2.2.2.2.2 := fun x => by kernel_rfl
theorem q33_S {P : Program} {fm : FM} {lo : Lo} (hlo : LoOK lo) (hS : Sound P fm ⟨pf, fs33 lo, [], 0⟩) (hm : P.follows .mixedOrders = true) (htie : ∀ f, fm f = 426 → fnTr P fm pf f = some (q33_F.slots, q33_F.res, q33_F.code.er)) : Sound P fm ⟨pf, q33_f lo :: fs33 lo, [], 0⟩ :=
  fnI_sound hS hm [] (q33_f lo) rfl q33_F htie (by decide) rfl (Nat.le_of_ble_eq_true (by kernel_rfl)) (fun C hT Fr H0 hf => show LsOK Fr H0 C (⟨pf, fs33 lo, [], 5⟩ : Tabs) q33_c from ⟨trivial, ⟨trivial, trivial⟩⟩) (fun x y h => (q33_e lo x).trans h)
def fs34 (lo : Lo) : List FnE := q33_f lo :: fs33 lo
def q34 (lo : Lo) (e1 : List Int) (mark2 : Int) (s0_0 : List Int) (s0_1 : List ((List Int))) (s0_2 : Int) (h1 : List Int) : Option (Bool × (List Int) × (List ((List Int))) × Int × (List Int)) :=
  Option.bind (q33 lo e1 mark2 s0_0 s0_1 s0_2 h1) fun y123 => chk (y123.2.2.2.2.2.length = h1.length) (some (y123.1, y123.2.2.1, y123.2.2.2.1, y123.2.2.2.2.1, y123.2.2.2.2.2))
def q34_c : VCode :=
 (.seq (.reg [o 3 (.box (t 0)), o 5 (.box (t 2)), o 6 (.mv (kb false))])
 (.seq (.reg [o 7 (.mv (t 1)), o 8 (.mkf 455 [(t 3), (t 5)]), o 9 (.call 426 [(t 7), (t 8)]), o 6 (.mv (t 9))])
 .ret))
def q34_F : VFn := ⟨true, 10, [.t 6], q34_c⟩
def q34_f (lo : Lo) : FnE := ⟨450, false, ⟨[0, 1, 2], [.ptr 0 0 0, .l (cs [I]), .i .i64], [.st [.l (cs [I]), .l (cs [.l (cs [I])]), .ref 1, .i .i64], .sq (cs [I]), .st [.ptr 0 0 0]], (cs [.l (cs [I]), I, .l (cs [I]), .l (cs [.l (cs [I])]), I, .l (cs [I])])⟩, .b, [.st [.l (cs [I]), .l (cs [.l (cs [I])]), .ref 1, .i .i64], .sq (cs [I]), .st [.ptr 0 0 0]], (cs [.b, .l (cs [I]), .l (cs [.l (cs [I])]), I, .l (cs [I])]), (fun x => q34 lo x.1 x.2.1 x.2.2.1 x.2.2.2.1 x.2.2.2.2.1 x.2.2.2.2.2 : (List Int) × Int × (List Int) × (List ((List Int))) × Int × (List Int) → Option (Bool × (List Int) × (List ((List Int))) × Int × (List Int)))⟩
theorem q34_e (lo : Lo) : ∀ x : (List Int) × Int × (List Int) × (List ((List Int))) × Int × (List Int), evI (⟨pf, fs34 lo, [], 3⟩ : Tabs) q34_F ⟨[0, 1, 2], [.ptr 0 0 0, .l (cs [I]), .i .i64], [.st [.l (cs [I]), .l (cs [.l (cs [I])]), .ref 1, .i .i64], .sq (cs [I]), .st [.ptr 0 0 0]], (cs [.l (cs [I]), I, .l (cs [I]), .l (cs [.l (cs [I])]), I, .l (cs [I])])⟩ (.b) [.st [.l (cs [I]), .l (cs [.l (cs [I])]), .ref 1, .i .i64], .sq (cs [I]), .st [.ptr 0 0 0]] (cs [.b, .l (cs [I]), .l (cs [.l (cs [I])]), I, .l (cs [I])]) x = q34 lo x.1 x.2.1 x.2.2.1 x.2.2.2.1 x.2.2.2.2.1 x.2.2.2.2.2 := fun x => by kernel_rfl
theorem q34_S {P : Program} {fm : FM} {lo : Lo} (hlo : LoOK lo) (hS : Sound P fm ⟨pf, fs34 lo, [], 0⟩) (hm : P.follows .mixedOrders = true) (htie : ∀ f, fm f = 450 → fnTr P fm pf f = some (q34_F.slots, q34_F.res, q34_F.code.er)) : Sound P fm ⟨pf, q34_f lo :: fs34 lo, [], 0⟩ :=
  fnI_sound hS hm [] (q34_f lo) rfl q34_F htie (by decide) rfl (Nat.le_of_ble_eq_true (by kernel_rfl)) (fun C hT Fr H0 hf => show LsOK Fr H0 C (⟨pf, fs34 lo, [], 3⟩ : Tabs) q34_c from ⟨trivial, ⟨trivial, trivial⟩⟩) (fun x y h => (q34_e lo x).trans h)
def fs35 (lo : Lo) : List FnE := q34_f lo :: fs34 lo
def q35 (lo : Lo) (e0 : List Int) (h1_0 : List Int) (h1_1 : List ((List Int))) (h1_2 : Int) (h2 : List Int) : Option (Bool × (List Int) × (List ((List Int))) × Int × (List Int)) :=
  Option.bind (q34 lo e0 (1 : Int) h1_0 h1_1 h1_2 h2) fun y124 => chk (y124.2.2.2.2.length = h2.length) (bif (!y124.1) then (Option.bind (q34 lo e0 (0 : Int) y124.2.1 y124.2.2.1 y124.2.2.2.1 y124.2.2.2.2) fun y125 => chk (y125.2.2.2.2.length = y124.2.2.2.2.length) (some ((!y125.1), y125.2.1, y125.2.2.1, y125.2.2.2.1, y125.2.2.2.2))) else (some (false, y124.2.1, y124.2.2.1, y124.2.2.2.1, y124.2.2.2.2)))
def q35_c : VCode :=
 (.seq (.reg [o 3 (.mv (kb false))])
 (.seq (.reg [o 4 (.load false 1 (t 1)), o 5 (.mv (t 0)), o 6 (.call 450 [(t 4), (t 5), (k 1)]), o 7 (.not (t 6)), o 8 (.mv (t 7)), og 9 8 true (.load false 1 (t 1)), og 10 8 true (.mv (t 0)), og 11 8 true (.call 450 [(t 9), (t 10), (k 0)]), og 12 8 true (.not (t 11)), o 13 (.pick (t 8) (t 12) (kb false)), o 3 (.mv (t 13))])
 .ret))
def q35_F : VFn := ⟨true, 14, [.t 3], q35_c⟩
def q35_f (lo : Lo) : FnE := ⟨454, false, ⟨[0, 1], [.l (cs [I]), .ptr 0 0 0], [.st [.ptr 1 0 0], .st [.l (cs [I]), .l (cs [.l (cs [I])]), .ref 2, .i .i64], .sq (cs [I])], (cs [.l (cs [I]), .l (cs [I]), .l (cs [.l (cs [I])]), I, .l (cs [I])])⟩, .b, [.st [.ptr 1 0 0], .st [.l (cs [I]), .l (cs [.l (cs [I])]), .ref 2, .i .i64], .sq (cs [I])], (cs [.b, .l (cs [I]), .l (cs [.l (cs [I])]), I, .l (cs [I])]), (fun x => q35 lo x.1 x.2.1 x.2.2.1 x.2.2.2.1 x.2.2.2.2 : (List Int) × (List Int) × (List ((List Int))) × Int × (List Int) → Option (Bool × (List Int) × (List ((List Int))) × Int × (List Int)))⟩
theorem q35_e (lo : Lo) : ∀ x : (List Int) × (List Int) × (List ((List Int))) × Int × (List Int), evI (⟨pf, fs35 lo, [], 3⟩ : Tabs) q35_F ⟨[0, 1], [.l (cs [I]), .ptr 0 0 0], [.st [.ptr 1 0 0], .st [.l (cs [I]), .l (cs [.l (cs [I])]), .ref 2, .i .i64], .sq (cs [I])], (cs [.l (cs [I]), .l (cs [I]), .l (cs [.l (cs [I])]), I, .l (cs [I])])⟩ (.b) [.st [.ptr 1 0 0], .st [.l (cs [I]), .l (cs [.l (cs [I])]), .ref 2, .i .i64], .sq (cs [I])] (cs [.b, .l (cs [I]), .l (cs [.l (cs [I])]), I, .l (cs [I])]) x = q35 lo x.1 x.2.1 x.2.2.1 x.2.2.2.1 x.2.2.2.2 := fun x => by kernel_rfl
theorem q35_S {P : Program} {fm : FM} {lo : Lo} (hlo : LoOK lo) (hS : Sound P fm ⟨pf, fs35 lo, [], 0⟩) (hm : P.follows .mixedOrders = true) (htie : ∀ f, fm f = 454 → fnTr P fm pf f = some (q35_F.slots, q35_F.res, q35_F.code.er)) : Sound P fm ⟨pf, q35_f lo :: fs35 lo, [], 0⟩ :=
  fnI_sound hS hm [] (q35_f lo) rfl q35_F htie (by decide) rfl (Nat.le_of_ble_eq_true (by kernel_rfl)) (fun C hT Fr H0 hf => show LsOK Fr H0 C (⟨pf, fs35 lo, [], 3⟩ : Tabs) q35_c from ⟨trivial, ⟨trivial, trivial⟩⟩) (fun x y h => (q35_e lo x).trans h)
def fs36 (lo : Lo) : List FnE := q35_f lo :: fs35 lo
end Go.Abs.G39
namespace Go.Abs.G39
open Go Go.Abs
set_option maxRecDepth 100000
set_option linter.unusedVariables false
set_option maxHeartbeats 1000000
def q36_L3_b : VCode :=
 (.seq (.reg [o 9 (.bin .lss (t 8) (t 7))])
 (.seq (.cond (t 9) .skip
 (.exit 0))
 (.seq (.blk 1 (.seq (.reg [o 10 (.mv (t 8)), o 5 (.mv (t 10))])
 (.seq (.reg [o 11 (.mv (t 1)), o 12 (.mv (t 0)), o 13 (.mv (t 5)), o 14 (.iad 1 (t 12) (t 13)), o 15 (.load false 1 (t 14)), o 16 (.dyn (t 11) [(t 15)])])
 (.cond (t 16) (.seq (.reg [o 17 (.mv (t 5)), o 4 (.mv (t 17))])
 .ret)
 .skip))))
 (.reg [o 18 (.bin .add (t 8) (k 1)), o 8 (.mv (t 18))]))))
def q36_L3_g : Sg := ⟨[0, 1, 7, 8], [.l (cs [.l (cs [I])]), .clo 454 [.ptr 0 0 0], .i .i64, .i .i64], [.st [.ptr 1 0 0], .st [.l (cs [I]), .l (cs [.l (cs [I])]), .ref 2, .i .i64], .sq (cs [I])], (cs [.l (cs [.l (cs [I])]), I, I, .l (cs [I]), .l (cs [.l (cs [I])]), I, .l (cs [I])])⟩
def q36_L3_o : List Out1 := [⟨.ret, ⟨[4], [.i .i64], [.st [.ptr 1 0 0], .st [.l (cs [I]), .l (cs [.l (cs [I])]), .ref 2, .i .i64], .sq (cs [I])], (cs [I, .l (cs [I]), .l (cs [.l (cs [I])]), I, .l (cs [I])])⟩⟩, ⟨.exit 0, ⟨[], [], [.st [.ptr 1 0 0], .st [.l (cs [I]), .l (cs [.l (cs [I])]), .ref 2, .i .i64], .sq (cs [I])], (cs [.l (cs [I]), .l (cs [.l (cs [I])]), I, .l (cs [I])])⟩⟩]
def q36_L3_s (lo : Lo) : (List ((List Int))) × Int × Int × (List Int) × (List ((List Int))) × Int × (List Int) → Option (((List ((List Int))) × Int × Int × (List Int) × (List ((List Int))) × Int × (List Int)) ⊕ ((Int × (List Int) × (List ((List Int))) × Int × (List Int)) ⊕ ((List Int) × (List ((List Int))) × Int × (List Int)))) := fun x => match x with
  | (s0, v7, v8, h1_0, h1_1, h1_2, h2) => bif (decide (v8 < v7)) then (chk (0 ≤ v8 ∧ v8 < (s0.length : Int)) (Option.bind (q35 lo (s0.getD v8.toNat []) h1_0 h1_1 h1_2 h2) fun y126 => chk (y126.2.2.2.2.length = h2.length) (bif y126.1 then (some (.inr (.inl (v8, y126.2.1, y126.2.2.1, y126.2.2.2.1, y126.2.2.2.2)))) else (some (.inl (s0, v7, (IntKind.wrap .i64 (v8 + (1 : Int))), y126.2.1, y126.2.2.1, y126.2.2.2.1, y126.2.2.2.2)))))) else (some (.inr (.inr (h1_0, h1_1, h1_2, h2))))
theorem q36_L3_e (lo : Lo) : ∀ x : (List ((List Int))) × Int × Int × (List Int) × (List ((List Int))) × Int × (List Int), stepL (⟨pf, fs36 lo, [], 3⟩ : Tabs) [] q36_L3_g q36_L3_o q36_L3_b x = q36_L3_s lo x := fun x => by kernel_rfl
def q36_L3 (lo : Lo) : (List ((List Int))) × Int × Int × (List Int) × (List ((List Int))) × Int × (List Int) → Option ((Int × (List Int) × (List ((List Int))) × Int × (List Int)) ⊕ ((List Int) × (List ((List Int))) × Int × (List Int))) := lo.run (q36_L3_s lo)
def q36_L3_p (lo : Lo) : LpE := ⟨3, [], q36_L3_g, q36_L3_o, q36_L3 lo⟩
theorem q36_L3_k {lo : Lo} (hlo : LoOK lo) (C : Ctx) (hT : TOK (⟨pf, fs36 lo, [], 3⟩ : Tabs) C) {Fr : Nat → Prop} {H0 : Heap} (hf : FrOK Fr H0) : LpSound Fr H0 3 C (.loop q36_L3_b.er) (q36_L3_p lo) :=
  loop_sound (T := (⟨pf, fs36 lo, [], 3⟩ : Tabs)) hT hf (show LsOK Fr H0 C (⟨pf, fs36 lo, [], 3⟩ : Tabs) q36_L3_b from ⟨trivial, ⟨⟨trivial, trivial⟩, ⟨⟨trivial, ⟨trivial, ⟨⟨trivial, trivial⟩, trivial⟩⟩⟩, trivial⟩⟩⟩) (fun x y h => loopO_congr (q36_L3_e lo) (hlo _ _ _ h))
def q36 (lo : Lo) (s0 : List ((List Int))) (h1_0 : List Int) (h1_1 : List ((List Int))) (h1_2 : Int) (h2 : List Int) : Option (Int × (List Int) × (List ((List Int))) × Int × (List Int)) :=
  Option.bind (q36_L3 lo (s0, (s0.length : Int), (0 : Int), h1_0, h1_1, h1_2, h2)) fun y127 => alt2 y127 (fun y128 => some (y128.1, y128.2.1, y128.2.2.1, y128.2.2.2.1, y128.2.2.2.2)) (fun y129 => some ((-1 : Int), y129.1, y129.2.1, y129.2.2.1, y129.2.2.2))
def q36_c : VCode :=
 (.seq (.reg [o 4 (.mv (k 0))])
 (.seq (.seq (.reg [o 6 (.mv (t 0)), o 7 (.len (t 6)), o 8 (.mv (k 0))])
 (.blk 0 (.loop 3 q36_L3_b)))
 (.seq (.reg [o 4 (.mv (k (-1)))])
 .ret)))
def q36_F : VFn := ⟨true, 19, [.t 4], q36_c⟩
def q36_f (lo : Lo) : FnE := ⟨449, false, ⟨[0, 1], [.l (cs [.l (cs [I])]), .clo 454 [.ptr 0 0 0]], [.st [.ptr 1 0 0], .st [.l (cs [I]), .l (cs [.l (cs [I])]), .ref 2, .i .i64], .sq (cs [I])], (cs [.l (cs [.l (cs [I])]), .l (cs [I]), .l (cs [.l (cs [I])]), I, .l (cs [I])])⟩, .i .i64, [.st [.ptr 1 0 0], .st [.l (cs [I]), .l (cs [.l (cs [I])]), .ref 2, .i .i64], .sq (cs [I])], (cs [I, .l (cs [I]), .l (cs [.l (cs [I])]), I, .l (cs [I])]), (fun x => q36 lo x.1 x.2.1 x.2.2.1 x.2.2.2.1 x.2.2.2.2 : (List ((List Int))) × (List Int) × (List ((List Int))) × Int × (List Int) → Option (Int × (List Int) × (List ((List Int))) × Int × (List Int)))⟩
theorem q36_e (lo : Lo) : ∀ x : (List ((List Int))) × (List Int) × (List ((List Int))) × Int × (List Int), evI (⟨pf, fs36 lo, [q36_L3_p lo], 3⟩ : Tabs) q36_F ⟨[0, 1], [.l (cs [.l (cs [I])]), .clo 454 [.ptr 0 0 0]], [.st [.ptr 1 0 0], .st [.l (cs [I]), .l (cs [.l (cs [I])]), .ref 2, .i .i64], .sq (cs [I])], (cs [.l (cs [.l (cs [I])]), .l (cs [I]), .l (cs [.l (cs [I])]), I, .l (cs [I])])⟩ (.i .i64) [.st [.ptr 1 0 0], .st [.l (cs [I]), .l (cs [.l (cs [I])]), .ref 2, .i .i64], .sq (cs [I])] (cs [I, .l (cs [I]), .l (cs [.l (cs [I])]), I, .l (cs [I])]) x = q36 lo x.1 x.2.1 x.2.2.1 x.2.2.2.1 x.2.2.2.2 := fun x => by kernel_rfl
theorem q36_S {P : Program} {fm : FM} {lo : Lo} (hlo : LoOK lo) (hS : Sound P fm ⟨pf, fs36 lo, [], 0⟩) (hm : P.follows .mixedOrders = true) (htie : ∀ f, fm f = 449 → fnTr P fm pf f = some (q36_F.slots, q36_F.res, q36_F.code.er)) : Sound P fm ⟨pf, q36_f lo :: fs36 lo, [], 0⟩ :=
  fnI_sound hS hm [q36_L3_p lo] (q36_f lo) rfl q36_F htie (by decide) rfl (Nat.le_of_ble_eq_true (by kernel_rfl)) (fun C hT Fr H0 hf => show LsOK Fr H0 C (⟨pf, fs36 lo, [q36_L3_p lo], 3⟩ : Tabs) q36_c from ⟨trivial, ⟨⟨trivial, (lsGet (by kernel_rfl) (q36_L3_k hlo C (tok_ls hT) hf))⟩, ⟨trivial, trivial⟩⟩⟩) (fun x y h => (q36_e lo x).trans h)
def fs37 (lo : Lo) : List FnE := q36_f lo :: fs36 lo
def q37 (lo : Lo) (s0 : List ((List Int))) (h1_0 : List Int) (h1_1 : List ((List Int))) (h1_2 : Int) (h2 : List Int) : Option (Bool × (List Int) × (List ((List Int))) × Int × (List Int)) :=
  Option.bind (q36 lo s0 h1_0 h1_1 h1_2 h2) fun y130 => chk (y130.2.2.2.2.length = h2.length) (some ((decide ((0 : Int) ≤ y130.1)), y130.2.1, y130.2.2.1, y130.2.2.2.1, y130.2.2.2.2))
def q37_c : VCode :=
 (.seq (.reg [o 4 (.mv (kb false))])
 (.seq (.reg [o 5 (.mv (t 0)), o 6 (.mv (t 1)), o 7 (.call 449 [(t 5), (t 6)]), o 8 (.bin .geq (t 7) (k 0)), o 4 (.mv (t 8))])
 .ret))
def q37_F : VFn := ⟨true, 9, [.t 4], q37_c⟩
def q37_f (lo : Lo) : FnE := ⟨435, false, ⟨[0, 1], [.l (cs [.l (cs [I])]), .clo 454 [.ptr 0 0 0]], [.st [.ptr 1 0 0], .st [.l (cs [I]), .l (cs [.l (cs [I])]), .ref 2, .i .i64], .sq (cs [I])], (cs [.l (cs [.l (cs [I])]), .l (cs [I]), .l (cs [.l (cs [I])]), I, .l (cs [I])])⟩, .b, [.st [.ptr 1 0 0], .st [.l (cs [I]), .l (cs [.l (cs [I])]), .ref 2, .i .i64], .sq (cs [I])], (cs [.b, .l (cs [I]), .l (cs [.l (cs [I])]), I, .l (cs [I])]), (fun x => q37 lo x.1 x.2.1 x.2.2.1 x.2.2.2.1 x.2.2.2.2 : (List ((List Int))) × (List Int) × (List ((List Int))) × Int × (List Int) → Option (Bool × (List Int) × (List ((List Int))) × Int × (List Int)))⟩
theorem q37_e (lo : Lo) : ∀ x : (List ((List Int))) × (List Int) × (List ((List Int))) × Int × (List Int), evI (⟨pf, fs37 lo, [], 3⟩ : Tabs) q37_F ⟨[0, 1], [.l (cs [.l (cs [I])]), .clo 454 [.ptr 0 0 0]], [.st [.ptr 1 0 0], .st [.l (cs [I]), .l (cs [.l (cs [I])]), .ref 2, .i .i64], .sq (cs [I])], (cs [.l (cs [.l (cs [I])]), .l (cs [I]), .l (cs [.l (cs [I])]), I, .l (cs [I])])⟩ (.b) [.st [.ptr 1 0 0], .st [.l (cs [I]), .l (cs [.l (cs [I])]), .ref 2, .i .i64], .sq (cs [I])] (cs [.b, .l (cs [I]), .l (cs [.l (cs [I])]), I, .l (cs [I])]) x = q37 lo x.1 x.2.1 x.2.2.1 x.2.2.2.1 x.2.2.2.2 := fun x => by kernel_rfl
theorem q37_S {P : Program} {fm : FM} {lo : Lo} (hlo : LoOK lo) (hS : Sound P fm ⟨pf, fs37 lo, [], 0⟩) (hm : P.follows .mixedOrders = true) (htie : ∀ f, fm f = 435 → fnTr P fm pf f = some (q37_F.slots, q37_F.res, q37_F.code.er)) : Sound P fm ⟨pf, q37_f lo :: fs37 lo, [], 0⟩ :=
  fnI_sound hS hm [] (q37_f lo) rfl q37_F htie (by decide) rfl (Nat.le_of_ble_eq_true (by kernel_rfl)) (fun C hT Fr H0 hf => show LsOK Fr H0 C (⟨pf, fs37 lo, [], 3⟩ : Tabs) q37_c from ⟨trivial, ⟨trivial, trivial⟩⟩) (fun x y h => (q37_e lo x).trans h)
def fs38 (lo : Lo) : List FnE := q37_f lo :: fs37 lo
def q38 (lo : Lo) (s0_0 : List Int) (s0_1 : List ((List Int))) (s0_2 : Int) (h1 : List Int) : Option (Bool × (List Int) × (List ((List Int))) × Int × (List Int)) :=
  Option.bind (q37 lo s0_1 s0_0 s0_1 s0_2 h1) fun y131 => chk (y131.2.2.2.2.length = h1.length) (some (y131.1, y131.2.1, y131.2.2.1, y131.2.2.2.1, y131.2.2.2.2))
def q38_c : VCode :=
 (.seq (.reg [o 1 (.box (t 0)), o 2 (.mv (kb false))])
 (.seq (.reg [o 3 (.load false 1 (t 1)), o 4 (.nilc (t 3)), o 5 (.fad 0 (t 4)), o 6 (.fad 1 (t 5)), o 7 (.load false 1 (t 6)), o 8 (.mkf 454 [(t 1)]), o 9 (.call 435 [(t 7), (t 8)]), o 2 (.mv (t 9))])
 .ret))
def q38_F : VFn := ⟨true, 10, [.t 2], q38_c⟩
def q38_f (lo : Lo) : FnE := ⟨444, false, ⟨[0], [.ptr 0 0 0], [.st [.l (cs [I]), .l (cs [.l (cs [I])]), .ref 1, .i .i64], .sq (cs [I])], (cs [.l (cs [I]), .l (cs [.l (cs [I])]), I, .l (cs [I])])⟩, .b, [.st [.l (cs [I]), .l (cs [.l (cs [I])]), .ref 1, .i .i64], .sq (cs [I])], (cs [.b, .l (cs [I]), .l (cs [.l (cs [I])]), I, .l (cs [I])]), (fun x => q38 lo x.1 x.2.1 x.2.2.1 x.2.2.2 : (List Int) × (List ((List Int))) × Int × (List Int) → Option (Bool × (List Int) × (List ((List Int))) × Int × (List Int)))⟩
theorem q38_e (lo : Lo) : ∀ x : (List Int) × (List ((List Int))) × Int × (List Int), evI (⟨pf, fs38 lo, [], 2⟩ : Tabs) q38_F ⟨[0], [.ptr 0 0 0], [.st [.l (cs [I]), .l (cs [.l (cs [I])]), .ref 1, .i .i64], .sq (cs [I])], (cs [.l (cs [I]), .l (cs [.l (cs [I])]), I, .l (cs [I])])⟩ (.b) [.st [.l (cs [I]), .l (cs [.l (cs [I])]), .ref 1, .i .i64], .sq (cs [I])] (cs [.b, .l (cs [I]), .l (cs [.l (cs [I])]), I, .l (cs [I])]) x = q38 lo x.1 x.2.1 x.2.2.1 x.2.2.2 := fun x => by kernel_rfl
theorem q38_S {P : Program} {fm : FM} {lo : Lo} (hlo : LoOK lo) (hS : Sound P fm ⟨pf, fs38 lo, [], 0⟩) (hm : P.follows .mixedOrders = true) (htie : ∀ f, fm f = 444 → fnTr P fm pf f = some (q38_F.slots, q38_F.res, q38_F.code.er)) : Sound P fm ⟨pf, q38_f lo :: fs38 lo, [], 0⟩ :=
  fnI_sound hS hm [] (q38_f lo) rfl q38_F htie (by decide) rfl (Nat.le_of_ble_eq_true (by kernel_rfl)) (fun C hT Fr H0 hf => show LsOK Fr H0 C (⟨pf, fs38 lo, [], 2⟩ : Tabs) q38_c from ⟨trivial, ⟨trivial, trivial⟩⟩) (fun x y h => (q38_e lo x).trans h)
def fs39 (lo : Lo) : List FnE := q38_f lo :: fs38 lo
def q39 (lo : Lo) (l : List Int) : Option (List Int) := bif Nat.ble l.length maxEl && Nat.ble 1 1 then some l else none
def q39_f (lo : Lo) : FnE := vcloneE 245 (cs [I])
theorem q39_S {P : Program} {fm : FM} {lo : Lo} (hlo : LoOK lo) (hS : Sound P fm ⟨pf, fs39 lo, [], 0⟩) (hm : P.follows .mixedOrders = true) (htie : ∀ f, fm f = 245 → fnTr P fm pf f = some (8, [.t 2], vcloneC 1 [(.int .i64 0)])) : Sound P fm ⟨pf, q39_f lo :: fs39 lo, [], 0⟩ :=
  vclone_sound hS hm (cs [I]) rfl [(.int .i64 0)] 8 (by decide) htie
def fs40 (lo : Lo) : List FnE := q39_f lo :: fs39 lo
def q40 (lo : Lo) (v0 : Int) (v2 : Int) (h2_0 : List Int) (h2_1 : List ((List Int))) (h2_2 : Int) (h3 : List Int) : Option (Bool × Int × (List Int) × (List ((List Int))) × Int × (List Int)) :=
  chk (0 ≤ v0 ∧ v0 < (h3.length : Int)) (some ((decide (h3.getD v0.toNat (0 : Int) = v2)), v2, h2_0, h2_1, h2_2, h3))
def q40_c : VCode :=
 (.seq (.reg [o 4 (.mv (kb false))])
 (.seq (.reg [o 5 (.load false 1 (t 1)), o 6 (.nilc (t 5)), o 7 (.fad 2 (t 6)), o 8 (.load false 1 (t 7)), o 9 (.mv (t 0)), o 10 (.iad 1 (t 8) (t 9)), o 11 (.load false 1 (t 10)), o 12 (.load false 1 (t 2)), o 13 (.bin .eql (t 11) (t 12)), o 4 (.mv (t 13))])
 .ret))
def q40_F : VFn := ⟨true, 14, [.t 4], q40_c⟩
def q40_f (lo : Lo) : FnE := ⟨455, false, ⟨[0, 1, 2], [.i .i64, .ptr 0 0 0, .ptr 1 0 0], [.st [.ptr 2 0 0], .st [.i .i64], .st [.l (cs [I]), .l (cs [.l (cs [I])]), .ref 3, .i .i64], .sq (cs [I])], (cs [I, I, .l (cs [I]), .l (cs [.l (cs [I])]), I, .l (cs [I])])⟩, .b, [.st [.ptr 2 0 0], .st [.i .i64], .st [.l (cs [I]), .l (cs [.l (cs [I])]), .ref 3, .i .i64], .sq (cs [I])], (cs [.b, I, .l (cs [I]), .l (cs [.l (cs [I])]), I, .l (cs [I])]), (fun x => q40 lo x.1 x.2.1 x.2.2.1 x.2.2.2.1 x.2.2.2.2.1 x.2.2.2.2.2 : Int × Int × (List Int) × (List ((List Int))) × Int × (List Int) → Option (Bool × Int × (List Int) × (List ((List Int))) × Int × (List Int)))⟩
theorem q40_e (lo : Lo) : ∀ x : Int × Int × (List Int) × (List ((List Int))) × Int × (List Int), evI (⟨pf, fs40 lo, [], 4⟩ : Tabs) q40_F ⟨[0, 1, 2], [.i .i64, .ptr 0 0 0, .ptr 1 0 0], [.st [.ptr 2 0 0], .st [.i .i64], .st [.l (cs [I]), .l (cs [.l (cs [I])]), .ref 3, .i .i64], .sq (cs [I])], (cs [I, I, .l (cs [I]), .l (cs [.l (cs [I])]), I, .l (cs [I])])⟩ (.b) [.st [.ptr 2 0 0], .st [.i .i64], .st [.l (cs [I]), .l (cs [.l (cs [I])]), .ref 3, .i .i64], .sq (cs [I])] (cs [.b, I, .l (cs [I]), .l (cs [.l (cs [I])]), I, .l (cs [I])]) x = q40 lo x.1 x.2.1 x.2.2.1 x.2.2.2.1 x.2.2.2.2.1 x.2.2.2.2.2 := fun x => by kernel_rfl
theorem q40_S {P : Program} {fm : FM} {lo : Lo} (hlo : LoOK lo) (hS : Sound P fm ⟨pf, fs40 lo, [], 0⟩) (hm : P.follows .mixedOrders = true) (htie : ∀ f, fm f = 455 → fnTr P fm pf f = some (q40_F.slots, q40_F.res, q40_F.code.er)) : Sound P fm ⟨pf, q40_f lo :: fs40 lo, [], 0⟩ :=
  fnI_sound hS hm [] (q40_f lo) rfl q40_F htie (by decide) rfl (Nat.le_of_ble_eq_true (by kernel_rfl)) (fun C hT Fr H0 hf => show LsOK Fr H0 C (⟨pf, fs40 lo, [], 4⟩ : Tabs) q40_c from ⟨trivial, ⟨trivial, trivial⟩⟩) (fun x y h => (q40_e lo x).trans h)
def fs41 (lo : Lo) : List FnE := q40_f lo :: fs40 lo
def q41_L3_b : VCode :=
 (.seq (.reg [o 9 (.bin .lss (t 8) (t 7))])
 (.seq (.cond (t 9) .skip
 (.exit 0))
 (.seq (.blk 1 (.seq (.reg [o 10 (.mv (t 8)), o 5 (.mv (t 10))])
 (.seq (.reg [o 11 (.mv (t 1)), o 12 (.mv (t 0)), o 13 (.mv (t 5)), o 14 (.iad 1 (t 12) (t 13)), o 15 (.load false 1 (t 14)), o 16 (.dyn (t 11) [(t 15)])])
 (.cond (t 16) (.seq (.reg [o 17 (.mv (t 5)), o 4 (.mv (t 17))])
 .ret)
 .skip))))
 (.reg [o 18 (.bin .add (t 8) (k 1)), o 8 (.mv (t 18))]))))
def q41_L3_g : Sg := ⟨[0, 1, 7, 8], [.l (cs [I]), .clo 455 [.ptr 0 0 0, .ptr 1 0 0], .i .i64, .i .i64], [.st [.ptr 2 0 0], .st [.i .i64], .st [.l (cs [I]), .l (cs [.l (cs [I])]), .ref 3, .i .i64], .sq (cs [I])], (cs [.l (cs [I]), I, I, I, .l (cs [I]), .l (cs [.l (cs [I])]), I, .l (cs [I])])⟩
def q41_L3_o : List Out1 := [⟨.ret, ⟨[4], [.i .i64], [.st [.ptr 2 0 0], .st [.i .i64], .st [.l (cs [I]), .l (cs [.l (cs [I])]), .ref 3, .i .i64], .sq (cs [I])], (cs [I, I, .l (cs [I]), .l (cs [.l (cs [I])]), I, .l (cs [I])])⟩⟩, ⟨.exit 0, ⟨[], [], [.st [.ptr 2 0 0], .st [.i .i64], .st [.l (cs [I]), .l (cs [.l (cs [I])]), .ref 3, .i .i64], .sq (cs [I])], (cs [I, .l (cs [I]), .l (cs [.l (cs [I])]), I, .l (cs [I])])⟩⟩]
def q41_L3_s (lo : Lo) : (List Int) × Int × Int × Int × (List Int) × (List ((List Int))) × Int × (List Int) → Option (((List Int) × Int × Int × Int × (List Int) × (List ((List Int))) × Int × (List Int)) ⊕ ((Int × Int × (List Int) × (List ((List Int))) × Int × (List Int)) ⊕ (Int × (List Int) × (List ((List Int))) × Int × (List Int)))) := fun x => match x with
  | (s0, v7, v8, h1, h2_0, h2_1, h2_2, h3) => bif (decide (v8 < v7)) then (chk (0 ≤ v8 ∧ v8 < (s0.length : Int)) (Option.bind (q40 lo (s0.getD v8.toNat (0 : Int)) h1 h2_0 h2_1 h2_2 h3) fun y134 => chk (y134.2.2.2.2.2.length = h3.length) (bif y134.1 then (some (.inr (.inl (v8, y134.2.1, y134.2.2.1, y134.2.2.2.1, y134.2.2.2.2.1, y134.2.2.2.2.2)))) else (some (.inl (s0, v7, (IntKind.wrap .i64 (v8 + (1 : Int))), y134.2.1, y134.2.2.1, y134.2.2.2.1, y134.2.2.2.2.1, y134.2.2.2.2.2)))))) else (some (.inr (.inr (h1, h2_0, h2_1, h2_2, h3))))
theorem q41_L3_e (lo : Lo) : ∀ x : (List Int) × Int × Int × Int × (List Int) × (List ((List Int))) × Int × (List Int), stepL (⟨pf, fs41 lo, [], 4⟩ : Tabs) [] q41_L3_g q41_L3_o q41_L3_b x = q41_L3_s lo x := fun x => by kernel_rfl
def q41_L3 (lo : Lo) : (List Int) × Int × Int × Int × (List Int) × (List ((List Int))) × Int × (List Int) → Option ((Int × Int × (List Int) × (List ((List Int))) × Int × (List Int)) ⊕ (Int × (List Int) × (List ((List Int))) × Int × (List Int))) := lo.run (q41_L3_s lo)
def q41_L3_p (lo : Lo) : LpE := ⟨3, [], q41_L3_g, q41_L3_o, q41_L3 lo⟩
theorem q41_L3_k {lo : Lo} (hlo : LoOK lo) (C : Ctx) (hT : TOK (⟨pf, fs41 lo, [], 4⟩ : Tabs) C) {Fr : Nat → Prop} {H0 : Heap} (hf : FrOK Fr H0) : LpSound Fr H0 4 C (.loop q41_L3_b.er) (q41_L3_p lo) :=
  loop_sound (T := (⟨pf, fs41 lo, [], 4⟩ : Tabs)) hT hf (show LsOK Fr H0 C (⟨pf, fs41 lo, [], 4⟩ : Tabs) q41_L3_b from ⟨trivial, ⟨⟨trivial, trivial⟩, ⟨⟨trivial, ⟨trivial, ⟨⟨trivial, trivial⟩, trivial⟩⟩⟩, trivial⟩⟩⟩) (fun x y h => loopO_congr (q41_L3_e lo) (hlo _ _ _ h))
def q41 (lo : Lo) (s0 : List Int) (h1 : Int) (h2_0 : List Int) (h2_1 : List ((List Int))) (h2_2 : Int) (h3 : List Int) : Option (Int × Int × (List Int) × (List ((List Int))) × Int × (List Int)) :=
  Option.bind (q41_L3 lo (s0, (s0.length : Int), (0 : Int), h1, h2_0, h2_1, h2_2, h3)) fun y135 => alt2 y135 (fun y136 => some (y136.1, y136.2.1, y136.2.2.1, y136.2.2.2.1, y136.2.2.2.2.1, y136.2.2.2.2.2)) (fun y137 => some ((-1 : Int), y137.1, y137.2.1, y137.2.2.1, y137.2.2.2.1, y137.2.2.2.2))
def q41_c : VCode :=
 (.seq (.reg [o 4 (.mv (k 0))])
 (.seq (.seq (.reg [o 6 (.mv (t 0)), o 7 (.len (t 6)), o 8 (.mv (k 0))])
 (.blk 0 (.loop 3 q41_L3_b)))
 (.seq (.reg [o 4 (.mv (k (-1)))])
 .ret)))
def q41_F : VFn := ⟨true, 19, [.t 4], q41_c⟩
def q41_f (lo : Lo) : FnE := ⟨442, false, ⟨[0, 1], [.l (cs [I]), .clo 455 [.ptr 0 0 0, .ptr 1 0 0]], [.st [.ptr 2 0 0], .st [.i .i64], .st [.l (cs [I]), .l (cs [.l (cs [I])]), .ref 3, .i .i64], .sq (cs [I])], (cs [.l (cs [I]), I, .l (cs [I]), .l (cs [.l (cs [I])]), I, .l (cs [I])])⟩, .i .i64, [.st [.ptr 2 0 0], .st [.i .i64], .st [.l (cs [I]), .l (cs [.l (cs [I])]), .ref 3, .i .i64], .sq (cs [I])], (cs [I, I, .l (cs [I]), .l (cs [.l (cs [I])]), I, .l (cs [I])]), (fun x => q41 lo x.1 x.2.1 x.2.2.1 x.2.2.2.1 x.2.2.2.2.1 x.2.2.2.2.2 : (List Int) × Int × (List Int) × (List ((List Int))) × Int × (List Int) → Option (Int × Int × (List Int) × (List ((List Int))) × Int × (List Int)))⟩
theorem q41_e (lo : Lo) : ∀ x : (List Int) × Int × (List Int) × (List ((List Int))) × Int × (List Int), evI (⟨pf, fs41 lo, [q41_L3_p lo], 4⟩ : Tabs) q41_F ⟨[0, 1], [.l (cs [I]), .clo 455 [.ptr 0 0 0, .ptr 1 0 0]], [.st [.ptr 2 0 0], .st [.i .i64], .st [.l (cs [I]), .l (cs [.l (cs [I])]), .ref 3, .i .i64], .sq (cs [I])], (cs [.l (cs [I]), I, .l (cs [I]), .l (cs [.l (cs [I])]), I, .l (cs [I])])⟩ (.i .i64) [.st [.ptr 2 0 0], .st [.i .i64], .st [.l (cs [I]), .l (cs [.l (cs [I])]), .ref 3, .i .i64], .sq (cs [I])] (cs [I, I, .l (cs [I]), .l (cs [.l (cs [I])]), I, .l (cs [I])]) x = q41 lo x.1 x.2.1 x.2.2.1 x.2.2.2.1 x.2.2.2.2.1 x.2.2.2.2.2 := fun x => by kernel_rfl
theorem q41_S {P : Program} {fm : FM} {lo : Lo} (hlo : LoOK lo) (hS : Sound P fm ⟨pf, fs41 lo, [], 0⟩) (hm : P.follows .mixedOrders = true) (htie : ∀ f, fm f = 442 → fnTr P fm pf f = some (q41_F.slots, q41_F.res, q41_F.code.er)) : Sound P fm ⟨pf, q41_f lo :: fs41 lo, [], 0⟩ :=
  fnI_sound hS hm [q41_L3_p lo] (q41_f lo) rfl q41_F htie (by decide) rfl (Nat.le_of_ble_eq_true (by kernel_rfl)) (fun C hT Fr H0 hf => show LsOK Fr H0 C (⟨pf, fs41 lo, [q41_L3_p lo], 4⟩ : Tabs) q41_c from ⟨trivial, ⟨⟨trivial, (lsGet (by kernel_rfl) (q41_L3_k hlo C (tok_ls hT) hf))⟩, ⟨trivial, trivial⟩⟩⟩) (fun x y h => (q41_e lo x).trans h)
def fs42 (lo : Lo) : List FnE := q41_f lo :: fs41 lo
def q42 (lo : Lo) (s0 : List Int) (h1 : Int) (h2_0 : List Int) (h2_1 : List ((List Int))) (h2_2 : Int) (h3 : List Int) : Option (Bool × Int × (List Int) × (List ((List Int))) × Int × (List Int)) :=
  Option.bind (q41 lo s0 h1 h2_0 h2_1 h2_2 h3) fun y138 => chk (y138.2.2.2.2.2.length = h3.length) (some ((decide ((0 : Int) ≤ y138.1)), y138.2.1, y138.2.2.1, y138.2.2.2.1, y138.2.2.2.2.1, y138.2.2.2.2.2))
def q42_c : VCode :=
 (.seq (.reg [o 4 (.mv (kb false))])
 (.seq (.reg [o 5 (.mv (t 0)), o 6 (.mv (t 1)), o 7 (.call 442 [(t 5), (t 6)]), o 8 (.bin .geq (t 7) (k 0)), o 4 (.mv (t 8))])
 .ret))
def q42_F : VFn := ⟨true, 9, [.t 4], q42_c⟩
def q42_f (lo : Lo) : FnE := ⟨426, false, ⟨[0, 1], [.l (cs [I]), .clo 455 [.ptr 0 0 0, .ptr 1 0 0]], [.st [.ptr 2 0 0], .st [.i .i64], .st [.l (cs [I]), .l (cs [.l (cs [I])]), .ref 3, .i .i64], .sq (cs [I])], (cs [.l (cs [I]), I, .l (cs [I]), .l (cs [.l (cs [I])]), I, .l (cs [I])])⟩, .b, [.st [.ptr 2 0 0], .st [.i .i64], .st [.l (cs [I]), .l (cs [.l (cs [I])]), .ref 3, .i .i64], .sq (cs [I])], (cs [.b, I, .l (cs [I]), .l (cs [.l (cs [I])]), I, .l (cs [I])]), (fun x => q42 lo x.1 x.2.1 x.2.2.1 x.2.2.2.1 x.2.2.2.2.1 x.2.2.2.2.2 : (List Int) × Int × (List Int) × (List ((List Int))) × Int × (List Int) → Option (Bool × Int × (List Int) × (List ((List Int))) × Int × (List Int)))⟩
theorem q42_e (lo : Lo) : ∀ x : (List Int) × Int × (List Int) × (List ((List Int))) × Int × (List Int), evI (⟨pf, fs42 lo, [], 4⟩ : Tabs) q42_F ⟨[0, 1], [.l (cs [I]), .clo 455 [.ptr 0 0 0, .ptr 1 0 0]], [.st [.ptr 2 0 0], .st [.i .i64], .st [.l (cs [I]), .l (cs [.l (cs [I])]), .ref 3, .i .i64], .sq (cs [I])], (cs [.l (cs [I]), I, .l (cs [I]), .l (cs [.l (cs [I])]), I, .l (cs [I])])⟩ (.b) [.st [.ptr 2 0 0], .st [.i .i64], .st [.l (cs [I]), .l (cs [.l (cs [I])]), .ref 3, .i .i64], .sq (cs [I])] (cs [.b, I, .l (cs [I]), .l (cs [.l (cs [I])]), I, .l (cs [I])]) x = q42 lo x.1 x.2.1 x.2.2.1 x.2.2.2.1 x.2.2.2.2.1 x.2.2.2.2.2 := fun x => by kernel_rfl
theorem q42_S {P : Program} {fm : FM} {lo : Lo} (hlo : LoOK lo) (hS : Sound P fm ⟨pf, fs42 lo, [], 0⟩) (hm : P.follows .mixedOrders = true) (htie : ∀ f, fm f = 426 → fnTr P fm pf f = some (q42_F.slots, q42_F.res, q42_F.code.er)) : Sound P fm ⟨pf, q42_f lo :: fs42 lo, [], 0⟩ :=
  fnI_sound hS hm [] (q42_f lo) rfl q42_F htie (by decide) rfl (Nat.le_of_ble_eq_true (by kernel_rfl)) (fun C hT Fr H0 hf => show LsOK Fr H0 C (⟨pf, fs42 lo, [], 4⟩ : Tabs) q42_c from ⟨trivial, ⟨trivial, trivial⟩⟩) (fun x y h => (q42_e lo x).trans h)
def fs43 (lo : Lo) : List FnE := q42_f lo :: fs42 lo
def q43 (lo : Lo) (e1 : List Int) (mark2 : Int) (s0_0 : List Int) (s0_1 : List ((List Int))) (s0_2 : Int) (h1 : List Int) : Option (Bool × (List Int) × (List ((List Int))) × Int × (List Int)) :=
  Option.bind (q42 lo e1 mark2 s0_0 s0_1 s0_2 h1) fun y139 => chk (y139.2.2.2.2.2.length = h1.length) (some (y139.1, y139.2.2.1, y139.2.2.2.1, y139.2.2.2.2.1, y139.2.2.2.2.2))
def q43_c : VCode :=
 (.seq (.reg [o 3 (.box (t 0)), o 5 (.box (t 2)), o 6 (.mv (kb false))])
 (.seq (.reg [o 7 (.mv (t 1)), o 8 (.mkf 455 [(t 3), (t 5)]), o 9 (.call 426 [(t 7), (t 8)]), o 6 (.mv (t 9))])
 .ret))
def q43_F : VFn := ⟨true, 10, [.t 6], q43_c⟩
def q43_f (lo : Lo) : FnE := ⟨450, false, ⟨[0, 1, 2], [.ptr 0 0 0, .l (cs [I]), .i .i64], [.st [.l (cs [I]), .l (cs [.l (cs [I])]), .ref 1, .i .i64], .sq (cs [I])], (cs [.l (cs [I]), I, .l (cs [I]), .l (cs [.l (cs [I])]), I, .l (cs [I])])⟩, .b, [.st [.l (cs [I]), .l (cs [.l (cs [I])]), .ref 1, .i .i64], .sq (cs [I])], (cs [.b, .l (cs [I]), .l (cs [.l (cs [I])]), I, .l (cs [I])]), (fun x => q43 lo x.1 x.2.1 x.2.2.1 x.2.2.2.1 x.2.2.2.2.1 x.2.2.2.2.2 : (List Int) × Int × (List Int) × (List ((List Int))) × Int × (List Int) → Option (Bool × (List Int) × (List ((List Int))) × Int × (List Int)))⟩
theorem q43_e (lo : Lo) : ∀ x : (List Int) × Int × (List Int) × (List ((List Int))) × Int × (List Int), evI (⟨pf, fs43 lo, [], 2⟩ : Tabs) q43_F ⟨[0, 1, 2], [.ptr 0 0 0, .l (cs [I]), .i .i64], [.st [.l (cs [I]), .l (cs [.l (cs [I])]), .ref 1, .i .i64], .sq (cs [I])], (cs [.l (cs [I]), I, .l (cs [I]), .l (cs [.l (cs [I])]), I, .l (cs [I])])⟩ (.b) [.st [.l (cs [I]), .l (cs [.l (cs [I])]), .ref 1, .i .i64], .sq (cs [I])] (cs [.b, .l (cs [I]), .l (cs [.l (cs [I])]), I, .l (cs [I])]) x = q43 lo x.1 x.2.1 x.2.2.1 x.2.2.2.1 x.2.2.2.2.1 x.2.2.2.2.2 := fun x => by kernel_rfl
theorem q43_S {P : Program} {fm : FM} {lo : Lo} (hlo : LoOK lo) (hS : Sound P fm ⟨pf, fs43 lo, [], 0⟩) (hm : P.follows .mixedOrders = true) (htie : ∀ f, fm f = 450 → fnTr P fm pf f = some (q43_F.slots, q43_F.res, q43_F.code.er)) : Sound P fm ⟨pf, q43_f lo :: fs43 lo, [], 0⟩ :=
  fnI_sound hS hm [] (q43_f lo) rfl q43_F htie (by decide) rfl (Nat.le_of_ble_eq_true (by kernel_rfl)) (fun C hT Fr H0 hf => show LsOK Fr H0 C (⟨pf, fs43 lo, [], 2⟩ : Tabs) q43_c from ⟨trivial, ⟨trivial, trivial⟩⟩) (fun x y h => (q43_e lo x).trans h)
def fs44 (lo : Lo) : List FnE := q43_f lo :: fs43 lo
def q44_L16_b : VCode :=
 (.seq (.reg [o 37 (.bin .lss (t 36) (t 35))])
 (.seq (.cond (t 37) .skip
 (.exit 2))
 (.seq (.blk 3 (.seq (.reg [o 38 (.iad 1 (t 34) (t 36)), o 39 (.load false 1 (t 38)), o 11 (.mv (t 39))])
 (.seq (.reg [o 40 (.mv (t 0)), o 41 (.nilc (t 40)), o 42 (.fad 2 (t 41)), o 43 (.load false 1 (t 42)), o 44 (.mv (t 11)), o 45 (.iad 1 (t 43) (t 44)), o 46 (.load false 1 (t 45)), o 47 (.bin .eql (t 46) (k 0))])
 (.cond (t 47) (.reg [o 48 (.mv (t 9)), o 49 (.mv (t 4)), o 50 (.mv (t 11)), o 51 (.iad 1 (t 49) (t 50)), o 52 (.load false 1 (t 51)), o 53 (.mm false [(t 48), (t 52)]), o 9 (.mv (t 53))])
 .skip))))
 (.reg [o 54 (.bin .add (t 36) (k 1)), o 36 (.mv (t 54))]))))
def q44_L16_g : Sg := ⟨[0, 4, 5, 6, 7, 8, 9, 24, 25, 26, 34, 35, 36], [.ptr 0 0 0, .ref 2, .ref 3, .i .i64, .i .i64, .l (cs [I]), .i .i64, .l (cs [.l (cs [I])]), .i .i64, .i .i64, .l (cs [I]), .i .i64, .i .i64], [.st [.l (cs [I]), .l (cs [.l (cs [I])]), .ref 1, .i .i64], .sq (cs [I]), .sq (cs [I]), .sq (cs [I, I])], (cs [I, I, .l (cs [I]), I, .l (cs [.l (cs [I])]), I, I, .l (cs [I]), I, I, .l (cs [I]), .l (cs [.l (cs [I])]), I, .l (cs [I]), .l (cs [I]), .l (cs [I, I])])⟩
def q44_L16_o : List Out1 := [⟨.exit 2, ⟨[0, 4, 5, 6, 7, 8, 9, 24, 25, 26], [.ptr 0 0 0, .ref 2, .ref 3, .i .i64, .i .i64, .l (cs [I]), .i .i64, .l (cs [.l (cs [I])]), .i .i64, .i .i64], [.st [.l (cs [I]), .l (cs [.l (cs [I])]), .ref 1, .i .i64], .sq (cs [I]), .sq (cs [I]), .sq (cs [I, I])], (cs [I, I, .l (cs [I]), I, .l (cs [.l (cs [I])]), I, I, .l (cs [I]), .l (cs [.l (cs [I])]), I, .l (cs [I]), .l (cs [I]), .l (cs [I, I])])⟩⟩]
def q44_L16_s (lo : Lo) : Int × Int × (List Int) × Int × (List ((List Int))) × Int × Int × (List Int) × Int × Int × (List Int) × (List ((List Int))) × Int × (List Int) × (List Int) × (List (Int × Int)) → Option ((Int × Int × (List Int) × Int × (List ((List Int))) × Int × Int × (List Int) × Int × Int × (List Int) × (List ((List Int))) × Int × (List Int) × (List Int) × (List (Int × Int))) ⊕ ((Int × Int × (List Int) × Int × (List ((List Int))) × Int × Int × (List Int) × (List ((List Int))) × Int × (List Int) × (List Int) × (List (Int × Int))))) := fun x => match x with
  | (sum6, i7, e8, amount9, v24, v25, v26, v34, v35, v36, s0_0, s0_1, s0_2, h1, room4, out5) => bif (decide (v36 < v35)) then (chk (0 ≤ v36 ∧ v36 < (v34.length : Int)) (chk (0 ≤ (v34.getD v36.toNat (0 : Int)) ∧ (v34.getD v36.toNat (0 : Int)) < (h1.length : Int)) (bif (decide (h1.getD ((v34.getD v36.toNat (0 : Int)).toNat) (0 : Int) = (0 : Int))) then (chk (0 ≤ (v34.getD v36.toNat (0 : Int)) ∧ (v34.getD v36.toNat (0 : Int)) < (room4.length : Int)) (some (.inl (sum6, i7, e8, (min amount9 (room4.getD ((v34.getD v36.toNat (0 : Int)).toNat) (0 : Int))), v24, v25, v26, v34, v35, (IntKind.wrap .i64 (v36 + (1 : Int))), s0_0, s0_1, s0_2, h1, room4, out5)))) else (some (.inl (sum6, i7, e8, amount9, v24, v25, v26, v34, v35, (IntKind.wrap .i64 (v36 + (1 : Int))), s0_0, s0_1, s0_2, h1, room4, out5)))))) else (some (.inr (sum6, i7, e8, amount9, v24, v25, v26, s0_0, s0_1, s0_2, h1, room4, out5)))
theorem q44_L16_e (lo : Lo) : ∀ x : Int × Int × (List Int) × Int × (List ((List Int))) × Int × Int × (List Int) × Int × Int × (List Int) × (List ((List Int))) × Int × (List Int) × (List Int) × (List (Int × Int)), stepL (⟨pf, fs44 lo, [], 2⟩ : Tabs) [] q44_L16_g q44_L16_o q44_L16_b x = q44_L16_s lo x := fun x => by kernel_rfl
def q44_L16 (lo : Lo) : Int × Int × (List Int) × Int × (List ((List Int))) × Int × Int × (List Int) × Int × Int × (List Int) × (List ((List Int))) × Int × (List Int) × (List Int) × (List (Int × Int)) → Option ((Int × Int × (List Int) × Int × (List ((List Int))) × Int × Int × (List Int) × (List ((List Int))) × Int × (List Int) × (List Int) × (List (Int × Int)))) := lo.run (q44_L16_s lo)
def q44_L16_p (lo : Lo) : LpE := ⟨16, [], q44_L16_g, q44_L16_o, q44_L16 lo⟩
theorem q44_L16_k {lo : Lo} (hlo : LoOK lo) (C : Ctx) (hT : TOK (⟨pf, fs44 lo, [], 2⟩ : Tabs) C) {Fr : Nat → Prop} {H0 : Heap} (hf : FrOK Fr H0) : LpSound Fr H0 2 C (.loop q44_L16_b.er) (q44_L16_p lo) :=
  loop_sound (T := (⟨pf, fs44 lo, [], 2⟩ : Tabs)) hT hf (show LsOK Fr H0 C (⟨pf, fs44 lo, [], 2⟩ : Tabs) q44_L16_b from ⟨trivial, ⟨⟨trivial, trivial⟩, ⟨⟨trivial, ⟨trivial, ⟨trivial, trivial⟩⟩⟩, trivial⟩⟩⟩) (fun x y h => loopO_congr (q44_L16_e lo) (hlo _ _ _ h))
def q44_L7_b : VCode :=
 (.seq (.reg [o 60 (.bin .lss (t 59) (t 58))])
 (.seq (.cond (t 60) .skip
 (.exit 4))
 (.seq (.blk 5 (.seq (.reg [o 61 (.iad 1 (t 57) (t 59)), o 62 (.load false 1 (t 61)), o 13 (.mv (t 62))])
 (.reg [o 63 (.mv (t 4)), o 64 (.mv (t 13)), o 65 (.iad 1 (t 63) (t 64)), o 66 (.load false 1 (t 65)), o 67 (.mv (t 9)), o 68 (.bin .sub (t 66) (t 67)), o 69 (.iad 1 (t 63) (t 64)), on (.store 1 (t 69) (t 68))])))
 (.reg [o 70 (.bin .add (t 59) (k 1)), o 59 (.mv (t 70))]))))
def q44_L7_g : Sg := ⟨[0, 4, 5, 6, 7, 9, 24, 25, 26, 57, 58, 59], [.ptr 0 0 0, .ref 2, .ref 3, .i .i64, .i .i64, .i .i64, .l (cs [.l (cs [I])]), .i .i64, .i .i64, .l (cs [I]), .i .i64, .i .i64], [.st [.l (cs [I]), .l (cs [.l (cs [I])]), .ref 1, .i .i64], .sq (cs [I]), .sq (cs [I]), .sq (cs [I, I])], (cs [I, I, I, .l (cs [.l (cs [I])]), I, I, .l (cs [I]), I, I, .l (cs [I]), .l (cs [.l (cs [I])]), I, .l (cs [I]), .l (cs [I]), .l (cs [I, I])])⟩
def q44_L7_o : List Out1 := [⟨.exit 4, ⟨[0, 4, 5, 6, 7, 9, 24, 25, 26], [.ptr 0 0 0, .ref 2, .ref 3, .i .i64, .i .i64, .i .i64, .l (cs [.l (cs [I])]), .i .i64, .i .i64], [.st [.l (cs [I]), .l (cs [.l (cs [I])]), .ref 1, .i .i64], .sq (cs [I]), .sq (cs [I]), .sq (cs [I, I])], (cs [I, I, I, .l (cs [.l (cs [I])]), I, I, .l (cs [I]), .l (cs [.l (cs [I])]), I, .l (cs [I]), .l (cs [I]), .l (cs [I, I])])⟩⟩]
def q44_L7_s (lo : Lo) : Int × Int × Int × (List ((List Int))) × Int × Int × (List Int) × Int × Int × (List Int) × (List ((List Int))) × Int × (List Int) × (List Int) × (List (Int × Int)) → Option ((Int × Int × Int × (List ((List Int))) × Int × Int × (List Int) × Int × Int × (List Int) × (List ((List Int))) × Int × (List Int) × (List Int) × (List (Int × Int))) ⊕ ((Int × Int × Int × (List ((List Int))) × Int × Int × (List Int) × (List ((List Int))) × Int × (List Int) × (List Int) × (List (Int × Int))))) := fun x => match x with
  | (sum6, i7, amount9, v24, v25, v26, v57, v58, v59, s0_0, s0_1, s0_2, h1, room4, out5) => bif (decide (v59 < v58)) then (chk (0 ≤ v59 ∧ v59 < (v57.length : Int)) (chk (0 ≤ (v57.getD v59.toNat (0 : Int)) ∧ (v57.getD v59.toNat (0 : Int)) < (room4.length : Int)) (chk (0 ≤ (v57.getD v59.toNat (0 : Int)) ∧ (v57.getD v59.toNat (0 : Int)) < (room4.length : Int)) (some (.inl (sum6, i7, amount9, v24, v25, v26, v57, v58, (IntKind.wrap .i64 (v59 + (1 : Int))), s0_0, s0_1, s0_2, h1, (room4.set ((v57.getD v59.toNat (0 : Int)).toNat) (IntKind.wrap .i64 ((room4.getD ((v57.getD v59.toNat (0 : Int)).toNat) (0 : Int)) - amount9))), out5)))))) else (some (.inr (sum6, i7, amount9, v24, v25, v26, s0_0, s0_1, s0_2, h1, room4, out5)))
theorem q44_L7_e (lo : Lo) : ∀ x : Int × Int × Int × (List ((List Int))) × Int × Int × (List Int) × Int × Int × (List Int) × (List ((List Int))) × Int × (List Int) × (List Int) × (List (Int × Int)), stepL (⟨pf, fs44 lo, [q44_L16_p lo], 2⟩ : Tabs) [] q44_L7_g q44_L7_o q44_L7_b x = q44_L7_s lo x := fun x => by kernel_rfl
def q44_L7 (lo : Lo) : Int × Int × Int × (List ((List Int))) × Int × Int × (List Int) × Int × Int × (List Int) × (List ((List Int))) × Int × (List Int) × (List Int) × (List (Int × Int)) → Option ((Int × Int × Int × (List ((List Int))) × Int × Int × (List Int) × (List ((List Int))) × Int × (List Int) × (List Int) × (List (Int × Int)))) := lo.run (q44_L7_s lo)
def q44_L7_p (lo : Lo) : LpE := ⟨7, [], q44_L7_g, q44_L7_o, q44_L7 lo⟩
theorem q44_L7_k {lo : Lo} (hlo : LoOK lo) (C : Ctx) (hT : TOK (⟨pf, fs44 lo, [q44_L16_p lo], 2⟩ : Tabs) C) {Fr : Nat → Prop} {H0 : Heap} (hf : FrOK Fr H0) : LpSound Fr H0 2 C (.loop q44_L7_b.er) (q44_L7_p lo) :=
  loop_sound (T := (⟨pf, fs44 lo, [q44_L16_p lo], 2⟩ : Tabs)) hT hf (show LsOK Fr H0 C (⟨pf, fs44 lo, [q44_L16_p lo], 2⟩ : Tabs) q44_L7_b from ⟨trivial, ⟨⟨trivial, trivial⟩, ⟨⟨trivial, trivial⟩, trivial⟩⟩⟩) (fun x y h => loopO_congr (q44_L7_e lo) (hlo _ _ _ h))
def q44_L3_b : VCode :=
 (.seq (.reg [o 27 (.bin .lss (t 26) (t 25))])
 (.seq (.cond (t 27) .skip
 (.exit 0))
 (.seq (.blk 1 (.seq (.reg [o 28 (.mv (t 26)), o 29 (.iad 1 (t 24) (t 26)), o 30 (.load false 1 (t 29)), o 7 (.mv (t 28)), o 8 (.mv (t 30))])
 (.seq (.seq (.reg [o 31 (.mv (t 0)), o 32 (.mv (t 8)), o 33 (.call 450 [(t 31), (t 32), (k 1)])])
 (.cond (t 33) (.exit 1)
 .skip))
 (.seq (.reg [o 9 (.mv (k 1000000))])
 (.seq (.seq (.reg [o 34 (.mv (t 8)), o 35 (.len (t 34)), o 36 (.mv (k 0))])
 (.blk 2 (.loop 16 q44_L16_b)))
 (.seq (.seq (.reg [o 55 (.mv (t 9)), o 56 (.bin .eql (t 55) (k 0))])
 (.cond (t 56) (.exit 1)
 .skip))
 (.seq (.seq (.reg [o 57 (.mv (t 8)), o 58 (.len (t 57)), o 59 (.mv (k 0))])
 (.blk 4 (.loop 7 q44_L7_b)))
 (.seq (.reg [o 71 (.mv (t 5)), o 72 (.mv (t 7)), o 73 (.mv (t 9)), o 74 (.build [.i .i64 0, .i .i64 0] [(0, 1, (t 72)), (1, 1, (t 73))]), o 75 (.bsl (cs [I, I]) 1 [(0, (t 74))]), o 76 (.app (cs [I, I]) 0 (t 71) (t 75)), o 5 (.mv (t 76))])
 (.reg [o 77 (.mv (t 6)), o 78 (.mv (t 9)), o 79 (.bin .add (t 77) (t 78)), o 6 (.mv (t 79))])))))))))
 (.reg [o 80 (.bin .add (t 26) (k 1)), o 26 (.mv (t 80))]))))
def q44_L3_g : Sg := ⟨[0, 4, 5, 6, 24, 25, 26], [.ptr 0 0 0, .ref 2, .ref 3, .i .i64, .l (cs [.l (cs [I])]), .i .i64, .i .i64], [.st [.l (cs [I]), .l (cs [.l (cs [I])]), .ref 1, .i .i64], .sq (cs [I]), .sq (cs [I]), .sq (cs [I, I])], (cs [I, .l (cs [.l (cs [I])]), I, I, .l (cs [I]), .l (cs [.l (cs [I])]), I, .l (cs [I]), .l (cs [I]), .l (cs [I, I])])⟩
def q44_L3_o : List Out1 := [⟨.exit 0, ⟨[0, 5, 6], [.ptr 0 0 0, .ref 2, .i .i64], [.st [.l (cs [I]), .l (cs [.l (cs [I])]), .ref 1, .i .i64], .sq (cs [I]), .sq (cs [I, I])], (cs [I, .l (cs [I]), .l (cs [.l (cs [I])]), I, .l (cs [I]), .l (cs [I, I])])⟩⟩]
def q44_L3_s (lo : Lo) : Int × (List ((List Int))) × Int × Int × (List Int) × (List ((List Int))) × Int × (List Int) × (List Int) × (List (Int × Int)) → Option ((Int × (List ((List Int))) × Int × Int × (List Int) × (List ((List Int))) × Int × (List Int) × (List Int) × (List (Int × Int))) ⊕ ((Int × (List Int) × (List ((List Int))) × Int × (List Int) × (List (Int × Int))))) := fun x => match x with
  | (sum6, v24, v25, v26, s0_0, s0_1, s0_2, h1, room4, out5) => bif (decide (v26 < v25)) then (chk (0 ≤ v26 ∧ v26 < (v24.length : Int)) (Option.bind (q43 lo (v24.getD v26.toNat []) (1 : Int) s0_0 s0_1 s0_2 h1) fun y140 => chk (y140.2.2.2.2.length = h1.length) (bif y140.1 then (some (.inl (sum6, v24, v25, (IntKind.wrap .i64 (v26 + (1 : Int))), y140.2.1, y140.2.2.1, y140.2.2.2.1, y140.2.2.2.2, room4, out5))) else (Option.bind (q44_L16 lo (sum6, v26, (v24.getD v26.toNat []), (1000000 : Int), v24, v25, v26, (v24.getD v26.toNat []), ((v24.getD v26.toNat []).length : Int), (0 : Int), y140.2.1, y140.2.2.1, y140.2.2.2.1, y140.2.2.2.2, room4, out5)) fun y141 => bif (decide (y141.2.2.2.1 = (0 : Int))) then (some (.inl (y141.1, y141.2.2.2.2.1, y141.2.2.2.2.2.1, (IntKind.wrap .i64 (y141.2.2.2.2.2.2.1 + (1 : Int))), y141.2.2.2.2.2.2.2.1, y141.2.2.2.2.2.2.2.2.1, y141.2.2.2.2.2.2.2.2.2.1, y141.2.2.2.2.2.2.2.2.2.2.1, y141.2.2.2.2.2.2.2.2.2.2.2.1, y141.2.2.2.2.2.2.2.2.2.2.2.2))) else (Option.bind (q44_L7 lo (y141.1, y141.2.1, y141.2.2.2.1, y141.2.2.2.2.1, y141.2.2.2.2.2.1, y141.2.2.2.2.2.2.1, y141.2.2.1, (y141.2.2.1.length : Int), (0 : Int), y141.2.2.2.2.2.2.2.1, y141.2.2.2.2.2.2.2.2.1, y141.2.2.2.2.2.2.2.2.2.1, y141.2.2.2.2.2.2.2.2.2.2.1, y141.2.2.2.2.2.2.2.2.2.2.2.1, y141.2.2.2.2.2.2.2.2.2.2.2.2)) fun y142 => chk (y142.2.2.2.2.2.2.2.2.2.2.2.length + ([(y142.2.1, y142.2.2.1)]).length ≤ maxEl) (some (.inl ((IntKind.wrap .i64 (y142.1 + y142.2.2.1)), y142.2.2.2.1, y142.2.2.2.2.1, (IntKind.wrap .i64 (y142.2.2.2.2.2.1 + (1 : Int))), y142.2.2.2.2.2.2.1, y142.2.2.2.2.2.2.2.1, y142.2.2.2.2.2.2.2.2.1, y142.2.2.2.2.2.2.2.2.2.1, y142.2.2.2.2.2.2.2.2.2.2.1, (y142.2.2.2.2.2.2.2.2.2.2.2 ++ ([(y142.2.1, y142.2.2.1)])))))))))) else (some (.inr (sum6, s0_0, s0_1, s0_2, h1, out5)))
theorem q44_L3_e (lo : Lo) : ∀ x : Int × (List ((List Int))) × Int × Int × (List Int) × (List ((List Int))) × Int × (List Int) × (List Int) × (List (Int × Int)), stepL (⟨pf, fs44 lo, [q44_L7_p lo, q44_L16_p lo], 2⟩ : Tabs) [(5, none, false)] q44_L3_g q44_L3_o q44_L3_b x = q44_L3_s lo x := fun x => by kernel_rfl
def q44_L3 (lo : Lo) : Int × (List ((List Int))) × Int × Int × (List Int) × (List ((List Int))) × Int × (List Int) × (List Int) × (List (Int × Int)) → Option ((Int × (List Int) × (List ((List Int))) × Int × (List Int) × (List (Int × Int)))) := lo.run (q44_L3_s lo)
def q44_L3_p (lo : Lo) : LpE := ⟨3, [(5, none, false)], q44_L3_g, q44_L3_o, q44_L3 lo⟩
theorem q44_L3_k {lo : Lo} (hlo : LoOK lo) (C : Ctx) (hT : TOK (⟨pf, fs44 lo, [q44_L7_p lo, q44_L16_p lo], 2⟩ : Tabs) C) {Fr : Nat → Prop} {H0 : Heap} (hf : FrOK Fr H0) : LpSound Fr H0 2 C (.loop q44_L3_b.er) (q44_L3_p lo) :=
  loop_sound (T := (⟨pf, fs44 lo, [q44_L7_p lo, q44_L16_p lo], 2⟩ : Tabs)) hT hf (show LsOK Fr H0 C (⟨pf, fs44 lo, [q44_L7_p lo, q44_L16_p lo], 2⟩ : Tabs) q44_L3_b from ⟨trivial, ⟨⟨trivial, trivial⟩, ⟨⟨trivial, ⟨⟨trivial, ⟨trivial, trivial⟩⟩, ⟨trivial, ⟨⟨trivial, (lsGet (by kernel_rfl) (q44_L16_k hlo C (tok_ls hT) hf))⟩, ⟨⟨trivial, ⟨trivial, trivial⟩⟩, ⟨⟨trivial, (lsGet (by kernel_rfl) (q44_L7_k hlo C (tok_ls hT) hf))⟩, ⟨trivial, trivial⟩⟩⟩⟩⟩⟩⟩, trivial⟩⟩⟩) (fun x y h => loopO_congr (q44_L3_e lo) (hlo _ _ _ h))
def q44 (lo : Lo) (s0_0 : List Int) (s0_1 : List ((List Int))) (s0_2 : Int) (h1 : List Int) : Option (Int × (List Int) × (List ((List Int))) × Int × (List Int) × (List (Int × Int))) :=
  Option.bind (q39 lo s0_0) fun y133 => Option.bind (q44_L3 lo ((0 : Int), s0_1, (s0_1.length : Int), (0 : Int), s0_0, s0_1, s0_2, h1, y133, [])) fun y143 => some (y143.1, y143.2.1, y143.2.2.1, y143.2.2.2.1, y143.2.2.2.2.1, y143.2.2.2.2.2)
def q44_c : VCode :=
 (.seq (.reg [o 2 (.mv (ke (cs [I, I]))), o 3 (.mv (k 0))])
 (.seq (.reg [o 14 (.mv (t 0)), o 15 (.nilc (t 14)), o 16 (.fad 0 (t 15)), o 17 (.fad 0 (t 16)), o 18 (.load false 1 (t 17)), o 19 (.call 245 [(t 18)]), o 4 (.mv (t 19))])
 (.seq (.reg [o 5 (.mv (ke (cs [I, I])))])
 (.seq (.reg [o 6 (.mv (k 0))])
 (.seq (.seq (.reg [o 20 (.mv (t 0)), o 21 (.nilc (t 20)), o 22 (.fad 0 (t 21)), o 23 (.fad 1 (t 22)), o 24 (.load false 1 (t 23)), o 25 (.len (t 24)), o 26 (.mv (k 0))])
 (.blk 0 (.loop 3 q44_L3_b)))
 (.seq (.reg [o 81 (.mv (t 5)), o 82 (.mv (t 6)), o 2 (.mv (t 81)), o 3 (.mv (t 82))])
 .ret))))))
def q44_F : VFn := ⟨true, 83, [.t 2, .t 3], q44_c⟩
def q44_f (lo : Lo) : FnE := ⟨438, false, ⟨[0], [.ptr 0 0 0], [.st [.l (cs [I]), .l (cs [.l (cs [I])]), .ref 1, .i .i64], .sq (cs [I])], (cs [.l (cs [I]), .l (cs [.l (cs [I])]), I, .l (cs [I])])⟩, .tp [.ref 2, .i .i64], [.st [.l (cs [I]), .l (cs [.l (cs [I])]), .ref 1, .i .i64], .sq (cs [I]), .sq (cs [I, I])], (cs [I, .l (cs [I]), .l (cs [.l (cs [I])]), I, .l (cs [I]), .l (cs [I, I])]), (fun x => q44 lo x.1 x.2.1 x.2.2.1 x.2.2.2 : (List Int) × (List ((List Int))) × Int × (List Int) → Option (Int × (List Int) × (List ((List Int))) × Int × (List Int) × (List (Int × Int))))⟩
theorem q44_e (lo : Lo) : ∀ x : (List Int) × (List ((List Int))) × Int × (List Int), evI (⟨pf, fs44 lo, [q44_L3_p lo, q44_L7_p lo, q44_L16_p lo], 2⟩ : Tabs) q44_F ⟨[0], [.ptr 0 0 0], [.st [.l (cs [I]), .l (cs [.l (cs [I])]), .ref 1, .i .i64], .sq (cs [I])], (cs [.l (cs [I]), .l (cs [.l (cs [I])]), I, .l (cs [I])])⟩ (.tp [.ref 2, .i .i64]) [.st [.l (cs [I]), .l (cs [.l (cs [I])]), .ref 1, .i .i64], .sq (cs [I]), .sq (cs [I, I])] (cs [I, .l (cs [I]), .l (cs [.l (cs [I])]), I, .l (cs [I]), .l (cs [I, I])]) x = q44 lo x.1 x.2.1 x.2.2.1 x.2.2.2 := fun x => by kernel_rfl
theorem q44_S {P : Program} {fm : FM} {lo : Lo} (hlo : LoOK lo) (hS : Sound P fm ⟨pf, fs44 lo, [], 0⟩) (hm : P.follows .mixedOrders = true) (htie : ∀ f, fm f = 438 → fnTr P fm pf f = some (q44_F.slots, q44_F.res, q44_F.code.er)) : Sound P fm ⟨pf, q44_f lo :: fs44 lo, [], 0⟩ :=
  fnI_sound hS hm [q44_L3_p lo, q44_L7_p lo, q44_L16_p lo] (q44_f lo) rfl q44_F htie (by decide) rfl (Nat.le_of_ble_eq_true (by kernel_rfl)) (fun C hT Fr H0 hf => show LsOK Fr H0 C (⟨pf, fs44 lo, [q44_L3_p lo, q44_L7_p lo, q44_L16_p lo], 2⟩ : Tabs) q44_c from ⟨trivial, ⟨trivial, ⟨trivial, ⟨trivial, ⟨⟨trivial, (lsGet (by kernel_rfl) (q44_L3_k hlo C (tok_ls hT) hf))⟩, ⟨trivial, trivial⟩⟩⟩⟩⟩⟩) (fun x y h => (q44_e lo x).trans h)
def fs45 (lo : Lo) : List FnE := q44_f lo :: fs44 lo
end Go.Abs.G39
namespace Go.Abs.G39
open Go Go.Abs
set_option maxRecDepth 100000
set_option linter.unusedVariables false
set_option maxHeartbeats 1000000
def q45_L5_b : VCode :=
 (.seq (.reg [o 31 (.bin .lss (t 30) (t 29))])
 (.seq (.cond (t 31) .skip
 (.exit 2))
 (.seq (.blk 3 (.seq (.reg [o 32 (.iad 1 (t 28) (t 30)), o 33 (.load false 1 (t 32)), o 8 (.mv (t 33))])
 (.seq (.seq (.reg [o 34 (.mv (t 0)), o 35 (.nilc (t 34)), o 36 (.fad 2 (t 35)), o 37 (.load false 1 (t 36)), o 38 (.mv (t 8)), o 39 (.iad 1 (t 37) (t 38)), o 40 (.load false 1 (t 39)), o 41 (.bin .neq (t 40) (k 0))])
 (.cond (t 41) (.exit 3)
 .skip))
 (.seq (.reg [o 42 (.mv (t 3)), o 43 (.mv (t 8)), o 44 (.iad 1 (t 42) (t 43)), o 45 (.load false 1 (t 44)), o 46 (.bin .add (t 45) (k 1)), o 47 (.iad 1 (t 42) (t 43)), on (.store 1 (t 47) (t 46))])
 (.seq (.reg [o 48 (.mv (t 4)), o 49 (.bin .lss (t 48) (k 0)), o 50 (.mv (t 49)), og 51 50 false (.mv (t 3)), og 52 50 false (.mv (t 8)), og 53 50 false (.iad 1 (t 51) (t 52)), og 54 50 false (.load false 1 (t 53)), og 55 50 false (.mv (t 3)), og 56 50 false (.mv (t 4)), og 57 50 false (.iad 1 (t 55) (t 56)), og 58 50 false (.load false 1 (t 57)), og 59 50 false (.bin .gtr (t 54) (t 58)), o 60 (.pick (t 50) (kb true) (t 59))])
 (.cond (t 60) (.reg [o 61 (.mv (t 8)), o 4 (.mv (t 61))])
 .skip))))))
 (.reg [o 62 (.bin .add (t 30) (k 1)), o 30 (.mv (t 62))]))))
def q45_L5_g : Sg := ⟨[0, 3, 4, 19, 20, 21, 28, 29, 30], [.ptr 0 0 0, .ref 2, .i .i64, .l (cs [.l (cs [I])]), .i .i64, .i .i64, .l (cs [I]), .i .i64, .i .i64], [.st [.l (cs [I]), .l (cs [.l (cs [I])]), .ref 1, .i .i64], .sq (cs [I]), .sq (cs [I])], (cs [I, .l (cs [.l (cs [I])]), I, I, .l (cs [I]), I, I, .l (cs [I]), .l (cs [.l (cs [I])]), I, .l (cs [I]), .l (cs [I])])⟩
def q45_L5_o : List Out1 := [⟨.exit 2, ⟨[0, 3, 4, 19, 20, 21], [.ptr 0 0 0, .ref 2, .i .i64, .l (cs [.l (cs [I])]), .i .i64, .i .i64], [.st [.l (cs [I]), .l (cs [.l (cs [I])]), .ref 1, .i .i64], .sq (cs [I]), .sq (cs [I])], (cs [I, .l (cs [.l (cs [I])]), I, I, .l (cs [I]), .l (cs [.l (cs [I])]), I, .l (cs [I]), .l (cs [I])])⟩⟩]
def q45_L5_s (lo : Lo) : Int × (List ((List Int))) × Int × Int × (List Int) × Int × Int × (List Int) × (List ((List Int))) × Int × (List Int) × (List Int) → Option ((Int × (List ((List Int))) × Int × Int × (List Int) × Int × Int × (List Int) × (List ((List Int))) × Int × (List Int) × (List Int)) ⊕ ((Int × (List ((List Int))) × Int × Int × (List Int) × (List ((List Int))) × Int × (List Int) × (List Int)))) := fun x => match x with
  | (best4, v19, v20, v21, v28, v29, v30, s0_0, s0_1, s0_2, h1, count3) => bif (decide (v30 < v29)) then (chk (0 ≤ v30 ∧ v30 < (v28.length : Int)) (chk (0 ≤ (v28.getD v30.toNat (0 : Int)) ∧ (v28.getD v30.toNat (0 : Int)) < (h1.length : Int)) (bif (!decide (h1.getD ((v28.getD v30.toNat (0 : Int)).toNat) (0 : Int) = (0 : Int))) then (some (.inl (best4, v19, v20, v21, v28, v29, (IntKind.wrap .i64 (v30 + (1 : Int))), s0_0, s0_1, s0_2, h1, count3))) else (chk (0 ≤ (v28.getD v30.toNat (0 : Int)) ∧ (v28.getD v30.toNat (0 : Int)) < (count3.length : Int)) (chk (0 ≤ (v28.getD v30.toNat (0 : Int)) ∧ (v28.getD v30.toNat (0 : Int)) < (count3.length : Int)) (bif (decide (best4 < (0 : Int))) then (some (.inl ((v28.getD v30.toNat (0 : Int)), v19, v20, v21, v28, v29, (IntKind.wrap .i64 (v30 + (1 : Int))), s0_0, s0_1, s0_2, h1, (count3.set ((v28.getD v30.toNat (0 : Int)).toNat) (IntKind.wrap .i64 ((count3.getD ((v28.getD v30.toNat (0 : Int)).toNat) (0 : Int)) + (1 : Int))))))) else (chk (0 ≤ (v28.getD v30.toNat (0 : Int)) ∧ (v28.getD v30.toNat (0 : Int)) < ((count3.set ((v28.getD v30.toNat (0 : Int)).toNat) (IntKind.wrap .i64 ((count3.getD ((v28.getD v30.toNat (0 : Int)).toNat) (0 : Int)) + (1 : Int)))).length : Int)) (chk (0 ≤ best4 ∧ best4 < ((count3.set ((v28.getD v30.toNat (0 : Int)).toNat) (IntKind.wrap .i64 ((count3.getD ((v28.getD v30.toNat (0 : Int)).toNat) (0 : Int)) + (1 : Int)))).length : Int)) (bif (decide ((count3.set ((v28.getD v30.toNat (0 : Int)).toNat) (IntKind.wrap .i64 ((count3.getD ((v28.getD v30.toNat (0 : Int)).toNat) (0 : Int)) + (1 : Int)))).getD best4.toNat (0 : Int) < (count3.set ((v28.getD v30.toNat (0 : Int)).toNat) (IntKind.wrap .i64 ((count3.getD ((v28.getD v30.toNat (0 : Int)).toNat) (0 : Int)) + (1 : Int)))).getD ((v28.getD v30.toNat (0 : Int)).toNat) (0 : Int))) then (some (.inl ((v28.getD v30.toNat (0 : Int)), v19, v20, v21, v28, v29, (IntKind.wrap .i64 (v30 + (1 : Int))), s0_0, s0_1, s0_2, h1, (count3.set ((v28.getD v30.toNat (0 : Int)).toNat) (IntKind.wrap .i64 ((count3.getD ((v28.getD v30.toNat (0 : Int)).toNat) (0 : Int)) + (1 : Int))))))) else (some (.inl (best4, v19, v20, v21, v28, v29, (IntKind.wrap .i64 (v30 + (1 : Int))), s0_0, s0_1, s0_2, h1, (count3.set ((v28.getD v30.toNat (0 : Int)).toNat) (IntKind.wrap .i64 ((count3.getD ((v28.getD v30.toNat (0 : Int)).toNat) (0 : Int)) + (1 : Int)))))))))))))))) else (some (.inr (best4, v19, v20, v21, s0_0, s0_1, s0_2, h1, count3)))
theorem q45_L5_e (lo : Lo) : ∀ x : Int × (List ((List Int))) × Int × Int × (List Int) × Int × Int × (List Int) × (List ((List Int))) × Int × (List Int) × (List Int), stepL (⟨pf, fs45 lo, [], 2⟩ : Tabs) [] q45_L5_g q45_L5_o q45_L5_b x = q45_L5_s lo x := fun x => by kernel_rfl
def q45_L5 (lo : Lo) : Int × (List ((List Int))) × Int × Int × (List Int) × Int × Int × (List Int) × (List ((List Int))) × Int × (List Int) × (List Int) → Option ((Int × (List ((List Int))) × Int × Int × (List Int) × (List ((List Int))) × Int × (List Int) × (List Int))) := lo.run (q45_L5_s lo)
def q45_L5_p (lo : Lo) : LpE := ⟨5, [], q45_L5_g, q45_L5_o, q45_L5 lo⟩
theorem q45_L5_k {lo : Lo} (hlo : LoOK lo) (C : Ctx) (hT : TOK (⟨pf, fs45 lo, [], 2⟩ : Tabs) C) {Fr : Nat → Prop} {H0 : Heap} (hf : FrOK Fr H0) : LpSound Fr H0 2 C (.loop q45_L5_b.er) (q45_L5_p lo) :=
  loop_sound (T := (⟨pf, fs45 lo, [], 2⟩ : Tabs)) hT hf (show LsOK Fr H0 C (⟨pf, fs45 lo, [], 2⟩ : Tabs) q45_L5_b from ⟨trivial, ⟨⟨trivial, trivial⟩, ⟨⟨trivial, ⟨⟨trivial, ⟨trivial, trivial⟩⟩, ⟨trivial, ⟨trivial, ⟨trivial, trivial⟩⟩⟩⟩⟩, trivial⟩⟩⟩) (fun x y h => loopO_congr (q45_L5_e lo) (hlo _ _ _ h))
def q45_L3_b : VCode :=
 (.seq (.reg [o 22 (.bin .lss (t 21) (t 20))])
 (.seq (.cond (t 22) .skip
 (.exit 0))
 (.seq (.blk 1 (.seq (.reg [o 23 (.iad 1 (t 19) (t 21)), o 24 (.load false 1 (t 23)), o 6 (.mv (t 24))])
 (.seq (.seq (.reg [o 25 (.mv (t 0)), o 26 (.mv (t 6)), o 27 (.call 450 [(t 25), (t 26), (k 1)])])
 (.cond (t 27) (.exit 1)
 .skip))
 (.seq (.reg [o 28 (.mv (t 6)), o 29 (.len (t 28)), o 30 (.mv (k 0))])
 (.blk 2 (.loop 5 q45_L5_b))))))
 (.reg [o 63 (.bin .add (t 21) (k 1)), o 21 (.mv (t 63))]))))
def q45_L3_g : Sg := ⟨[0, 3, 4, 19, 20, 21], [.ptr 0 0 0, .ref 2, .i .i64, .l (cs [.l (cs [I])]), .i .i64, .i .i64], [.st [.l (cs [I]), .l (cs [.l (cs [I])]), .ref 1, .i .i64], .sq (cs [I]), .sq (cs [I])], (cs [I, .l (cs [.l (cs [I])]), I, I, .l (cs [I]), .l (cs [.l (cs [I])]), I, .l (cs [I]), .l (cs [I])])⟩
def q45_L3_o : List Out1 := [⟨.exit 0, ⟨[0, 4], [.ptr 0 0 0, .i .i64], [.st [.l (cs [I]), .l (cs [.l (cs [I])]), .ref 1, .i .i64], .sq (cs [I])], (cs [I, .l (cs [I]), .l (cs [.l (cs [I])]), I, .l (cs [I])])⟩⟩]
def q45_L3_s (lo : Lo) : Int × (List ((List Int))) × Int × Int × (List Int) × (List ((List Int))) × Int × (List Int) × (List Int) → Option ((Int × (List ((List Int))) × Int × Int × (List Int) × (List ((List Int))) × Int × (List Int) × (List Int)) ⊕ ((Int × (List Int) × (List ((List Int))) × Int × (List Int)))) := fun x => match x with
  | (best4, v19, v20, v21, s0_0, s0_1, s0_2, h1, count3) => bif (decide (v21 < v20)) then (chk (0 ≤ v21 ∧ v21 < (v19.length : Int)) (Option.bind (q43 lo (v19.getD v21.toNat []) (1 : Int) s0_0 s0_1 s0_2 h1) fun y145 => chk (y145.2.2.2.2.length = h1.length) (bif y145.1 then (some (.inl (best4, v19, v20, (IntKind.wrap .i64 (v21 + (1 : Int))), y145.2.1, y145.2.2.1, y145.2.2.2.1, y145.2.2.2.2, count3))) else (Option.bind (q45_L5 lo (best4, v19, v20, v21, (v19.getD v21.toNat []), ((v19.getD v21.toNat []).length : Int), (0 : Int), y145.2.1, y145.2.2.1, y145.2.2.2.1, y145.2.2.2.2, count3)) fun y146 => some (.inl (y146.1, y146.2.1, y146.2.2.1, (IntKind.wrap .i64 (y146.2.2.2.1 + (1 : Int))), y146.2.2.2.2.1, y146.2.2.2.2.2.1, y146.2.2.2.2.2.2.1, y146.2.2.2.2.2.2.2.1, y146.2.2.2.2.2.2.2.2)))))) else (some (.inr (best4, s0_0, s0_1, s0_2, h1)))
theorem q45_L3_e (lo : Lo) : ∀ x : Int × (List ((List Int))) × Int × Int × (List Int) × (List ((List Int))) × Int × (List Int) × (List Int), stepL (⟨pf, fs45 lo, [q45_L5_p lo], 2⟩ : Tabs) [] q45_L3_g q45_L3_o q45_L3_b x = q45_L3_s lo x := fun x => by kernel_rfl
def q45_L3 (lo : Lo) : Int × (List ((List Int))) × Int × Int × (List Int) × (List ((List Int))) × Int × (List Int) × (List Int) → Option ((Int × (List Int) × (List ((List Int))) × Int × (List Int))) := lo.run (q45_L3_s lo)
def q45_L3_p (lo : Lo) : LpE := ⟨3, [], q45_L3_g, q45_L3_o, q45_L3 lo⟩
theorem q45_L3_k {lo : Lo} (hlo : LoOK lo) (C : Ctx) (hT : TOK (⟨pf, fs45 lo, [q45_L5_p lo], 2⟩ : Tabs) C) {Fr : Nat → Prop} {H0 : Heap} (hf : FrOK Fr H0) : LpSound Fr H0 2 C (.loop q45_L3_b.er) (q45_L3_p lo) :=
  loop_sound (T := (⟨pf, fs45 lo, [q45_L5_p lo], 2⟩ : Tabs)) hT hf (show LsOK Fr H0 C (⟨pf, fs45 lo, [q45_L5_p lo], 2⟩ : Tabs) q45_L3_b from ⟨trivial, ⟨⟨trivial, trivial⟩, ⟨⟨trivial, ⟨⟨trivial, ⟨trivial, trivial⟩⟩, ⟨trivial, (lsGet (by kernel_rfl) (q45_L5_k hlo C (tok_ls hT) hf))⟩⟩⟩, trivial⟩⟩⟩) (fun x y h => loopO_congr (q45_L3_e lo) (hlo _ _ _ h))
def q45 (lo : Lo) (s0_0 : List Int) (s0_1 : List ((List Int))) (s0_2 : Int) (h1 : List Int) : Option (Int × (List Int) × (List ((List Int))) × Int × (List Int)) :=
  chk (0 ≤ (h1.length : Int) ∧ (h1.length : Int) ≤ (h1.length : Int) ∧ (h1.length : Int) ≤ (maxEl : Nat)) (Option.bind (q45_L3 lo ((-1 : Int), s0_1, (s0_1.length : Int), (0 : Int), s0_0, s0_1, s0_2, h1, (List.replicate (h1.length : Int).toNat (0 : Int)))) fun y147 => some (y147.1, y147.2.1, y147.2.2.1, y147.2.2.2.1, y147.2.2.2.2))
def q45_c : VCode :=
 (.seq (.reg [o 2 (.mv (k 0))])
 (.seq (.reg [o 9 (.mv (t 0)), o 10 (.nilc (t 9)), o 11 (.fad 2 (t 10)), o 12 (.load false 1 (t 11)), o 13 (.len (t 12)), o 14 (.mksl (cs [I]) 0 (t 13) (t 13)), o 3 (.mv (t 14))])
 (.seq (.reg [o 4 (.mv (k (-1)))])
 (.seq (.seq (.reg [o 15 (.mv (t 0)), o 16 (.nilc (t 15)), o 17 (.fad 0 (t 16)), o 18 (.fad 1 (t 17)), o 19 (.load false 1 (t 18)), o 20 (.len (t 19)), o 21 (.mv (k 0))])
 (.blk 0 (.loop 3 q45_L3_b)))
 (.seq (.reg [o 64 (.mv (t 4)), o 2 (.mv (t 64))])
 .ret)))))
def q45_F : VFn := ⟨true, 65, [.t 2], q45_c⟩
def q45_f (lo : Lo) : FnE := ⟨445, false, ⟨[0], [.ptr 0 0 0], [.st [.l (cs [I]), .l (cs [.l (cs [I])]), .ref 1, .i .i64], .sq (cs [I])], (cs [.l (cs [I]), .l (cs [.l (cs [I])]), I, .l (cs [I])])⟩, .i .i64, [.st [.l (cs [I]), .l (cs [.l (cs [I])]), .ref 1, .i .i64], .sq (cs [I])], (cs [I, .l (cs [I]), .l (cs [.l (cs [I])]), I, .l (cs [I])]), (fun x => q45 lo x.1 x.2.1 x.2.2.1 x.2.2.2 : (List Int) × (List ((List Int))) × Int × (List Int) → Option (Int × (List Int) × (List ((List Int))) × Int × (List Int)))⟩
theorem q45_e (lo : Lo) : ∀ x : (List Int) × (List ((List Int))) × Int × (List Int), evI (⟨pf, fs45 lo, [q45_L3_p lo, q45_L5_p lo], 2⟩ : Tabs) q45_F ⟨[0], [.ptr 0 0 0], [.st [.l (cs [I]), .l (cs [.l (cs [I])]), .ref 1, .i .i64], .sq (cs [I])], (cs [.l (cs [I]), .l (cs [.l (cs [I])]), I, .l (cs [I])])⟩ (.i .i64) [.st [.l (cs [I]), .l (cs [.l (cs [I])]), .ref 1, .i .i64], .sq (cs [I])] (cs [I, .l (cs [I]), .l (cs [.l (cs [I])]), I, .l (cs [I])]) x = q45 lo x.1 x.2.1 x.2.2.1 x.2.2.2 := fun x => by kernel_rfl
theorem q45_S {P : Program} {fm : FM} {lo : Lo} (hlo : LoOK lo) (hS : Sound P fm ⟨pf, fs45 lo, [], 0⟩) (hm : P.follows .mixedOrders = true) (htie : ∀ f, fm f = 445 → fnTr P fm pf f = some (q45_F.slots, q45_F.res, q45_F.code.er)) : Sound P fm ⟨pf, q45_f lo :: fs45 lo, [], 0⟩ :=
  fnI_sound hS hm [q45_L3_p lo, q45_L5_p lo] (q45_f lo) rfl q45_F htie (by decide) rfl (Nat.le_of_ble_eq_true (by kernel_rfl)) (fun C hT Fr H0 hf => show LsOK Fr H0 C (⟨pf, fs45 lo, [q45_L3_p lo, q45_L5_p lo], 2⟩ : Tabs) q45_c from ⟨trivial, ⟨trivial, ⟨trivial, ⟨⟨trivial, (lsGet (by kernel_rfl) (q45_L3_k hlo C (tok_ls hT) hf))⟩, ⟨trivial, trivial⟩⟩⟩⟩⟩) (fun x y h => (q45_e lo x).trans h)
def fs46 (lo : Lo) : List FnE := q45_f lo :: fs45 lo
def q46_q (F : Int × (List Int) × (List ((List Int))) × Int × (List Int) × Int × (List Int) → Option (Bool × (List Int) × (List ((List Int))) × Int × (List Int) × Int × (List Int))) : FnE := ⟨430, false, ⟨[0, 1, 2], [.ptr 0 0 0, .ptr 1 0 0, .i .i64], [.st [.l (cs [I]), .l (cs [.l (cs [I])]), .ref 2, .i .i64], .st [.l (cs [I]), .i .i64], .sq (cs [I])], (cs [I, .l (cs [I]), .l (cs [.l (cs [I])]), I, .l (cs [I]), I, .l (cs [I])])⟩, .b, [.st [.l (cs [I]), .l (cs [.l (cs [I])]), .ref 2, .i .i64], .st [.l (cs [I]), .i .i64], .sq (cs [I])], (cs [.b, .l (cs [I]), .l (cs [.l (cs [I])]), I, .l (cs [I]), I, .l (cs [I])]), F⟩
def q46_L10_b : VCode :=
 (.seq (.reg [o 48 (.bin .lss (t 47) (t 46))])
 (.seq (.cond (t 48) .skip
 (.exit 0))
 (.seq (.blk 1 (.seq (.reg [o 49 (.mv (t 47)), o 50 (.iad 1 (t 45) (t 47)), o 51 (.load false 1 (t 50)), o 10 (.mv (t 49)), o 11 (.mv (t 51))])
 (.seq (.reg [o 52 (.mv (t 11)), o 53 (.bin .eql (t 52) (k 1))])
 (.cond (t 53) (.reg [o 54 (.mv (t 1)), o 55 (.mv (t 1)), o 56 (.nilc (t 55)), o 57 (.fad 0 (t 56)), o 58 (.load false 1 (t 57)), o 59 (.mv (t 10)), o 60 (.bsl (cs [I]) 1 [(0, (t 59))]), o 61 (.app (cs [I]) 0 (t 58) (t 60)), o 62 (.nilc (t 54)), o 63 (.fad 0 (t 62)), on (.store 1 (t 63) (t 61))])
 .skip))))
 (.reg [o 64 (.bin .add (t 47) (k 1)), o 47 (.mv (t 64))]))))
def q46_L10_g : Sg := ⟨[0, 1, 45, 46, 47], [.ptr 0 0 0, .ptr 1 0 0, .ref 2, .i .i64, .i .i64], [.st [.l (cs [I]), .l (cs [.l (cs [I])]), .ref 2, .i .i64], .st [.ref 3, .i .i64], .sq (cs [I]), .sq (cs [I])], (cs [I, I, .l (cs [I]), .l (cs [.l (cs [I])]), I, I, .l (cs [I]), .l (cs [I])])⟩
def q46_L10_o : List Out1 := [⟨.exit 0, ⟨[0, 1], [.ptr 0 0 0, .ptr 1 0 0], [.st [.l (cs [I]), .l (cs [.l (cs [I])]), .ref 2, .i .i64], .st [.ref 3, .i .i64], .sq (cs [I]), .sq (cs [I])], (cs [.l (cs [I]), .l (cs [.l (cs [I])]), I, I, .l (cs [I]), .l (cs [I])])⟩⟩]
def q46_L10_s (lo : Lo) (rec : Int × (List Int) × (List ((List Int))) × Int × (List Int) × Int × (List Int) → Option (Bool × (List Int) × (List ((List Int))) × Int × (List Int) × Int × (List Int))) : Int × Int × (List Int) × (List ((List Int))) × Int × Int × (List Int) × (List Int) → Option ((Int × Int × (List Int) × (List ((List Int))) × Int × Int × (List Int) × (List Int)) ⊕ (((List Int) × (List ((List Int))) × Int × Int × (List Int) × (List Int)))) := fun x => match x with
  | (v46, v47, s0_0, s0_1, s0_2, b1, v45, h3) => bif (decide (v47 < v46)) then (chk (0 ≤ v47 ∧ v47 < (v45.length : Int)) (bif (decide (v45.getD v47.toNat (0 : Int) = (1 : Int))) then (chk (h3.length + [v47].length ≤ maxEl) (some (.inl (v46, (IntKind.wrap .i64 (v47 + (1 : Int))), s0_0, s0_1, s0_2, b1, v45, (h3 ++ [v47]))))) else (some (.inl (v46, (IntKind.wrap .i64 (v47 + (1 : Int))), s0_0, s0_1, s0_2, b1, v45, h3))))) else (some (.inr (s0_0, s0_1, s0_2, b1, v45, h3)))
theorem q46_L10_e (lo : Lo) (rec : Int × (List Int) × (List ((List Int))) × Int × (List Int) × Int × (List Int) → Option (Bool × (List Int) × (List ((List Int))) × Int × (List Int) × Int × (List Int))) : ∀ x : Int × Int × (List Int) × (List ((List Int))) × Int × Int × (List Int) × (List Int), stepL (⟨pf, q46_q rec :: fs46 lo, [], 3⟩ : Tabs) [(1, some 0, false)] q46_L10_g q46_L10_o q46_L10_b x = q46_L10_s lo rec x := fun x => by kernel_rfl
def q46_L10 (lo : Lo) (rec : Int × (List Int) × (List ((List Int))) × Int × (List Int) × Int × (List Int) → Option (Bool × (List Int) × (List ((List Int))) × Int × (List Int) × Int × (List Int))) : Int × Int × (List Int) × (List ((List Int))) × Int × Int × (List Int) × (List Int) → Option (((List Int) × (List ((List Int))) × Int × Int × (List Int) × (List Int))) := lo.run (q46_L10_s lo rec)
def q46_L10_p (lo : Lo) (rec : Int × (List Int) × (List ((List Int))) × Int × (List Int) × Int × (List Int) → Option (Bool × (List Int) × (List ((List Int))) × Int × (List Int) × Int × (List Int))) : LpE := ⟨10, [(1, some 0, false)], q46_L10_g, q46_L10_o, q46_L10 lo rec⟩
theorem q46_L10_k {lo : Lo} (hlo : LoOK lo) (rec : Int × (List Int) × (List ((List Int))) × Int × (List Int) × Int × (List Int) → Option (Bool × (List Int) × (List ((List Int))) × Int × (List Int) × Int × (List Int))) (C : Ctx) (hT : TOK (⟨pf, q46_q rec :: fs46 lo, [], 3⟩ : Tabs) C) {Fr : Nat → Prop} {H0 : Heap} (hf : FrOK Fr H0) : LpSound Fr H0 3 C (.loop q46_L10_b.er) (q46_L10_p lo rec) :=
  loop_sound (T := (⟨pf, q46_q rec :: fs46 lo, [], 3⟩ : Tabs)) hT hf (show LsOK Fr H0 C (⟨pf, q46_q rec :: fs46 lo, [], 3⟩ : Tabs) q46_L10_b from ⟨trivial, ⟨⟨trivial, trivial⟩, ⟨⟨trivial, ⟨trivial, ⟨trivial, trivial⟩⟩⟩, trivial⟩⟩⟩) (fun x y h => loopO_congr (q46_L10_e lo rec) (hlo _ _ _ h))
def q46_r (lo : Lo) (rec : Int × (List Int) × (List ((List Int))) × Int × (List Int) × Int × (List Int) → Option (Bool × (List Int) × (List ((List Int))) × Int × (List Int) × Int × (List Int))) (weight2 : Int) (s0_0 : List Int) (s0_1 : List ((List Int))) (s0_2 : Int) (b1_0 : List Int) (b1_1 : Int) (h2 : List Int) : Option (Bool × (List Int) × (List ((List Int))) × Int × (List Int) × Int × (List Int)) :=
  Option.bind (q30 lo s0_0 s0_1 s0_2 h2) fun y150 => chk (y150.2.2.2.2.length = h2.length) (bif (!y150.1) then (some (false, y150.2.1, y150.2.2.1, y150.2.2.2.1, b1_0, b1_1, y150.2.2.2.2)) else (Option.bind (q38 lo y150.2.1 y150.2.2.1 y150.2.2.2.1 y150.2.2.2.2) fun y151 => chk (y151.2.2.2.2.length = y150.2.2.2.2.length) (bif y151.1 then (some (true, y151.2.1, y151.2.2.1, y151.2.2.2.1, b1_0, b1_1, y151.2.2.2.2)) else (Option.bind (q44 lo y151.2.1 y151.2.2.1 y151.2.2.2.1 y151.2.2.2.2) fun y152 => chk (y152.2.2.2.2.1.length = y151.2.2.2.2.length) (bif (decide (b1_1 ≤ (IntKind.wrap .i64 (weight2 + y152.1)))) then (some (true, y152.2.1, y152.2.2.1, y152.2.2.2.1, b1_0, b1_1, y152.2.2.2.2.1)) else (Option.bind (q45 lo y152.2.1 y152.2.2.1 y152.2.2.2.1 y152.2.2.2.2.1) fun y153 => chk (y153.2.2.2.2.length = y152.2.2.2.2.1.length) (bif (decide (y153.1 < (0 : Int))) then (Option.bind (q46_L10 lo rec ((y153.2.2.2.2.length : Int), (0 : Int), y153.2.1, y153.2.2.1, y153.2.2.2.1, weight2, y153.2.2.2.2, [])) fun y154 => some (true, y154.1, y154.2.1, y154.2.2.1, y154.2.2.2.2.2, y154.2.2.2.1, y154.2.2.2.2.1)) else (chk (0 ≤ y153.1 ∧ y153.1 < (y153.2.2.2.2.length : Int)) (chk (0 ≤ y153.1 ∧ y153.1 < (y153.2.1.length : Int)) (Option.bind (rec ((IntKind.wrap .i64 (weight2 + (y153.2.1.getD y153.1.toNat (0 : Int)))), y153.2.1, y153.2.2.1, y153.2.2.2.1, b1_0, b1_1, (y153.2.2.2.2.set y153.1.toNat (1 : Int)))) fun y155 => chk (y155.2.2.2.2.2.2.length = (y153.2.2.2.2.set y153.1.toNat (1 : Int)).length) (chk (0 ≤ y153.1 ∧ y153.1 < (y155.2.2.2.2.2.2.length : Int)) (bif y155.1 then (Option.bind (rec (weight2, y155.2.1, y155.2.2.1, y155.2.2.2.1, y155.2.2.2.2.1, y155.2.2.2.2.2.1, (y155.2.2.2.2.2.2.set y153.1.toNat (2 : Int)))) fun y156 => chk (y156.2.2.2.2.2.2.length = (y155.2.2.2.2.2.2.set y153.1.toNat (2 : Int)).length) (chk (0 ≤ y153.1 ∧ y153.1 < (y156.2.2.2.2.2.2.length : Int)) (some (y156.1, y156.2.1, y156.2.2.1, y156.2.2.2.1, y156.2.2.2.2.1, y156.2.2.2.2.2.1, (y156.2.2.2.2.2.2.set y153.1.toNat (0 : Int)))))) else (chk (0 ≤ y153.1 ∧ y153.1 < ((y155.2.2.2.2.2.2.set y153.1.toNat (2 : Int)).length : Int)) (some (false, y155.2.1, y155.2.2.1, y155.2.2.2.1, y155.2.2.2.2.1, y155.2.2.2.2.2.1, ((y155.2.2.2.2.2.2.set y153.1.toNat (2 : Int)).set y153.1.toNat (0 : Int)))))))))))))))))
def q46_n (lo : Lo) : Nat → Int × (List Int) × (List ((List Int))) × Int × (List Int) × Int × (List Int) → Option (Bool × (List Int) × (List ((List Int))) × Int × (List Int) × Int × (List Int))
  | 0, _ => none
  | n + 1, x => q46_r lo (q46_n lo n) x.1 x.2.1 x.2.2.1 x.2.2.2.1 x.2.2.2.2.1 x.2.2.2.2.2.1 x.2.2.2.2.2.2
def q46 (lo : Lo) (weight2 : Int) (s0_0 : List Int) (s0_1 : List ((List Int))) (s0_2 : Int) (b1_0 : List Int) (b1_1 : Int) (h2 : List Int) : Option (Bool × (List Int) × (List ((List Int))) × Int × (List Int) × Int × (List Int)) := lo.run (fixS (q46_n lo)) (0, (weight2, s0_0, s0_1, s0_2, b1_0, b1_1, h2))
def q46_c : VCode :=
 (.seq (.reg [o 6 (.mv (kb false))])
 (.seq (.seq (.reg [o 13 (.mv (t 0)), o 14 (.call 443 [(t 13)]), o 15 (.not (t 14))])
 (.cond (t 15) (.seq (.reg [o 6 (.mv (kb false))])
 (.fz [1] .ret))
 .skip))
 (.seq (.seq (.reg [o 16 (.mv (t 0)), o 17 (.call 444 [(t 16)])])
 (.cond (t 17) (.seq (.reg [o 6 (.mv (kb true))])
 (.fz [1] .ret))
 .skip))
 (.seq (.seq (.reg [o 19 (.mv (t 0)), o 20 (.call 438 [(t 19)]), o 18 (.mv (t 20)), o 21 (.ext (t 18) 0), o 22 (.ext (t 18) 1), o 7 (.mv (t 21)), o 8 (.mv (t 22))])
 (.seq (.reg [o 23 (.mv (t 2)), o 24 (.mv (t 8)), o 25 (.bin .add (t 23) (t 24)), o 26 (.mv (t 1)), o 27 (.nilc (t 26)), o 28 (.fad 1 (t 27)), o 29 (.load false 1 (t 28)), o 30 (.bin .geq (t 25) (t 29))])
 (.cond (t 30) (.seq (.reg [o 6 (.mv (kb true))])
 (.fz [1] .ret))
 .skip)))
 (.seq (.reg [o 31 (.mv (t 0)), o 32 (.call 445 [(t 31)]), o 9 (.mv (t 32))])
 (.seq (.seq (.reg [o 33 (.mv (t 9)), o 34 (.bin .lss (t 33) (k 0))])
 (.cond (t 34) (.seq (.reg [o 35 (.mv (t 1)), o 36 (.mv (t 1)), o 37 (.mv (t 2)), o 38 (.nilc (t 35)), o 39 (.fad 0 (t 38)), on (.store 1 (t 39) (ke (cs [I]))), o 40 (.nilc (t 36)), o 41 (.fad 1 (t 40)), on (.store 1 (t 41) (t 37))])
 (.seq (.seq (.reg [o 42 (.mv (t 0)), o 43 (.nilc (t 42)), o 44 (.fad 2 (t 43)), o 45 (.load false 1 (t 44)), o 46 (.len (t 45)), o 47 (.mv (k 0))])
 (.blk 0 (.loop 10 q46_L10_b)))
 (.seq (.reg [o 6 (.mv (kb true))])
 (.fz [1] .ret))))
 .skip))
 (.seq (.reg [o 65 (.mv (t 0)), o 66 (.nilc (t 65)), o 67 (.fad 2 (t 66)), o 68 (.load false 1 (t 67)), o 69 (.mv (t 9)), o 70 (.iad 1 (t 68) (t 69)), on (.store 1 (t 70) (k 1))])
 (.seq (.reg [o 71 (.mv (t 0)), o 72 (.mv (t 1)), o 73 (.mv (t 2)), o 74 (.mv (t 0)), o 75 (.nilc (t 74)), o 76 (.fad 0 (t 75)), o 77 (.fad 0 (t 76)), o 78 (.load false 1 (t 77)), o 79 (.mv (t 9)), o 80 (.iad 1 (t 78) (t 79)), o 81 (.load false 1 (t 80)), o 82 (.bin .add (t 73) (t 81)), o 83 (.call 430 [(t 71), (t 72), (t 82)]), o 12 (.mv (t 83))])
 (.seq (.reg [o 84 (.mv (t 0)), o 85 (.nilc (t 84)), o 86 (.fad 2 (t 85)), o 87 (.load false 1 (t 86)), o 88 (.mv (t 9)), o 89 (.iad 1 (t 87) (t 88)), on (.store 1 (t 89) (k 2))])
 (.seq (.reg [o 90 (.mv (t 12)), o 91 (.mv (t 90)), og 92 91 true (.mv (t 0)), og 93 91 true (.mv (t 1)), og 94 91 true (.mv (t 2)), og 95 91 true (.call 430 [(t 92), (t 93), (t 94)]), o 96 (.pick (t 91) (t 95) (kb false)), o 12 (.mv (t 96))])
 (.seq (.reg [o 97 (.mv (t 0)), o 98 (.nilc (t 97)), o 99 (.fad 2 (t 98)), o 100 (.load false 1 (t 99)), o 101 (.mv (t 9)), o 102 (.iad 1 (t 100) (t 101)), on (.store 1 (t 102) (k 0))])
 (.seq (.reg [o 103 (.mv (t 12)), o 6 (.mv (t 103))])
 (.fz [1] .ret)))))))))))))
def q46_F : VFn := ⟨true, 104, [.t 6], q46_c⟩
def q46_f (lo : Lo) : FnE := ⟨430, false, ⟨[0, 1, 2], [.ptr 0 0 0, .ptr 1 0 0, .i .i64], [.st [.l (cs [I]), .l (cs [.l (cs [I])]), .ref 2, .i .i64], .st [.l (cs [I]), .i .i64], .sq (cs [I])], (cs [I, .l (cs [I]), .l (cs [.l (cs [I])]), I, .l (cs [I]), I, .l (cs [I])])⟩, .b, [.st [.l (cs [I]), .l (cs [.l (cs [I])]), .ref 2, .i .i64], .st [.l (cs [I]), .i .i64], .sq (cs [I])], (cs [.b, .l (cs [I]), .l (cs [.l (cs [I])]), I, .l (cs [I]), I, .l (cs [I])]), (fun x => q46 lo x.1 x.2.1 x.2.2.1 x.2.2.2.1 x.2.2.2.2.1 x.2.2.2.2.2.1 x.2.2.2.2.2.2 : Int × (List Int) × (List ((List Int))) × Int × (List Int) × Int × (List Int) → Option (Bool × (List Int) × (List ((List Int))) × Int × (List Int) × Int × (List Int)))⟩
theorem q46_e (lo : Lo) (rec : Int × (List Int) × (List ((List Int))) × Int × (List Int) × Int × (List Int) → Option (Bool × (List Int) × (List ((List Int))) × Int × (List Int) × Int × (List Int))) : ∀ x : Int × (List Int) × (List ((List Int))) × Int × (List Int) × Int × (List Int), evI (⟨pf, q46_q rec :: fs46 lo, [q46_L10_p lo rec], 3⟩ : Tabs) q46_F ⟨[0, 1, 2], [.ptr 0 0 0, .ptr 1 0 0, .i .i64], [.st [.l (cs [I]), .l (cs [.l (cs [I])]), .ref 2, .i .i64], .st [.l (cs [I]), .i .i64], .sq (cs [I])], (cs [I, .l (cs [I]), .l (cs [.l (cs [I])]), I, .l (cs [I]), I, .l (cs [I])])⟩ (.b) [.st [.l (cs [I]), .l (cs [.l (cs [I])]), .ref 2, .i .i64], .st [.l (cs [I]), .i .i64], .sq (cs [I])] (cs [.b, .l (cs [I]), .l (cs [.l (cs [I])]), I, .l (cs [I]), I, .l (cs [I])]) x = q46_r lo rec x.1 x.2.1 x.2.2.1 x.2.2.2.1 x.2.2.2.2.1 x.2.2.2.2.2.1 x.2.2.2.2.2.2 := fun x => by kernel_rfl
theorem q46_S {P : Program} {fm : FM} {lo : Lo} (hlo : LoOK lo) (hS : Sound P fm ⟨pf, fs46 lo, [], 0⟩) (hm : P.follows .mixedOrders = true) (htie : ∀ f, fm f = 430 → fnTr P fm pf f = some (q46_F.slots, q46_F.res, q46_F.code.er)) : Sound P fm ⟨pf, q46_f lo :: fs46 lo, [], 0⟩ :=
  fnI_rec hS hm (q46_f lo) rfl (q46_n lo) (fun n => (fun (rec : Int × (List Int) × (List ((List Int))) × Int × (List Int) × Int × (List Int) → Option (Bool × (List Int) × (List ((List Int))) × Int × (List Int) × Int × (List Int))) => ([q46_L10_p lo rec] : List LpE)) (q46_n lo n)) q46_F htie (by decide) rfl (Nat.le_of_ble_eq_true (by kernel_rfl)) (fun _ => rfl) (fun x y h => fix_lim (hlo _ _ _ h))
    (fun n C hT Fr H0 hf => (fun (rec : Int × (List Int) × (List ((List Int))) × Int × (List Int) × Int × (List Int) → Option (Bool × (List Int) × (List ((List Int))) × Int × (List Int) × Int × (List Int))) (hT : TOK (⟨pf, q46_q rec :: fs46 lo, [q46_L10_p lo rec], 3⟩ : Tabs) C) => show LsOK Fr H0 C (⟨pf, q46_q rec :: fs46 lo, [q46_L10_p lo rec], 3⟩ : Tabs) q46_c from ⟨trivial, ⟨⟨trivial, ⟨⟨trivial, trivial⟩, trivial⟩⟩, ⟨⟨trivial, ⟨⟨trivial, trivial⟩, trivial⟩⟩, ⟨⟨trivial, ⟨trivial, ⟨⟨trivial, trivial⟩, trivial⟩⟩⟩, ⟨trivial, ⟨⟨trivial, ⟨⟨trivial, ⟨⟨trivial, (lsGet (by kernel_rfl) (q46_L10_k hlo rec C (tok_ls hT) hf))⟩, ⟨trivial, trivial⟩⟩⟩, trivial⟩⟩, ⟨trivial, ⟨trivial, ⟨trivial, ⟨trivial, ⟨trivial, ⟨trivial, trivial⟩⟩⟩⟩⟩⟩⟩⟩⟩⟩⟩⟩) (q46_n lo n) hT) (fun n x y h => (q46_e lo (q46_n lo n) x).trans h)
def fs47 (lo : Lo) : List FnE := q46_f lo :: fs46 lo
def q47 (lo : Lo) (in0_0 : List Int) (in0_1 : List ((List Int))) (budget1 : Int) : Option ((List Int) × Int × Int) :=
  Option.bind (q25 lo in0_0 in0_1) fun y105 => bif (!decide (y105.2 = (0 : Int))) then (some (([] : List Int), (0 : Int), y105.2)) else (bif (decide (budget1 < (1 : Int))) then (some (([] : List Int), (0 : Int), (1 : Int))) else (Option.bind (q28 lo in0_0 in0_1 y105.1) fun y115 => Option.bind (q29 lo in0_0 in0_1 budget1) fun y116 => Option.bind (q46 lo (0 : Int) y116.1 y116.2.1 y116.2.2.1 y105.1 y115.1 y116.2.2.2) fun y157 => chk (y157.2.2.2.2.2.2.length = y116.2.2.2.length) (bif (!y157.1) then (some (([] : List Int), (0 : Int), (13 : Int))) else (some (y157.2.2.2.2.1, y157.2.2.2.2.2.1, (0 : Int))))))
def q47_c : VCode :=
 (.seq (.reg [o 2 (.box (t 0)), o 4 (.mv (ke (cs [I]))), o 5 (.mv (k 0)), o 6 (.mv (k 0))])
 (.seq (.reg [o 13 (.load true 2 (t 2)), o 14 (.call 404 [(t 13)]), o 12 (.mv (t 14)), o 15 (.ext (t 12) 0), o 16 (.ext (t 12) 1), o 7 (.mv (t 15)), o 8 (.mv (t 16))])
 (.seq (.seq (.reg [o 17 (.mv (t 8)), o 18 (.bin .neq (t 17) (k 0))])
 (.cond (t 18) (.seq (.reg [o 19 (.mv (t 8)), o 4 (.mv (ke (cs [I]))), o 5 (.mv (k 0)), o 6 (.mv (t 19))])
 (.fz [4, 5, 6] .ret))
 .skip))
 (.seq (.seq (.reg [o 20 (.mv (t 1)), o 21 (.bin .lss (t 20) (k 1))])
 (.cond (t 21) (.seq (.reg [o 4 (.mv (ke (cs [I]))), o 5 (.mv (k 0)), o 6 (.mv (k 1))])
 (.fz [4, 5, 6] .ret))
 .skip))
 (.seq (.reg [o 23 (.load true 2 (t 2)), o 24 (.mv (t 7)), o 25 (.call 413 [(t 23), (t 24)]), o 22 (.mv (t 25)), o 26 (.ext (t 22) 0), o 27 (.ext (t 22) 1), o 9 (.mv (t 26)), o 10 (.mv (t 27))])
 (.seq (.reg [o 28 (.mv (t 7)), o 29 (.mv (t 9)), o 30 (.build [.e (cs [I]), .i .i64 0] [(0, 1, (t 28)), (1, 1, (t 29))]), o 31 (.box (t 30)), o 11 (.mv (t 31))])
 (.seq (.seq (.reg [o 32 (.load true 2 (t 2)), o 33 (.mv (t 1)), o 34 (.call 429 [(t 32), (t 33)]), o 35 (.mv (t 11)), o 36 (.call 430 [(t 34), (t 35), (k 0)]), o 37 (.not (t 36))])
 (.cond (t 37) (.seq (.reg [o 4 (.mv (ke (cs [I]))), o 5 (.mv (k 0)), o 6 (.mv (k 13))])
 (.fz [4, 5, 6] .ret))
 .skip))
 (.seq (.reg [o 38 (.mv (t 11)), o 39 (.nilc (t 38)), o 40 (.fad 0 (t 39)), o 41 (.load false 1 (t 40)), o 42 (.mv (t 11)), o 43 (.nilc (t 42)), o 44 (.fad 1 (t 43)), o 45 (.load false 1 (t 44)), o 4 (.mv (t 41)), o 5 (.mv (t 45)), o 6 (.mv (k 0))])
 (.fz [4, 5, 6] .ret)))))))))
def q47_F : VFn := ⟨true, 46, [.t 4, .t 5, .t 6], q47_c⟩
def q47_f (lo : Lo) : FnE := ⟨409, true, ⟨[0, 1], [.ag [.l (cs [I]), .l (cs [.l (cs [I])])], .i .i64], [], (cs [.l (cs [I]), .l (cs [.l (cs [I])]), I])⟩, .tp [.l (cs [I]), .i .i64, .i .i64], [], (cs [.l (cs [I]), I, I]), (fun x => q47 lo x.1 x.2.1 x.2.2 : (List Int) × (List ((List Int))) × Int → Option ((List Int) × Int × Int))⟩
theorem q47_e (lo : Lo) : ∀ x : (List Int) × (List ((List Int))) × Int, evP (⟨pf, fs47 lo, [], 0⟩ : Tabs) q47_F ⟨[0, 1], [.ag [.l (cs [I]), .l (cs [.l (cs [I])])], .i .i64], [], (cs [.l (cs [I]), .l (cs [.l (cs [I])]), I])⟩ (.tp [.l (cs [I]), .i .i64, .i .i64]) (cs [.l (cs [I]), I, I]) x = q47 lo x.1 x.2.1 x.2.2 := fun x => by kernel_rfl
theorem q47_S {P : Program} {fm : FM} {lo : Lo} (hlo : LoOK lo) (hS : Sound P fm ⟨pf, fs47 lo, [], 0⟩) (hm : P.follows .mixedOrders = true) (htie : ∀ f, fm f = 409 → fnTr P fm pf f = some (q47_F.slots, q47_F.res, q47_F.code.er)) : Sound P fm ⟨pf, q47_f lo :: fs47 lo, [], 0⟩ :=
  fn_sound hS hm [] (q47_f lo) rfl q47_F htie (by decide) rfl (Nat.le_of_ble_eq_true (by kernel_rfl)) (fun C hT => show LsOK (fun _ => False) [] C (⟨pf, fs47 lo, [], 0⟩ : Tabs) q47_c from ⟨trivial, ⟨trivial, ⟨⟨trivial, ⟨⟨trivial, trivial⟩, trivial⟩⟩, ⟨⟨trivial, ⟨⟨trivial, trivial⟩, trivial⟩⟩, ⟨trivial, ⟨trivial, ⟨⟨trivial, ⟨⟨trivial, trivial⟩, trivial⟩⟩, ⟨trivial, trivial⟩⟩⟩⟩⟩⟩⟩⟩) (fun x y h => (q47_e lo x).trans h)
def fs48 (lo : Lo) : List FnE := q47_f lo :: fs47 lo
def q48_L3_b : VCode :=
 (.seq (.reg [o 14 (.bin .lss (t 13) (t 12))])
 (.seq (.cond (t 14) .skip
 (.exit 0))
 (.seq (.blk 1 (.seq (.reg [o 15 (.mv (t 13)), o 5 (.mv (t 15))])
 (.seq (.reg [o 16 (.mv (t 0)), o 17 (.mv (t 5)), o 18 (.iad 1 (t 16) (t 17)), o 19 (.load false 1 (t 18)), o 20 (.mv (t 1)), o 21 (.mv (t 5)), o 22 (.iad 1 (t 20) (t 21)), o 23 (.load false 1 (t 22)), o 24 (.bin .neq (t 19) (t 23))])
 (.cond (t 24) (.seq (.reg [o 4 (.mv (kb false))])
 (.fz [4] .ret))
 .skip))))
 (.reg [o 25 (.bin .add (t 13) (k 1)), o 13 (.mv (t 25))]))))
def q48_L3_g : Sg := ⟨[0, 1, 12, 13], [.l (cs [I]), .l (cs [I]), .i .i64, .i .i64], [], (cs [.l (cs [I]), .l (cs [I]), I, I])⟩
def q48_L3_o : List Out1 := [⟨.ret, ⟨[4], [.b], [], (cs [.b])⟩⟩, ⟨.exit 0, ⟨[], [], [], (cs [])⟩⟩]
def q48_L3_s (lo : Lo) : (List Int) × (List Int) × Int × Int → Option (((List Int) × (List Int) × Int × Int) ⊕ (Bool ⊕ Unit)) := fun x => match x with
  | (s10, s21, v12, v13) => bif (decide (v13 < v12)) then (chk (0 ≤ v13 ∧ v13 < (s10.length : Int)) (chk (0 ≤ v13 ∧ v13 < (s21.length : Int)) (bif (!decide ((s10.getD v13.toNat (0 : Int)) = (s21.getD v13.toNat (0 : Int)))) then (some (.inr (.inl false))) else (some (.inl (s10, s21, v12, (IntKind.wrap .i64 (v13 + (1 : Int))))))))) else (some (.inr (.inr ())))
theorem q48_L3_e (lo : Lo) : ∀ x : (List Int) × (List Int) × Int × Int, stepL (⟨pf, fs48 lo, [], 0⟩ : Tabs) [] q48_L3_g q48_L3_o q48_L3_b x = q48_L3_s lo x := fun x => by kernel_rfl
def q48_L3 (lo : Lo) : (List Int) × (List Int) × Int × Int → Option (Bool ⊕ Unit) := lo.run (q48_L3_s lo)
def q48_L3_p (lo : Lo) : LpE := ⟨3, [], q48_L3_g, q48_L3_o, q48_L3 lo⟩
theorem q48_L3_k {lo : Lo} (hlo : LoOK lo) (C : Ctx) (hT : TOK (⟨pf, fs48 lo, [], 0⟩ : Tabs) C) : LpSound (fun _ => False) [] 0 C (.loop q48_L3_b.er) (q48_L3_p lo) :=
  loop_sound (T := (⟨pf, fs48 lo, [], 0⟩ : Tabs)) hT frNo (show LsOK (fun _ => False) [] C (⟨pf, fs48 lo, [], 0⟩ : Tabs) q48_L3_b from ⟨trivial, ⟨⟨trivial, trivial⟩, ⟨⟨trivial, ⟨trivial, ⟨⟨trivial, trivial⟩, trivial⟩⟩⟩, trivial⟩⟩⟩) (fun x y h => loopO_congr (q48_L3_e lo) (hlo _ _ _ h))
def q48 (lo : Lo) (s10 : List Int) (s21 : List Int) : Option Bool :=
  bif (!decide ((s10.length : Int) = (s21.length : Int))) then (some false) else (Option.bind (q48_L3 lo (s10, s21, (s10.length : Int), (0 : Int))) fun y159 => alt2 y159 (fun y160 => some y160) (fun y161 => some true))
def q48_c : VCode :=
 (.seq (.reg [o 4 (.mv (kb false))])
 (.seq (.seq (.reg [o 6 (.mv (t 0)), o 7 (.len (t 6)), o 8 (.mv (t 1)), o 9 (.len (t 8)), o 10 (.bin .neq (t 7) (t 9))])
 (.cond (t 10) (.seq (.reg [o 4 (.mv (kb false))])
 (.fz [4] .ret))
 .skip))
 (.seq (.seq (.reg [o 11 (.mv (t 0)), o 12 (.len (t 11)), o 13 (.mv (k 0))])
 (.blk 0 (.loop 3 q48_L3_b)))
 (.seq (.reg [o 4 (.mv (kb true))])
 (.fz [4] .ret)))))
def q48_F : VFn := ⟨true, 26, [.t 4], q48_c⟩
def q48_f (lo : Lo) : FnE := ⟨421, true, ⟨[0, 1], [.l (cs [I]), .l (cs [I])], [], (cs [.l (cs [I]), .l (cs [I])])⟩, .b, [], (cs [.b]), (fun x => q48 lo x.1 x.2 : (List Int) × (List Int) → Option Bool)⟩
theorem q48_e (lo : Lo) : ∀ x : (List Int) × (List Int), evP (⟨pf, fs48 lo, [q48_L3_p lo], 0⟩ : Tabs) q48_F ⟨[0, 1], [.l (cs [I]), .l (cs [I])], [], (cs [.l (cs [I]), .l (cs [I])])⟩ (.b) (cs [.b]) x = q48 lo x.1 x.2 := fun x => by kernel_rfl
theorem q48_S {P : Program} {fm : FM} {lo : Lo} (hlo : LoOK lo) (hS : Sound P fm ⟨pf, fs48 lo, [], 0⟩) (hm : P.follows .mixedOrders = true) (htie : ∀ f, fm f = 421 → fnTr P fm pf f = some (q48_F.slots, q48_F.res, q48_F.code.er)) : Sound P fm ⟨pf, q48_f lo :: fs48 lo, [], 0⟩ :=
  fn_sound hS hm [q48_L3_p lo] (q48_f lo) rfl q48_F htie (by decide) rfl (Nat.le_of_ble_eq_true (by kernel_rfl)) (fun C hT => show LsOK (fun _ => False) [] C (⟨pf, fs48 lo, [q48_L3_p lo], 0⟩ : Tabs) q48_c from ⟨trivial, ⟨⟨trivial, ⟨⟨trivial, trivial⟩, trivial⟩⟩, ⟨⟨trivial, (lsGet (by kernel_rfl) (q48_L3_k hlo C (tok_ls hT)))⟩, ⟨trivial, trivial⟩⟩⟩⟩) (fun x y h => (q48_e lo x).trans h)
def fs49 (lo : Lo) : List FnE := q48_f lo :: fs48 lo
def q49 (lo : Lo) : Option ((List (Int × (List (Int × Int))))) :=
  some ([((1 : Int), ([] : List (Int × Int))), ((-1 : Int), [((2 : Int), (2 : Int))]), ((-1 : Int), [((0 : Int), (2 : Int)), ((1 : Int), (4 : Int))])])
def q49_c : VCode :=
 (.seq (.reg [o 0 (.mv (ke (cs [I, .l (cs [I, I])])))])
 (.seq (.reg [o 1 (.build [.i .i64 0, .e (cs [I, I])] [(0, 1, (k 1))]), o 2 (.build [.i .i64 0, .i .i64 0] [(0, 1, (k 2)), (1, 1, (k 2))]), o 3 (.bsl (cs [I, I]) 1 [(0, (t 2))]), o 4 (.build [.i .i64 0, .e (cs [I, I])] [(0, 1, (k (-1))), (1, 1, (t 3))]), o 5 (.build [.i .i64 0, .i .i64 0] [(0, 1, (k 0)), (1, 1, (k 2))]), o 6 (.build [.i .i64 0, .i .i64 0] [(0, 1, (k 1)), (1, 1, (k 4))]), o 7 (.bsl (cs [I, I]) 2 [(0, (t 5)), (1, (t 6))]), o 8 (.build [.i .i64 0, .e (cs [I, I])] [(0, 1, (k (-1))), (1, 1, (t 7))]), o 9 (.bsl (cs [I, .l (cs [I, I])]) 3 [(0, (t 1)), (1, (t 4)), (2, (t 8))]), o 0 (.mv (t 9))])
 (.fz [0] .ret)))
def q49_F : VFn := ⟨true, 10, [.t 0], q49_c⟩
def q49_f (lo : Lo) : FnE := ⟨422, true, ⟨[], [], [], (cs [])⟩, .l (cs [I, .l (cs [I, I])]), [], (cs [.l (cs [I, .l (cs [I, I])])]), (fun x => q49 lo  : Unit → Option ((List (Int × (List (Int × Int))))))⟩
theorem q49_e (lo : Lo) : ∀ x : Unit, evP (⟨pf, fs49 lo, [], 0⟩ : Tabs) q49_F ⟨[], [], [], (cs [])⟩ (.l (cs [I, .l (cs [I, I])])) (cs [.l (cs [I, .l (cs [I, I])])]) x = q49 lo  := fun x => by kernel_rfl
theorem q49_S {P : Program} {fm : FM} {lo : Lo} (hlo : LoOK lo) (hS : Sound P fm ⟨pf, fs49 lo, [], 0⟩) (hm : P.follows .mixedOrders = true) (htie : ∀ f, fm f = 422 → fnTr P fm pf f = some (q49_F.slots, q49_F.res, q49_F.code.er)) : Sound P fm ⟨pf, q49_f lo :: fs49 lo, [], 0⟩ :=
  fn_sound hS hm [] (q49_f lo) rfl q49_F htie (by decide) rfl (Nat.le_of_ble_eq_true (by kernel_rfl)) (fun C hT => show LsOK (fun _ => False) [] C (⟨pf, fs49 lo, [], 0⟩ : Tabs) q49_c from ⟨trivial, ⟨trivial, trivial⟩⟩) (fun x y h => (q49_e lo x).trans h)
def fs50 (lo : Lo) : List FnE := q49_f lo :: fs49 lo
def q50_L5_b : VCode :=
 (.seq (.reg [o 80 (.bin .lss (t 79) (t 78))])
 (.seq (.cond (t 80) .skip
 (.exit 2))
 (.seq (.blk 3 (.seq (.reg [o 81 (.iad 1 (t 77) (t 79)), o 82 (.load false 1 (t 81)), o 12 (.mv (t 82))])
 (.seq (.reg [o 83 (.mv (t 7)), o 84 (.mv (t 12)), o 85 (.iad 1 (t 83) (t 84)), o 86 (.load false 1 (t 85)), o 87 (.fad 1 (t 10)), o 88 (.load false 1 (t 87)), o 89 (.bin .add (t 86) (t 88)), o 90 (.iad 1 (t 83) (t 84)), on (.store 1 (t 90) (t 89))])
 (.seq (.reg [o 91 (.mv (t 0)), o 92 (.nilc (t 91)), o 93 (.fad 2 (t 92)), o 94 (.load false 1 (t 93)), o 95 (.mv (t 12)), o 96 (.iad 1 (t 94) (t 95)), o 97 (.load false 1 (t 96)), o 98 (.bin .eql (t 97) (k 0)), o 99 (.mv (t 98)), og 100 99 true (.mv (t 7)), og 101 99 true (.mv (t 12)), og 102 99 true (.iad 1 (t 100) (t 101)), og 103 99 true (.load false 1 (t 102)), og 104 99 true (.mv (t 0)), og 105 99 true (.nilc (t 104)), og 106 99 true (.fad 0 (t 105)), og 107 99 true (.fad 0 (t 106)), og 108 99 true (.load false 1 (t 107)), og 109 99 true (.mv (t 12)), og 110 99 true (.iad 1 (t 108) (t 109)), og 111 99 true (.load false 1 (t 110)), og 112 99 true (.bin .gtr (t 103) (t 111)), o 113 (.pick (t 99) (t 112) (kb false))])
 (.cond (t 113) (.seq (.reg [o 6 (.mv (kb false))])
 .ret)
 .skip)))))
 (.reg [o 114 (.bin .add (t 79) (k 1)), o 79 (.mv (t 114))]))))
def q50_L5_g : Sg := ⟨[0, 2, 7, 8, 10, 22, 23, 24, 77, 78, 79], [.ptr 0 0 0, .i .i64, .ref 2, .i .i64, .ptr 3 0 0, .l (cs [I, I]), .i .i64, .i .i64, .l (cs [I]), .i .i64, .i .i64], [.st [.l (cs [I]), .l (cs [.l (cs [I])]), .ref 1, .i .i64], .sq (cs [I]), .sq (cs [I]), .st [.i .i64, .i .i64]], (cs [I, I, .l (cs [I, I]), I, I, .l (cs [I]), I, I, .l (cs [I]), .l (cs [.l (cs [I])]), I, .l (cs [I]), .l (cs [I]), I, I])⟩
def q50_L5_o : List Out1 := [⟨.ret, ⟨[6, 0], [.b, .ptr 0 0 0], [.st [.l (cs [I]), .l (cs [.l (cs [I])]), .ref 1, .i .i64], .sq (cs [I])], (cs [.b, .l (cs [I]), .l (cs [.l (cs [I])]), I, .l (cs [I])])⟩⟩, ⟨.exit 2, ⟨[0, 2, 7, 8, 22, 23, 24], [.ptr 0 0 0, .i .i64, .ref 2, .i .i64, .l (cs [I, I]), .i .i64, .i .i64], [.st [.l (cs [I]), .l (cs [.l (cs [I])]), .ref 1, .i .i64], .sq (cs [I]), .sq (cs [I])], (cs [I, I, .l (cs [I, I]), I, I, .l (cs [I]), .l (cs [.l (cs [I])]), I, .l (cs [I]), .l (cs [I])])⟩⟩]
def q50_L5_s (lo : Lo) : Int × Int × (List (Int × Int)) × Int × Int × (List Int) × Int × Int × (List Int) × (List ((List Int))) × Int × (List Int) × (List Int) × Int × Int → Option ((Int × Int × (List (Int × Int)) × Int × Int × (List Int) × Int × Int × (List Int) × (List ((List Int))) × Int × (List Int) × (List Int) × Int × Int) ⊕ ((Bool × (List Int) × (List ((List Int))) × Int × (List Int)) ⊕ (Int × Int × (List (Int × Int)) × Int × Int × (List Int) × (List ((List Int))) × Int × (List Int) × (List Int)))) := fun x => match x with
  | (bound2, sum8, v22, v23, v24, v77, v78, v79, s0_0, s0_1, s0_2, h1, load7, x10_0, x10_1) => bif (decide (v79 < v78)) then (chk (0 ≤ v79 ∧ v79 < (v77.length : Int)) (chk (0 ≤ (v77.getD v79.toNat (0 : Int)) ∧ (v77.getD v79.toNat (0 : Int)) < (load7.length : Int)) (chk (0 ≤ (v77.getD v79.toNat (0 : Int)) ∧ (v77.getD v79.toNat (0 : Int)) < (load7.length : Int)) (chk (0 ≤ (v77.getD v79.toNat (0 : Int)) ∧ (v77.getD v79.toNat (0 : Int)) < (h1.length : Int)) (bif (decide (h1.getD ((v77.getD v79.toNat (0 : Int)).toNat) (0 : Int) = (0 : Int))) then (chk (0 ≤ (v77.getD v79.toNat (0 : Int)) ∧ (v77.getD v79.toNat (0 : Int)) < ((load7.set ((v77.getD v79.toNat (0 : Int)).toNat) (IntKind.wrap .i64 ((load7.getD ((v77.getD v79.toNat (0 : Int)).toNat) (0 : Int)) + x10_1))).length : Int)) (chk (0 ≤ (v77.getD v79.toNat (0 : Int)) ∧ (v77.getD v79.toNat (0 : Int)) < (s0_0.length : Int)) (bif (decide ((s0_0.getD ((v77.getD v79.toNat (0 : Int)).toNat) (0 : Int)) < (load7.set ((v77.getD v79.toNat (0 : Int)).toNat) (IntKind.wrap .i64 ((load7.getD ((v77.getD v79.toNat (0 : Int)).toNat) (0 : Int)) + x10_1))).getD ((v77.getD v79.toNat (0 : Int)).toNat) (0 : Int))) then (some (.inr (.inl (false, s0_0, s0_1, s0_2, h1)))) else (some (.inl (bound2, sum8, v22, v23, v24, v77, v78, (IntKind.wrap .i64 (v79 + (1 : Int))), s0_0, s0_1, s0_2, h1, (load7.set ((v77.getD v79.toNat (0 : Int)).toNat) (IntKind.wrap .i64 ((load7.getD ((v77.getD v79.toNat (0 : Int)).toNat) (0 : Int)) + x10_1))), x10_0, x10_1)))))) else (some (.inl (bound2, sum8, v22, v23, v24, v77, v78, (IntKind.wrap .i64 (v79 + (1 : Int))), s0_0, s0_1, s0_2, h1, (load7.set ((v77.getD v79.toNat (0 : Int)).toNat) (IntKind.wrap .i64 ((load7.getD ((v77.getD v79.toNat (0 : Int)).toNat) (0 : Int)) + x10_1))), x10_0, x10_1)))))))) else (some (.inr (.inr (bound2, sum8, v22, v23, v24, s0_0, s0_1, s0_2, h1, load7))))
theorem q50_L5_e (lo : Lo) : ∀ x : Int × Int × (List (Int × Int)) × Int × Int × (List Int) × Int × Int × (List Int) × (List ((List Int))) × Int × (List Int) × (List Int) × Int × Int, stepL (⟨pf, fs50 lo, [], 2⟩ : Tabs) [] q50_L5_g q50_L5_o q50_L5_b x = q50_L5_s lo x := fun x => by kernel_rfl
def q50_L5 (lo : Lo) : Int × Int × (List (Int × Int)) × Int × Int × (List Int) × Int × Int × (List Int) × (List ((List Int))) × Int × (List Int) × (List Int) × Int × Int → Option ((Bool × (List Int) × (List ((List Int))) × Int × (List Int)) ⊕ (Int × Int × (List (Int × Int)) × Int × Int × (List Int) × (List ((List Int))) × Int × (List Int) × (List Int))) := lo.run (q50_L5_s lo)
def q50_L5_p (lo : Lo) : LpE := ⟨5, [], q50_L5_g, q50_L5_o, q50_L5 lo⟩
theorem q50_L5_k {lo : Lo} (hlo : LoOK lo) (C : Ctx) (hT : TOK (⟨pf, fs50 lo, [], 2⟩ : Tabs) C) {Fr : Nat → Prop} {H0 : Heap} (hf : FrOK Fr H0) : LpSound Fr H0 2 C (.loop q50_L5_b.er) (q50_L5_p lo) :=
  loop_sound (T := (⟨pf, fs50 lo, [], 2⟩ : Tabs)) hT hf (show LsOK Fr H0 C (⟨pf, fs50 lo, [], 2⟩ : Tabs) q50_L5_b from ⟨trivial, ⟨⟨trivial, trivial⟩, ⟨⟨trivial, ⟨trivial, ⟨trivial, ⟨⟨trivial, trivial⟩, trivial⟩⟩⟩⟩, trivial⟩⟩⟩) (fun x y h => loopO_congr (q50_L5_e lo) (hlo _ _ _ h))
def q50_L3_b : VCode :=
 (.seq (.reg [o 25 (.bin .lss (t 24) (t 23))])
 (.seq (.cond (t 25) .skip
 (.exit 0))
 (.seq (.blk 1 (.seq (.reg [o 26 (.iad 2 (t 22) (t 24)), o 27 (.load true 2 (t 26)), o 10 (.alloc [.i .i64 0, .i .i64 0]), on (.store 2 (t 10) (t 27))])
 (.seq (.seq (.reg [o 28 (.fad 0 (t 10)), o 29 (.load false 1 (t 28)), o 30 (.bin .lss (t 29) (k 0)), o 31 (.mv (t 30)), og 32 31 false (.fad 0 (t 10)), og 33 31 false (.load false 1 (t 32)), og 34 31 false (.mv (t 0)), og 35 31 false (.nilc (t 34)), og 36 31 false (.fad 0 (t 35)), og 37 31 false (.fad 1 (t 36)), og 38 31 false (.load false 1 (t 37)), og 39 31 false (.len (t 38)), og 40 31 false (.bin .geq (t 33) (t 39)), o 41 (.pick (t 31) (kb true) (t 40)), o 42 (.mv (t 41)), og 43 42 false (.fad 1 (t 10)), og 44 42 false (.load false 1 (t 43)), og 45 42 false (.bin .lss (t 44) (k 1)), o 46 (.pick (t 42) (kb true) (t 45)), o 47 (.mv (t 46)), og 48 47 false (.fad 1 (t 10)), og 49 47 false (.load false 1 (t 48)), og 50 47 false (.bin .gtr (t 49) (k 1000000000000)), o 51 (.pick (t 47) (kb true) (t 50)), o 52 (.mv (t 51)), og 53 52 false (.mv (t 0)), og 54 52 false (.mv (t 0)), og 55 52 false (.nilc (t 54)), og 56 52 false (.fad 0 (t 55)), og 57 52 false (.fad 1 (t 56)), og 58 52 false (.load false 1 (t 57)), og 59 52 false (.fad 0 (t 10)), og 60 52 false (.load false 1 (t 59)), og 61 52 false (.iad 1 (t 58) (t 60)), og 62 52 false (.load false 1 (t 61)), og 63 52 false (.call 450 [(t 53), (t 62), (k 1)]), o 64 (.pick (t 52) (kb true) (t 63))])
 (.cond (t 64) (.seq (.reg [o 6 (.mv (kb false))])
 .ret)
 .skip))
 (.seq (.reg [o 65 (.mv (t 8)), o 66 (.fad 1 (t 10)), o 67 (.load false 1 (t 66)), o 68 (.bin .add (t 65) (t 67)), o 8 (.mv (t 68))])
 (.seq (.reg [o 69 (.mv (t 0)), o 70 (.nilc (t 69)), o 71 (.fad 0 (t 70)), o 72 (.fad 1 (t 71)), o 73 (.load false 1 (t 72)), o 74 (.fad 0 (t 10)), o 75 (.load false 1 (t 74)), o 76 (.iad 1 (t 73) (t 75)), o 77 (.load false 1 (t 76)), o 78 (.len (t 77)), o 79 (.mv (k 0))])
 (.blk 2 (.loop 5 q50_L5_b)))))))
 (.reg [o 115 (.bin .add (t 24) (k 1)), o 24 (.mv (t 115))]))))
def q50_L3_g : Sg := ⟨[0, 2, 7, 8, 22, 23, 24], [.ptr 0 0 0, .i .i64, .ref 2, .i .i64, .l (cs [I, I]), .i .i64, .i .i64], [.st [.l (cs [I]), .l (cs [.l (cs [I])]), .ref 1, .i .i64], .sq (cs [I]), .sq (cs [I])], (cs [I, I, .l (cs [I, I]), I, I, .l (cs [I]), .l (cs [.l (cs [I])]), I, .l (cs [I]), .l (cs [I])])⟩
def q50_L3_o : List Out1 := [⟨.ret, ⟨[6, 0], [.b, .ptr 0 0 0], [.st [.l (cs [I]), .l (cs [.l (cs [I])]), .ref 1, .i .i64], .sq (cs [I])], (cs [.b, .l (cs [I]), .l (cs [.l (cs [I])]), I, .l (cs [I])])⟩⟩, ⟨.exit 0, ⟨[0, 2, 8], [.ptr 0 0 0, .i .i64, .i .i64], [.st [.l (cs [I]), .l (cs [.l (cs [I])]), .ref 1, .i .i64], .sq (cs [I])], (cs [I, I, .l (cs [I]), .l (cs [.l (cs [I])]), I, .l (cs [I])])⟩⟩]
def q50_L3_s (lo : Lo) : Int × Int × (List (Int × Int)) × Int × Int × (List Int) × (List ((List Int))) × Int × (List Int) × (List Int) → Option ((Int × Int × (List (Int × Int)) × Int × Int × (List Int) × (List ((List Int))) × Int × (List Int) × (List Int)) ⊕ ((Bool × (List Int) × (List ((List Int))) × Int × (List Int)) ⊕ (Int × Int × (List Int) × (List ((List Int))) × Int × (List Int)))) := fun x => match x with
  | (bound2, sum8, v22, v23, v24, s0_0, s0_1, s0_2, h1, load7) => bif (decide (v24 < v23)) then (chk (0 ≤ v24 ∧ v24 < (v22.length : Int)) (bif (decide ((v22.getD v24.toNat ((0 : Int), (0 : Int))).1 < (0 : Int))) then (some (.inr (.inl (false, s0_0, s0_1, s0_2, h1)))) else (bif (decide ((s0_1.length : Int) ≤ (v22.getD v24.toNat ((0 : Int), (0 : Int))).1)) then (some (.inr (.inl (false, s0_0, s0_1, s0_2, h1)))) else (bif (decide ((v22.getD v24.toNat ((0 : Int), (0 : Int))).2 < (1 : Int))) then (some (.inr (.inl (false, s0_0, s0_1, s0_2, h1)))) else (bif (decide ((1000000000000 : Int) < (v22.getD v24.toNat ((0 : Int), (0 : Int))).2)) then (some (.inr (.inl (false, s0_0, s0_1, s0_2, h1)))) else (chk (0 ≤ (v22.getD v24.toNat ((0 : Int), (0 : Int))).1 ∧ (v22.getD v24.toNat ((0 : Int), (0 : Int))).1 < (s0_1.length : Int)) (Option.bind (q43 lo (s0_1.getD (((v22.getD v24.toNat ((0 : Int), (0 : Int))).1).toNat) []) (1 : Int) s0_0 s0_1 s0_2 h1) fun y168 => chk (y168.2.2.2.2.length = h1.length) (bif y168.1 then (some (.inr (.inl (false, y168.2.1, y168.2.2.1, y168.2.2.2.1, y168.2.2.2.2)))) else (chk (0 ≤ (v22.getD v24.toNat ((0 : Int), (0 : Int))).1 ∧ (v22.getD v24.toNat ((0 : Int), (0 : Int))).1 < (y168.2.2.1.length : Int)) (Option.bind (q50_L5 lo (bound2, (IntKind.wrap .i64 (sum8 + ((v22.getD v24.toNat ((0 : Int), (0 : Int))).2))), v22, v23, v24, (y168.2.2.1.getD (((v22.getD v24.toNat ((0 : Int), (0 : Int))).1).toNat) []), ((y168.2.2.1.getD (((v22.getD v24.toNat ((0 : Int), (0 : Int))).1).toNat) []).length : Int), (0 : Int), y168.2.1, y168.2.2.1, y168.2.2.2.1, y168.2.2.2.2, load7, (v22.getD v24.toNat ((0 : Int), (0 : Int))).1, (v22.getD v24.toNat ((0 : Int), (0 : Int))).2)) fun y169 => alt2 y169 (fun y170 => some (.inr (.inl (y170.1, y170.2.1, y170.2.2.1, y170.2.2.2.1, y170.2.2.2.2)))) (fun y171 => some (.inl (y171.1, y171.2.1, y171.2.2.1, y171.2.2.2.1, (IntKind.wrap .i64 (y171.2.2.2.2.1 + (1 : Int))), y171.2.2.2.2.2.1, y171.2.2.2.2.2.2.1, y171.2.2.2.2.2.2.2.1, y171.2.2.2.2.2.2.2.2.1, y171.2.2.2.2.2.2.2.2.2))))))))))))) else (some (.inr (.inr (bound2, sum8, s0_0, s0_1, s0_2, h1))))
theorem q50_L3_e (lo : Lo) : ∀ x : Int × Int × (List (Int × Int)) × Int × Int × (List Int) × (List ((List Int))) × Int × (List Int) × (List Int), stepL (⟨pf, fs50 lo, [q50_L5_p lo], 2⟩ : Tabs) [] q50_L3_g q50_L3_o q50_L3_b x = q50_L3_s lo x := fun x => by kernel_rfl
def q50_L3 (lo : Lo) : Int × Int × (List (Int × Int)) × Int × Int × (List Int) × (List ((List Int))) × Int × (List Int) × (List Int) → Option ((Bool × (List Int) × (List ((List Int))) × Int × (List Int)) ⊕ (Int × Int × (List Int) × (List ((List Int))) × Int × (List Int))) := lo.run (q50_L3_s lo)
def q50_L3_p (lo : Lo) : LpE := ⟨3, [], q50_L3_g, q50_L3_o, q50_L3 lo⟩
theorem q50_L3_k {lo : Lo} (hlo : LoOK lo) (C : Ctx) (hT : TOK (⟨pf, fs50 lo, [q50_L5_p lo], 2⟩ : Tabs) C) {Fr : Nat → Prop} {H0 : Heap} (hf : FrOK Fr H0) : LpSound Fr H0 2 C (.loop q50_L3_b.er) (q50_L3_p lo) :=
  loop_sound (T := (⟨pf, fs50 lo, [q50_L5_p lo], 2⟩ : Tabs)) hT hf (show LsOK Fr H0 C (⟨pf, fs50 lo, [q50_L5_p lo], 2⟩ : Tabs) q50_L3_b from ⟨trivial, ⟨⟨trivial, trivial⟩, ⟨⟨trivial, ⟨⟨trivial, ⟨⟨trivial, trivial⟩, trivial⟩⟩, ⟨trivial, ⟨trivial, (lsGet (by kernel_rfl) (q50_L5_k hlo C (tok_ls hT) hf))⟩⟩⟩⟩, trivial⟩⟩⟩) (fun x y h => loopO_congr (q50_L3_e lo) (hlo _ _ _ h))
def q50 (lo : Lo) (l1 : List (Int × Int)) (bound2 : Int) (s0_0 : List Int) (s0_1 : List ((List Int))) (s0_2 : Int) (h1 : List Int) : Option (Bool × (List Int) × (List ((List Int))) × Int × (List Int)) :=
  bif (decide ((10000 : Int) < (l1.length : Int))) then (some (false, s0_0, s0_1, s0_2, h1)) else (chk (0 ≤ (h1.length : Int) ∧ (h1.length : Int) ≤ (h1.length : Int) ∧ (h1.length : Int) ≤ (maxEl : Nat)) (Option.bind (q50_L3 lo (bound2, (0 : Int), l1, (l1.length : Int), (0 : Int), s0_0, s0_1, s0_2, h1, (List.replicate (h1.length : Int).toNat (0 : Int)))) fun y172 => alt2 y172 (fun y173 => some (y173.1, y173.2.1, y173.2.2.1, y173.2.2.2.1, y173.2.2.2.2)) (fun y174 => some ((decide (y174.1 ≤ y174.2.1)), y174.2.2.1, y174.2.2.2.1, y174.2.2.2.2.1, y174.2.2.2.2.2))))
def q50_c : VCode :=
 (.seq (.reg [o 6 (.mv (kb false))])
 (.seq (.seq (.reg [o 13 (.mv (t 1)), o 14 (.len (t 13)), o 15 (.bin .gtr (t 14) (k 10000))])
 (.cond (t 15) (.seq (.reg [o 6 (.mv (kb false))])
 .ret)
 .skip))
 (.seq (.reg [o 16 (.mv (t 0)), o 17 (.nilc (t 16)), o 18 (.fad 2 (t 17)), o 19 (.load false 1 (t 18)), o 20 (.len (t 19)), o 21 (.mksl (cs [I]) 0 (t 20) (t 20)), o 7 (.mv (t 21))])
 (.seq (.reg [o 8 (.mv (k 0))])
 (.seq (.seq (.reg [o 22 (.mv (t 1)), o 23 (.len (t 22)), o 24 (.mv (k 0))])
 (.blk 0 (.loop 3 q50_L3_b)))
 (.seq (.reg [o 116 (.mv (t 8)), o 117 (.mv (t 2)), o 118 (.bin .geq (t 116) (t 117)), o 6 (.mv (t 118))])
 .ret))))))
def q50_F : VFn := ⟨true, 119, [.t 6], q50_c⟩
def q50_f (lo : Lo) : FnE := ⟨446, false, ⟨[0, 1, 2], [.ptr 0 0 0, .l (cs [I, I]), .i .i64], [.st [.l (cs [I]), .l (cs [.l (cs [I])]), .ref 1, .i .i64], .sq (cs [I])], (cs [.l (cs [I, I]), I, .l (cs [I]), .l (cs [.l (cs [I])]), I, .l (cs [I])])⟩, .b, [.st [.l (cs [I]), .l (cs [.l (cs [I])]), .ref 1, .i .i64], .sq (cs [I])], (cs [.b, .l (cs [I]), .l (cs [.l (cs [I])]), I, .l (cs [I])]), (fun x => q50 lo x.1 x.2.1 x.2.2.1 x.2.2.2.1 x.2.2.2.2.1 x.2.2.2.2.2 : (List (Int × Int)) × Int × (List Int) × (List ((List Int))) × Int × (List Int) → Option (Bool × (List Int) × (List ((List Int))) × Int × (List Int)))⟩
theorem q50_e (lo : Lo) : ∀ x : (List (Int × Int)) × Int × (List Int) × (List ((List Int))) × Int × (List Int), evI (⟨pf, fs50 lo, [q50_L3_p lo, q50_L5_p lo], 2⟩ : Tabs) q50_F ⟨[0, 1, 2], [.ptr 0 0 0, .l (cs [I, I]), .i .i64], [.st [.l (cs [I]), .l (cs [.l (cs [I])]), .ref 1, .i .i64], .sq (cs [I])], (cs [.l (cs [I, I]), I, .l (cs [I]), .l (cs [.l (cs [I])]), I, .l (cs [I])])⟩ (.b) [.st [.l (cs [I]), .l (cs [.l (cs [I])]), .ref 1, .i .i64], .sq (cs [I])] (cs [.b, .l (cs [I]), .l (cs [.l (cs [I])]), I, .l (cs [I])]) x = q50 lo x.1 x.2.1 x.2.2.1 x.2.2.2.1 x.2.2.2.2.1 x.2.2.2.2.2 := fun x => by kernel_rfl
theorem q50_S {P : Program} {fm : FM} {lo : Lo} (hlo : LoOK lo) (hS : Sound P fm ⟨pf, fs50 lo, [], 0⟩) (hm : P.follows .mixedOrders = true) (htie : ∀ f, fm f = 446 → fnTr P fm pf f = some (q50_F.slots, q50_F.res, q50_F.code.er)) : Sound P fm ⟨pf, q50_f lo :: fs50 lo, [], 0⟩ :=
  fnI_sound hS hm [q50_L3_p lo, q50_L5_p lo] (q50_f lo) rfl q50_F htie (by decide) rfl (Nat.le_of_ble_eq_true (by kernel_rfl)) (fun C hT Fr H0 hf => show LsOK Fr H0 C (⟨pf, fs50 lo, [q50_L3_p lo, q50_L5_p lo], 2⟩ : Tabs) q50_c from ⟨trivial, ⟨⟨trivial, ⟨⟨trivial, trivial⟩, trivial⟩⟩, ⟨trivial, ⟨trivial, ⟨⟨trivial, (lsGet (by kernel_rfl) (q50_L3_k hlo C (tok_ls hT) hf))⟩, ⟨trivial, trivial⟩⟩⟩⟩⟩⟩) (fun x y h => (q50_e lo x).trans h)
def fs51 (lo : Lo) : List FnE := q50_f lo :: fs50 lo
end Go.Abs.G39
