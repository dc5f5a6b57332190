/- Functions of the program as functions of data (written by program). No condition. -/
import Derived.Test.YtppagmmeofoekaaDoorB
set_option linter.unusedVariables false
set_option linter.unusedSimpArgs false
set_option linter.unusedSectionVars false
namespace Go.Abs.G12
open Go Go.Abs
set_option maxRecDepth 100000
set_option linter.unusedVariables false
set_option maxHeartbeats 1000000
abbrev pf : Nat → Bool := fun g => !(List.any ([140, 149, 151, 154, 158, 164, 170, 174, 175, 188, 189, 1079, 193, 1080, 196, 197, 198, 200, 204, 205, 206, 207, 208, 211, 147, 148, 162, 177, 178, 179, 181, 182, 184, 185, 194, 1084, 143] : List Nat) (Nat.beq g))
def fs0 (_ : Lo) : List FnE := []
def q0_L3_b : VCode :=
 (.seq (.seq (.reg [o 5 (.mv (t 4)), o 6 (.mv (t 0)), o 7 (.bin .lss (t 5) (t 6)), o 8 (.mv (t 7)), og 9 8 true (.mv (t 4)), og 10 8 true (.bin .lss (t 9) (k 32)), o 11 (.pick (t 8) (t 10) (kb false))])
 (.cond (t 11) .skip
 (.exit 0)))
 (.seq (.blk 1 (.reg [o 14 (.mv (t 3)), o 15 (.mv (t 4)), o 16 (.bin .shl (ki .u32 1) (t 15)), o 17 (.bin .or (t 14) (t 16)), o 3 (.mv (t 17))]))
 (.reg [o 12 (.mv (t 4)), o 13 (.bin .add (t 12) (k 1)), o 4 (.mv (t 13))])))
def q0_L3_g : Sg := ⟨[0, 3, 4], [.i .i64, .i .u32, .i .i64], [], (cs [I, .i .u32, I])⟩
def q0_L3_o : List Out1 := [⟨.exit 0, ⟨[3], [.i .u32], [], (cs [.i .u32])⟩⟩]
def q0_L3_s (lo : Lo) : Int × Int × Int → Option ((Int × Int × Int) ⊕ Int) := fun x => match x with
  | (n0, s3, i4) => bif (decide (i4 < n0)) then (bif (decide (i4 < (32 : Int))) then (chk (0 ≤ i4) (some (.inl (n0, (bits .or .u32 s3 (IntKind.wrap .u32 ((1 : Int) * 2 ^ (min i4.toNat (IntKind.bits .u32))))), (IntKind.wrap .i64 (i4 + (1 : Int))))))) else (some (.inr s3))) else (some (.inr s3))
theorem q0_L3_e (lo : Lo) : ∀ x : Int × Int × Int, stepL (⟨pf, fs0 lo, [], 0⟩ : Tabs) [] q0_L3_g q0_L3_o q0_L3_b x = q0_L3_s lo x := fun x => by kernel_rfl
def q0_L3 (lo : Lo) : Int × Int × Int → Option Int := lo.run (q0_L3_s lo)
def q0_L3_p (lo : Lo) : LpE := ⟨3, [], q0_L3_g, q0_L3_o, q0_L3 lo⟩
theorem q0_L3_k {lo : Lo} (hlo : LoOK lo) (C : Ctx) (hT : TOK (⟨pf, fs0 lo, [], 0⟩ : Tabs) C) : LpSound (fun _ => False) [] 0 C (.loop q0_L3_b.er) (q0_L3_p lo) :=
  loop_sound (T := (⟨pf, fs0 lo, [], 0⟩ : Tabs)) hT frNo (show LsOK (fun _ => False) [] C (⟨pf, fs0 lo, [], 0⟩ : Tabs) q0_L3_b from ⟨⟨trivial, ⟨trivial, trivial⟩⟩, ⟨trivial, trivial⟩⟩) (fun x y h => loopO_congr (q0_L3_e lo) (hlo _ _ _ h))
def q0 (lo : Lo) (n0 : Int) : Option Int :=
  Option.bind (q0_L3 lo (n0, (0 : Int), (0 : Int))) fun y0 => some y0
def q0_c : VCode :=
 (.seq (.reg [o 2 (.mv (ki .u32 0))])
 (.seq (.reg [o 3 (.mv (ki .u32 0))])
 (.seq (.seq (.reg [o 4 (.mv (k 0))])
 (.blk 0 (.loop 3 q0_L3_b)))
 (.seq (.reg [o 18 (.mv (t 3)), o 2 (.mv (t 18))])
 (.fz [2] .ret)))))
def q0_F : VFn := ⟨true, 19, [.t 2], q0_c⟩
def q0_f (lo : Lo) : FnE := ⟨118, true, ⟨[0], [.i .i64], [], (cs [I])⟩, .i .u32, [], (cs [.i .u32]), (fun x => q0 lo x : Int → Option Int)⟩
theorem q0_e (lo : Lo) : ∀ x : Int, evP (⟨pf, fs0 lo, [q0_L3_p lo], 0⟩ : Tabs) q0_F ⟨[0], [.i .i64], [], (cs [I])⟩ (.i .u32) (cs [.i .u32]) x = q0 lo x := fun x => by kernel_rfl
theorem q0_S {P : Program} {fm : FM} {lo : Lo} (hlo : LoOK lo) (hS : Sound P fm ⟨pf, fs0 lo, [], 0⟩) (hm : P.follows .mixedOrders = true) (htie : ∀ f, fm f = 118 → fnTr P fm pf f = some (q0_F.slots, q0_F.res, q0_F.code.er)) : Sound P fm ⟨pf, q0_f lo :: fs0 lo, [], 0⟩ :=
  fn_sound hS hm [q0_L3_p lo] (q0_f lo) rfl q0_F htie (by decide) rfl (Nat.le_of_ble_eq_true (by kernel_rfl)) (fun C hT => show LsOK (fun _ => False) [] C (⟨pf, fs0 lo, [q0_L3_p lo], 0⟩ : Tabs) q0_c from ⟨trivial, ⟨trivial, ⟨⟨trivial, (lsGet (by kernel_rfl) (q0_L3_k hlo C (tok_ls hT)))⟩, ⟨trivial, trivial⟩⟩⟩⟩) (fun x y h => (q0_e lo x).trans h)
def fs1 (lo : Lo) : List FnE := q0_f lo :: fs0 lo
def q1_L3_b : VCode :=
 (.seq (.seq (.reg [o 10 (.mv (t 7)), o 11 (.mv (t 1)), o 12 (.len (t 11)), o 13 (.bin .lss (t 10) (t 12))])
 (.cond (t 13) .skip
 (.exit 0)))
 (.seq (.blk 1 (.reg [o 16 (.mv (t 6)), o 17 (.mv (t 1)), o 18 (.mv (t 7)), o 19 (.iad 2 (t 17) (t 18)), o 20 (.fad 0 (t 19)), o 21 (.load false 1 (t 20)), o 22 (.conv .u32 (t 21)), o 23 (.mv (t 5)), o 24 (.bin .and (t 22) (t 23)), o 25 (.mv (t 1)), o 26 (.mv (t 7)), o 27 (.iad 2 (t 25) (t 26)), o 28 (.fad 1 (t 27)), o 29 (.load false 1 (t 28)), o 30 (.conv .u32 (t 29)), o 31 (.mv (t 5)), o 32 (.bin .and (t 30) (t 31)), o 33 (.build [.i .u32 0, .i .u32 0] [(0, 1, (t 24)), (1, 1, (t 32))]), o 34 (.bsl (cs [.i .u32, .i .u32]) 1 [(0, (t 33))]), o 35 (.app (cs [.i .u32, .i .u32]) 0 (t 16) (t 34)), o 6 (.mv (t 35))]))
 (.reg [o 14 (.mv (t 7)), o 15 (.bin .add (t 14) (k 1)), o 7 (.mv (t 15))])))
def q1_L3_g : Sg := ⟨[1, 5, 6, 7], [.l (cs [.i .u8, .i .u8]), .i .u32, .ref 0, .i .i64], [.sq (cs [.i .u32, .i .u32])], (cs [.l (cs [.i .u8, .i .u8]), .i .u32, I, .l (cs [.i .u32, .i .u32])])⟩
def q1_L3_o : List Out1 := [⟨.exit 0, ⟨[6], [.ref 0], [.sq (cs [.i .u32, .i .u32])], (cs [.l (cs [.i .u32, .i .u32])])⟩⟩]
def q1_L3_s (lo : Lo) : (List (Int × Int)) × Int × Int × (List (Int × Int)) → Option (((List (Int × Int)) × Int × Int × (List (Int × Int))) ⊕ (((List (Int × Int))))) := fun x => match x with
  | (l1, all5, i7, out6) => bif (decide (i7 < (l1.length : Int))) then (chk (0 ≤ i7 ∧ i7 < (l1.length : Int)) (chk (0 ≤ i7 ∧ i7 < (l1.length : Int)) (chk (out6.length + ([((bits .and .u32 (IntKind.wrap .u32 ((l1.getD i7.toNat ((0 : Int), (0 : Int))).1)) all5), (bits .and .u32 (IntKind.wrap .u32 ((l1.getD i7.toNat ((0 : Int), (0 : Int))).2)) all5))]).length ≤ maxEl) (some (.inl (l1, all5, (IntKind.wrap .i64 (i7 + (1 : Int))), (out6 ++ ([((bits .and .u32 (IntKind.wrap .u32 ((l1.getD i7.toNat ((0 : Int), (0 : Int))).1)) all5), (bits .and .u32 (IntKind.wrap .u32 ((l1.getD i7.toNat ((0 : Int), (0 : Int))).2)) all5))])))))))) else (some (.inr out6))
theorem q1_L3_e (lo : Lo) : ∀ x : (List (Int × Int)) × Int × Int × (List (Int × Int)), stepL (⟨pf, fs1 lo, [], 0⟩ : Tabs) [(6, none, false)] q1_L3_g q1_L3_o q1_L3_b x = q1_L3_s lo x := fun x => by kernel_rfl
def q1_L3 (lo : Lo) : (List (Int × Int)) × Int × Int × (List (Int × Int)) → Option (((List (Int × Int)))) := lo.run (q1_L3_s lo)
def q1_L3_p (lo : Lo) : LpE := ⟨3, [(6, none, false)], q1_L3_g, q1_L3_o, q1_L3 lo⟩
theorem q1_L3_k {lo : Lo} (hlo : LoOK lo) (C : Ctx) (hT : TOK (⟨pf, fs1 lo, [], 0⟩ : Tabs) C) : LpSound (fun _ => False) [] 0 C (.loop q1_L3_b.er) (q1_L3_p lo) :=
  loop_sound (T := (⟨pf, fs1 lo, [], 0⟩ : Tabs)) hT frNo (show LsOK (fun _ => False) [] C (⟨pf, fs1 lo, [], 0⟩ : Tabs) q1_L3_b from ⟨⟨trivial, ⟨trivial, trivial⟩⟩, ⟨trivial, trivial⟩⟩) (fun x y h => loopO_congr (q1_L3_e lo) (hlo _ _ _ h))
def q1 (lo : Lo) (n0 : Int) (l1 : List (Int × Int)) : Option ((List (Int × Int))) :=
  Option.bind (q0 lo n0) fun y1 => Option.bind (q1_L3 lo (l1, y1, (0 : Int), [])) fun y2 => some y2
def q1_c : VCode :=
 (.seq (.reg [o 4 (.mv (ke (cs [.i .u32, .i .u32])))])
 (.seq (.reg [o 8 (.mv (t 0)), o 9 (.call 118 [(t 8)]), o 5 (.mv (t 9))])
 (.seq (.reg [o 6 (.mv (ke (cs [.i .u32, .i .u32])))])
 (.seq (.seq (.reg [o 7 (.mv (k 0))])
 (.blk 0 (.loop 3 q1_L3_b)))
 (.seq (.reg [o 36 (.mv (t 6)), o 4 (.mv (t 36))])
 (.fz [4] .ret))))))
def q1_F : VFn := ⟨true, 37, [.t 4], q1_c⟩
def q1_f (lo : Lo) : FnE := ⟨130, true, ⟨[0, 1], [.i .i64, .l (cs [.i .u8, .i .u8])], [], (cs [I, .l (cs [.i .u8, .i .u8])])⟩, .l (cs [.i .u32, .i .u32]), [], (cs [.l (cs [.i .u32, .i .u32])]), (fun x => q1 lo x.1 x.2 : Int × (List (Int × Int)) → Option ((List (Int × Int))))⟩
theorem q1_e (lo : Lo) : ∀ x : Int × (List (Int × Int)), evP (⟨pf, fs1 lo, [q1_L3_p lo], 0⟩ : Tabs) q1_F ⟨[0, 1], [.i .i64, .l (cs [.i .u8, .i .u8])], [], (cs [I, .l (cs [.i .u8, .i .u8])])⟩ (.l (cs [.i .u32, .i .u32])) (cs [.l (cs [.i .u32, .i .u32])]) x = q1 lo x.1 x.2 := fun x => by kernel_rfl
theorem q1_S {P : Program} {fm : FM} {lo : Lo} (hlo : LoOK lo) (hS : Sound P fm ⟨pf, fs1 lo, [], 0⟩) (hm : P.follows .mixedOrders = true) (htie : ∀ f, fm f = 130 → fnTr P fm pf f = some (q1_F.slots, q1_F.res, q1_F.code.er)) : Sound P fm ⟨pf, q1_f lo :: fs1 lo, [], 0⟩ :=
  fn_sound hS hm [q1_L3_p lo] (q1_f lo) rfl q1_F htie (by decide) rfl (Nat.le_of_ble_eq_true (by kernel_rfl)) (fun C hT => show LsOK (fun _ => False) [] C (⟨pf, fs1 lo, [q1_L3_p lo], 0⟩ : Tabs) q1_c from ⟨trivial, ⟨trivial, ⟨trivial, ⟨⟨trivial, (lsGet (by kernel_rfl) (q1_L3_k hlo C (tok_ls hT)))⟩, ⟨trivial, trivial⟩⟩⟩⟩⟩) (fun x y h => (q1_e lo x).trans h)
def fs2 (lo : Lo) : List FnE := q1_f lo :: fs1 lo
def q2 (lo : Lo) (d0_0 : Int) (d0_1 : List (Int × Int)) : Option (Int × (List (Int × Int)) × Bool) :=
  chk ((7 : Int) ≠ 0) (Option.bind (q1 lo (IntKind.wrap .i64 (d0_0.tmod (7 : Int))) d0_1) fun y3 => some ((IntKind.wrap .i64 (d0_0.tmod (7 : Int))), y3, (decide ((d0_1.length : Int) ≤ (6 : Int)))))
def q2_c : VCode :=
 (.seq (.reg [o 1 (.box (t 0)), o 2 (.mv (k 0)), o 3 (.mv (ke (cs [.i .u32, .i .u32]))), o 4 (.mv (kb false))])
 (.seq (.reg [o 6 (.fad 0 (t 1)), o 7 (.load false 1 (t 6)), o 8 (.bin .rem (t 7) (ki .u8 7)), o 9 (.conv .i64 (t 8)), o 5 (.mv (t 9))])
 (.seq (.reg [o 10 (.mv (t 5)), o 11 (.mv (t 5)), o 12 (.fad 1 (t 1)), o 13 (.load false 1 (t 12)), o 14 (.call 130 [(t 11), (t 13)]), o 15 (.fad 1 (t 1)), o 16 (.load false 1 (t 15)), o 17 (.len (t 16)), o 18 (.bin .leq (t 17) (k 6)), o 2 (.mv (t 10)), o 3 (.mv (t 14)), o 4 (.mv (t 18))])
 (.fz [2, 3, 4] .ret))))
def q2_F : VFn := ⟨true, 19, [.t 2, .t 3, .t 4], q2_c⟩
def q2_f (lo : Lo) : FnE := ⟨108, true, ⟨[0], [.ag [.i .u8, .l (cs [.i .u8, .i .u8])]], [], (cs [.i .u8, .l (cs [.i .u8, .i .u8])])⟩, .tp [.i .i64, .l (cs [.i .u32, .i .u32]), .b], [], (cs [I, .l (cs [.i .u32, .i .u32]), .b]), (fun x => q2 lo x.1 x.2 : Int × (List (Int × Int)) → Option (Int × (List (Int × Int)) × Bool))⟩
theorem q2_e (lo : Lo) : ∀ x : Int × (List (Int × Int)), evP (⟨pf, fs2 lo, [], 0⟩ : Tabs) q2_F ⟨[0], [.ag [.i .u8, .l (cs [.i .u8, .i .u8])]], [], (cs [.i .u8, .l (cs [.i .u8, .i .u8])])⟩ (.tp [.i .i64, .l (cs [.i .u32, .i .u32]), .b]) (cs [I, .l (cs [.i .u32, .i .u32]), .b]) x = q2 lo x.1 x.2 := fun x => by kernel_rfl
theorem q2_S {P : Program} {fm : FM} {lo : Lo} (hlo : LoOK lo) (hS : Sound P fm ⟨pf, fs2 lo, [], 0⟩) (hm : P.follows .mixedOrders = true) (htie : ∀ f, fm f = 108 → fnTr P fm pf f = some (q2_F.slots, q2_F.res, q2_F.code.er)) : Sound P fm ⟨pf, q2_f lo :: fs2 lo, [], 0⟩ :=
  fn_sound hS hm [] (q2_f lo) rfl q2_F htie (by decide) rfl (Nat.le_of_ble_eq_true (by kernel_rfl)) (fun C hT => show LsOK (fun _ => False) [] C (⟨pf, fs2 lo, [], 0⟩ : Tabs) q2_c from ⟨trivial, ⟨trivial, ⟨trivial, trivial⟩⟩⟩) (fun x y h => (q2_e lo x).trans h)
def fs3 (lo : Lo) : List FnE := q2_f lo :: fs2 lo
def q3 (lo : Lo) : Option ((List (Int × Int)) × (List (Int × (List Int) × Int × Int))) :=
  chk (0 ≤ (0 : Int) ∧ (0 : Int) < (([((1 : Int), (2 : Int)), ((2 : Int), (4 : Int))]).length : Int)) (chk (0 ≤ (1 : Int) ∧ (1 : Int) < (([((1 : Int), (2 : Int)), ((2 : Int), (4 : Int))]).length : Int)) (some ([((1 : Int), (2 : Int)), ((2 : Int), (4 : Int))], [((1 : Int), [(0 : Int)], (([((1 : Int), (2 : Int)), ((2 : Int), (4 : Int))]).getD 0 ((0 : Int), (0 : Int))).1, (([((1 : Int), (2 : Int)), ((2 : Int), (4 : Int))]).getD 0 ((0 : Int), (0 : Int))).2), ((1 : Int), [(1 : Int)], (([((1 : Int), (2 : Int)), ((2 : Int), (4 : Int))]).getD 1 ((0 : Int), (0 : Int))).1, (([((1 : Int), (2 : Int)), ((2 : Int), (4 : Int))]).getD 1 ((0 : Int), (0 : Int))).2), ((4 : Int), [(0 : Int), (1 : Int)], (1 : Int), (4 : Int))])))
def q3_c : VCode :=
 (.seq (.reg [o 0 (.mv (ke (cs [.i .u32, .i .u32]))), o 1 (.mv (ke (cs [I, .l (cs [I]), .i .u32, .i .u32])))])
 (.seq (.reg [o 3 (.build [.i .u32 0, .i .u32 0] [(0, 1, (ki .u32 1)), (1, 1, (ki .u32 2))]), o 4 (.build [.i .u32 0, .i .u32 0] [(0, 1, (ki .u32 2)), (1, 1, (ki .u32 4))]), o 5 (.bsl (cs [.i .u32, .i .u32]) 2 [(0, (t 3)), (1, (t 4))]), o 2 (.mv (t 5))])
 (.seq (.reg [o 6 (.mv (t 2)), o 7 (.bsl (cs [I]) 1 [(0, (k 0))]), o 8 (.mv (t 2)), o 9 (.iad 2 (t 8) (k 0)), o 10 (.load true 2 (t 9)), o 11 (.build [.i .i64 0, .e (cs [I]), .i .u32 0, .i .u32 0] [(0, 1, (k 1)), (1, 1, (t 7)), (2, 2, (t 10))]), o 12 (.bsl (cs [I]) 1 [(0, (k 1))]), o 13 (.mv (t 2)), o 14 (.iad 2 (t 13) (k 1)), o 15 (.load true 2 (t 14)), o 16 (.build [.i .i64 0, .e (cs [I]), .i .u32 0, .i .u32 0] [(0, 1, (k 1)), (1, 1, (t 12)), (2, 2, (t 15))]), o 17 (.bsl (cs [I]) 2 [(0, (k 0)), (1, (k 1))]), o 18 (.build [.i .u32 0, .i .u32 0] [(0, 1, (ki .u32 1)), (1, 1, (ki .u32 4))]), o 19 (.build [.i .i64 0, .e (cs [I]), .i .u32 0, .i .u32 0] [(0, 1, (k 4)), (1, 1, (t 17)), (2, 2, (t 18))]), o 20 (.bsl (cs [I, .l (cs [I]), .i .u32, .i .u32]) 3 [(0, (t 11)), (1, (t 16)), (2, (t 19))]), o 0 (.mv (t 6)), o 1 (.mv (t 20))])
 (.fz [0, 1] .ret))))
def q3_F : VFn := ⟨true, 21, [.t 0, .t 1], q3_c⟩
def q3_f (lo : Lo) : FnE := ⟨131, true, ⟨[], [], [], (cs [])⟩, .tp [.l (cs [.i .u32, .i .u32]), .l (cs [I, .l (cs [I]), .i .u32, .i .u32])], [], (cs [.l (cs [.i .u32, .i .u32]), .l (cs [I, .l (cs [I]), .i .u32, .i .u32])]), (fun x => q3 lo  : Unit → Option ((List (Int × Int)) × (List (Int × (List Int) × Int × Int))))⟩
theorem q3_e (lo : Lo) : ∀ x : Unit, evP (⟨pf, fs3 lo, [], 0⟩ : Tabs) q3_F ⟨[], [], [], (cs [])⟩ (.tp [.l (cs [.i .u32, .i .u32]), .l (cs [I, .l (cs [I]), .i .u32, .i .u32])]) (cs [.l (cs [.i .u32, .i .u32]), .l (cs [I, .l (cs [I]), .i .u32, .i .u32])]) x = q3 lo  := fun x => by kernel_rfl
theorem q3_S {P : Program} {fm : FM} {lo : Lo} (hlo : LoOK lo) (hS : Sound P fm ⟨pf, fs3 lo, [], 0⟩) (hm : P.follows .mixedOrders = true) (htie : ∀ f, fm f = 131 → fnTr P fm pf f = some (q3_F.slots, q3_F.res, q3_F.code.er)) : Sound P fm ⟨pf, q3_f lo :: fs3 lo, [], 0⟩ :=
  fn_sound hS hm [] (q3_f lo) rfl q3_F htie (by decide) rfl (Nat.le_of_ble_eq_true (by kernel_rfl)) (fun C hT => show LsOK (fun _ => False) [] C (⟨pf, fs3 lo, [], 0⟩ : Tabs) q3_c from ⟨trivial, ⟨trivial, ⟨trivial, trivial⟩⟩⟩) (fun x y h => (q3_e lo x).trans h)
def fs4 (lo : Lo) : List FnE := q3_f lo :: fs3 lo
def q4_L3_b : VCode :=
 (.seq (.reg [o 19 (.bin .lss (t 18) (t 17))])
 (.seq (.cond (t 19) .skip
 (.exit 0))
 (.seq (.blk 1 (.seq (.reg [o 20 (.iad 2 (t 16) (t 18)), o 21 (.load true 2 (t 20)), o 6 (.alloc [.i .u32 0, .i .u32 0]), on (.store 2 (t 6) (t 21))])
 (.seq (.reg [o 22 (.fad 0 (t 6)), o 23 (.load false 1 (t 22)), o 24 (.fad 1 (t 6)), o 25 (.load false 1 (t 24)), o 26 (.bin .or (t 23) (t 25)), o 27 (.mv (t 0)), o 28 (.bin .shr (t 26) (t 27)), o 29 (.bin .neq (t 28) (ki .u32 0))])
 (.cond (t 29) (.seq (.reg [o 4 (.mv (k 1))])
 (.fz [4] .ret))
 .skip))))
 (.reg [o 30 (.bin .add (t 18) (k 1)), o 18 (.mv (t 30))]))))
def q4_L3_g : Sg := ⟨[0, 16, 17, 18], [.i .i64, .l (cs [.i .u32, .i .u32]), .i .i64, .i .i64], [], (cs [I, .l (cs [.i .u32, .i .u32]), I, I])⟩
def q4_L3_o : List Out1 := [⟨.ret, ⟨[4], [.i .i64], [], (cs [I])⟩⟩, ⟨.exit 0, ⟨[], [], [], (cs [])⟩⟩]
def q4_L3_s (lo : Lo) : Int × (List (Int × Int)) × Int × Int → Option ((Int × (List (Int × Int)) × Int × Int) ⊕ (Int ⊕ Unit)) := fun x => match x with
  | (n0, v16, v17, v18) => bif (decide (v18 < v17)) then (chk (0 ≤ v18 ∧ v18 < (v16.length : Int)) (chk (0 ≤ n0) (bif (!decide (((bits .or .u32 ((v16.getD v18.toNat ((0 : Int), (0 : Int))).1) ((v16.getD v18.toNat ((0 : Int), (0 : Int))).2)).fdiv (2 ^ (min n0.toNat (IntKind.bits .u32)))) = (0 : Int))) then (some (.inr (.inl (1 : Int)))) else (some (.inl (n0, v16, v17, (IntKind.wrap .i64 (v18 + (1 : Int))))))))) else (some (.inr (.inr ())))
theorem q4_L3_e (lo : Lo) : ∀ x : Int × (List (Int × Int)) × Int × Int, stepL (⟨pf, fs4 lo, [], 0⟩ : Tabs) [] q4_L3_g q4_L3_o q4_L3_b x = q4_L3_s lo x := fun x => by kernel_rfl
def q4_L3 (lo : Lo) : Int × (List (Int × Int)) × Int × Int → Option (Int ⊕ Unit) := lo.run (q4_L3_s lo)
def q4_L3_p (lo : Lo) : LpE := ⟨3, [], q4_L3_g, q4_L3_o, q4_L3 lo⟩
theorem q4_L3_k {lo : Lo} (hlo : LoOK lo) (C : Ctx) (hT : TOK (⟨pf, fs4 lo, [], 0⟩ : Tabs) C) : LpSound (fun _ => False) [] 0 C (.loop q4_L3_b.er) (q4_L3_p lo) :=
  loop_sound (T := (⟨pf, fs4 lo, [], 0⟩ : Tabs)) hT frNo (show LsOK (fun _ => False) [] C (⟨pf, fs4 lo, [], 0⟩ : Tabs) q4_L3_b from ⟨trivial, ⟨⟨trivial, trivial⟩, ⟨⟨trivial, ⟨trivial, ⟨⟨trivial, trivial⟩, trivial⟩⟩⟩, trivial⟩⟩⟩) (fun x y h => loopO_congr (q4_L3_e lo) (hlo _ _ _ h))
def q4 (lo : Lo) (n0 : Int) (fds1 : List (Int × Int)) : Option Int :=
  bif (decide (n0 < (0 : Int))) then (some (7 : Int)) else (bif (decide ((16 : Int) < n0)) then (some (7 : Int)) else (bif (decide ((64 : Int) < (fds1.length : Int))) then (some (3 : Int)) else (Option.bind (q4_L3 lo (n0, fds1, (fds1.length : Int), (0 : Int))) fun y6 => alt2 y6 (fun y7 => some y7) (fun y8 => some (0 : Int)))))
def q4_c : VCode :=
 (.seq (.reg [o 4 (.mv (k 0))])
 (.seq (.seq (.reg [o 7 (.mv (t 0)), o 8 (.bin .lss (t 7) (k 0)), o 9 (.mv (t 8)), og 10 9 false (.mv (t 0)), og 11 9 false (.bin .gtr (t 10) (k 16)), o 12 (.pick (t 9) (kb true) (t 11))])
 (.cond (t 12) (.seq (.reg [o 4 (.mv (k 7))])
 (.fz [4] .ret))
 .skip))
 (.seq (.seq (.reg [o 13 (.mv (t 1)), o 14 (.len (t 13)), o 15 (.bin .gtr (t 14) (k 64))])
 (.cond (t 15) (.seq (.reg [o 4 (.mv (k 3))])
 (.fz [4] .ret))
 .skip))
 (.seq (.seq (.reg [o 16 (.mv (t 1)), o 17 (.len (t 16)), o 18 (.mv (k 0))])
 (.blk 0 (.loop 3 q4_L3_b)))
 (.seq (.reg [o 4 (.mv (k 0))])
 (.fz [4] .ret))))))
def q4_F : VFn := ⟨true, 31, [.t 4], q4_c⟩
def q4_f (lo : Lo) : FnE := ⟨132, true, ⟨[0, 1], [.i .i64, .l (cs [.i .u32, .i .u32])], [], (cs [I, .l (cs [.i .u32, .i .u32])])⟩, .i .i64, [], (cs [I]), (fun x => q4 lo x.1 x.2 : Int × (List (Int × Int)) → Option Int)⟩
theorem q4_e (lo : Lo) : ∀ x : Int × (List (Int × Int)), evP (⟨pf, fs4 lo, [q4_L3_p lo], 0⟩ : Tabs) q4_F ⟨[0, 1], [.i .i64, .l (cs [.i .u32, .i .u32])], [], (cs [I, .l (cs [.i .u32, .i .u32])])⟩ (.i .i64) (cs [I]) x = q4 lo x.1 x.2 := fun x => by kernel_rfl
theorem q4_S {P : Program} {fm : FM} {lo : Lo} (hlo : LoOK lo) (hS : Sound P fm ⟨pf, fs4 lo, [], 0⟩) (hm : P.follows .mixedOrders = true) (htie : ∀ f, fm f = 132 → fnTr P fm pf f = some (q4_F.slots, q4_F.res, q4_F.code.er)) : Sound P fm ⟨pf, q4_f lo :: fs4 lo, [], 0⟩ :=
  fn_sound hS hm [q4_L3_p lo] (q4_f lo) rfl q4_F htie (by decide) rfl (Nat.le_of_ble_eq_true (by kernel_rfl)) (fun C hT => show LsOK (fun _ => False) [] C (⟨pf, fs4 lo, [q4_L3_p lo], 0⟩ : Tabs) q4_c from ⟨trivial, ⟨⟨trivial, ⟨⟨trivial, trivial⟩, trivial⟩⟩, ⟨⟨trivial, ⟨⟨trivial, trivial⟩, trivial⟩⟩, ⟨⟨trivial, (lsGet (by kernel_rfl) (q4_L3_k hlo C (tok_ls hT)))⟩, ⟨trivial, trivial⟩⟩⟩⟩⟩) (fun x y h => (q4_e lo x).trans h)
def fs5 (lo : Lo) : List FnE := q4_f lo :: fs4 lo
def q5 (lo : Lo) (n0 : Int) : Option Int :=
  chk (0 ≤ n0) (some (IntKind.wrap .u32 ((IntKind.wrap .u32 ((1 : Int) * 2 ^ (min n0.toNat (IntKind.bits .u32)))) - (1 : Int))))
def q5_c : VCode :=
 (.seq (.reg [o 2 (.mv (ki .u32 0))])
 (.seq (.reg [o 3 (.mv (t 0)), o 4 (.bin .shl (ki .u32 1) (t 3)), o 5 (.bin .sub (t 4) (ki .u32 1)), o 2 (.mv (t 5))])
 (.fz [2] .ret)))
def q5_F : VFn := ⟨true, 6, [.t 2], q5_c⟩
def q5_f (lo : Lo) : FnE := ⟨138, true, ⟨[0], [.i .i64], [], (cs [I])⟩, .i .u32, [], (cs [.i .u32]), (fun x => q5 lo x : Int → Option Int)⟩
theorem q5_e (lo : Lo) : ∀ x : Int, evP (⟨pf, fs5 lo, [], 0⟩ : Tabs) q5_F ⟨[0], [.i .i64], [], (cs [I])⟩ (.i .u32) (cs [.i .u32]) x = q5 lo x := fun x => by kernel_rfl
theorem q5_S {P : Program} {fm : FM} {lo : Lo} (hlo : LoOK lo) (hS : Sound P fm ⟨pf, fs5 lo, [], 0⟩) (hm : P.follows .mixedOrders = true) (htie : ∀ f, fm f = 138 → fnTr P fm pf f = some (q5_F.slots, q5_F.res, q5_F.code.er)) : Sound P fm ⟨pf, q5_f lo :: fs5 lo, [], 0⟩ :=
  fn_sound hS hm [] (q5_f lo) rfl q5_F htie (by decide) rfl (Nat.le_of_ble_eq_true (by kernel_rfl)) (fun C hT => show LsOK (fun _ => False) [] C (⟨pf, fs5 lo, [], 0⟩ : Tabs) q5_c from ⟨trivial, ⟨trivial, trivial⟩⟩) (fun x y h => (q5_e lo x).trans h)
def fs6 (lo : Lo) : List FnE := q5_f lo :: fs5 lo
def q6 (lo : Lo) (a0 : Int) (b1 : Int) : Option Bool :=
  some (decide ((bits .andNot .u32 a0 b1) = (0 : Int)))
def q6_c : VCode :=
 (.seq (.reg [o 4 (.mv (kb false))])
 (.seq (.reg [o 5 (.mv (t 0)), o 6 (.mv (t 1)), o 7 (.bin .andNot (t 5) (t 6)), o 8 (.bin .eql (t 7) (ki .u32 0)), o 4 (.mv (t 8))])
 (.fz [4] .ret)))
def q6_F : VFn := ⟨true, 9, [.t 4], q6_c⟩
def q6_f (lo : Lo) : FnE := ⟨137, true, ⟨[0, 1], [.i .u32, .i .u32], [], (cs [.i .u32, .i .u32])⟩, .b, [], (cs [.b]), (fun x => q6 lo x.1 x.2 : Int × Int → Option Bool)⟩
theorem q6_e (lo : Lo) : ∀ x : Int × Int, evP (⟨pf, fs6 lo, [], 0⟩ : Tabs) q6_F ⟨[0, 1], [.i .u32, .i .u32], [], (cs [.i .u32, .i .u32])⟩ (.b) (cs [.b]) x = q6 lo x.1 x.2 := fun x => by kernel_rfl
theorem q6_S {P : Program} {fm : FM} {lo : Lo} (hlo : LoOK lo) (hS : Sound P fm ⟨pf, fs6 lo, [], 0⟩) (hm : P.follows .mixedOrders = true) (htie : ∀ f, fm f = 137 → fnTr P fm pf f = some (q6_F.slots, q6_F.res, q6_F.code.er)) : Sound P fm ⟨pf, q6_f lo :: fs6 lo, [], 0⟩ :=
  fn_sound hS hm [] (q6_f lo) rfl q6_F htie (by decide) rfl (Nat.le_of_ble_eq_true (by kernel_rfl)) (fun C hT => show LsOK (fun _ => False) [] C (⟨pf, fs6 lo, [], 0⟩ : Tabs) q6_c from ⟨trivial, ⟨trivial, trivial⟩⟩) (fun x y h => (q6_e lo x).trans h)
def fs7 (lo : Lo) : List FnE := q6_f lo :: fs6 lo
def q7 (lo : Lo) (k0 : Int) (v1 : Int) (v2 : List (Int × (List Int) × Int × Int)) : Option (Int × Int × Bool × Int × (List (Int × (List Int) × Int × Int))) :=
  bif (decide (k0 < (0 : Int))) then (some ((0 : Int), (0 : Int), false, v1, v2)) else (bif (decide (v1 ≤ k0)) then (some ((0 : Int), (0 : Int), false, v1, v2)) else (chk (0 ≤ k0 ∧ k0 < (v2.length : Int)) (some ((v2.getD k0.toNat ((0 : Int), [], (0 : Int), (0 : Int))).2.2.1, (v2.getD k0.toNat ((0 : Int), [], (0 : Int), (0 : Int))).2.2.2, true, v1, v2))))
def q7_c : VCode :=
 (.seq (.reg [o 4 (.alloc [.i .u32 0, .i .u32 0]), o 5 (.mv (kb false))])
 (.seq (.seq (.reg [o 6 (.mv (t 0)), o 7 (.bin .lss (t 6) (k 0)), o 8 (.mv (t 7)), og 9 8 false (.mv (t 0)), og 10 8 false (.load false 1 (t 1)), og 11 8 false (.bin .geq (t 9) (t 10)), o 12 (.pick (t 8) (kb true) (t 11))])
 (.cond (t 12) (.seq (.reg [o 13 (.build [.i .u32 0, .i .u32 0] []), on (.store 2 (t 4) (t 13)), o 5 (.mv (kb false))])
 .ret)
 .skip))
 (.seq (.reg [o 14 (.load false 1 (t 2)), o 15 (.mv (t 0)), o 16 (.iad 4 (t 14) (t 15)), o 17 (.fad 2 (t 16)), o 18 (.load true 2 (t 17)), on (.store 2 (t 4) (t 18)), o 5 (.mv (kb true))])
 .ret)))
def q7_F : VFn := ⟨true, 19, [.c 4 true 2, .t 5], q7_c⟩
def q7_f (lo : Lo) : FnE := ⟨158, false, ⟨[0, 1, 2], [.i .i64, .ptr 0 0 0, .ptr 1 0 0], [.st [.i .i64], .st [.l (cs [I, .l (cs [I]), .i .u32, .i .u32])]], (cs [I, I, .l (cs [I, .l (cs [I]), .i .u32, .i .u32])])⟩, .tp [.ag [.i .u32, .i .u32], .b], [.st [.i .i64], .st [.l (cs [I, .l (cs [I]), .i .u32, .i .u32])]], (cs [.i .u32, .i .u32, .b, I, .l (cs [I, .l (cs [I]), .i .u32, .i .u32])]), (fun x => q7 lo x.1 x.2.1 x.2.2 : Int × Int × (List (Int × (List Int) × Int × Int)) → Option (Int × Int × Bool × Int × (List (Int × (List Int) × Int × Int))))⟩
theorem q7_e (lo : Lo) : ∀ x : Int × Int × (List (Int × (List Int) × Int × Int)), evI (⟨pf, fs7 lo, [], 2⟩ : Tabs) q7_F ⟨[0, 1, 2], [.i .i64, .ptr 0 0 0, .ptr 1 0 0], [.st [.i .i64], .st [.l (cs [I, .l (cs [I]), .i .u32, .i .u32])]], (cs [I, I, .l (cs [I, .l (cs [I]), .i .u32, .i .u32])])⟩ (.tp [.ag [.i .u32, .i .u32], .b]) [.st [.i .i64], .st [.l (cs [I, .l (cs [I]), .i .u32, .i .u32])]] (cs [.i .u32, .i .u32, .b, I, .l (cs [I, .l (cs [I]), .i .u32, .i .u32])]) x = q7 lo x.1 x.2.1 x.2.2 := fun x => by kernel_rfl
theorem q7_S {P : Program} {fm : FM} {lo : Lo} (hlo : LoOK lo) (hS : Sound P fm ⟨pf, fs7 lo, [], 0⟩) (hm : P.follows .mixedOrders = true) (htie : ∀ f, fm f = 158 → fnTr P fm pf f = some (q7_F.slots, q7_F.res, q7_F.code.er)) : Sound P fm ⟨pf, q7_f lo :: fs7 lo, [], 0⟩ :=
  fnI_sound hS hm [] (q7_f lo) rfl q7_F htie (by decide) rfl (Nat.le_of_ble_eq_true (by kernel_rfl)) (fun C hT Fr H0 hf => show LsOK Fr H0 C (⟨pf, fs7 lo, [], 2⟩ : Tabs) q7_c from ⟨trivial, ⟨⟨trivial, ⟨⟨trivial, trivial⟩, trivial⟩⟩, ⟨trivial, trivial⟩⟩⟩) (fun x y h => (q7_e lo x).trans h)
def fs8 (lo : Lo) : List FnE := q7_f lo :: fs7 lo
def q8 (lo : Lo) (n0 : Int) (fds1 : List (Int × Int)) (steps2 : List (Int × (List Int) × Int × Int)) (i3 : Int) : Option Bool :=
  chk (0 ≤ i3 ∧ i3 < (steps2.length : Int)) (Option.bind (q5 lo n0) fun y10 => Option.bind (q6 lo (bits .or .u32 ((steps2.getD i3.toNat ((0 : Int), [], (0 : Int), (0 : Int))).2.2.1) ((steps2.getD i3.toNat ((0 : Int), [], (0 : Int), (0 : Int))).2.2.2)) y10) fun y11 => bif (!y11) then (some false) else (bif (decide ((steps2.getD i3.toNat ((0 : Int), [], (0 : Int), (0 : Int))).1 = (1 : Int))) then (bif (decide ((((steps2.getD i3.toNat ((0 : Int), [], (0 : Int), (0 : Int))).2.1).length : Int) = (1 : Int))) then (chk (0 ≤ (0 : Int) ∧ (0 : Int) < (((steps2.getD i3.toNat ((0 : Int), [], (0 : Int), (0 : Int))).2.1).length : Int)) (bif (decide ((0 : Int) ≤ (((steps2.getD i3.toNat ((0 : Int), [], (0 : Int), (0 : Int))).2.1).getD 0 (0 : Int)))) then (chk (0 ≤ (0 : Int) ∧ (0 : Int) < (((steps2.getD i3.toNat ((0 : Int), [], (0 : Int), (0 : Int))).2.1).length : Int)) (bif (decide ((((steps2.getD i3.toNat ((0 : Int), [], (0 : Int), (0 : Int))).2.1).getD 0 (0 : Int)) < (fds1.length : Int))) then (chk (0 ≤ (0 : Int) ∧ (0 : Int) < (((steps2.getD i3.toNat ((0 : Int), [], (0 : Int), (0 : Int))).2.1).length : Int)) (chk (0 ≤ (((steps2.getD i3.toNat ((0 : Int), [], (0 : Int), (0 : Int))).2.1).getD 0 (0 : Int)) ∧ (((steps2.getD i3.toNat ((0 : Int), [], (0 : Int), (0 : Int))).2.1).getD 0 (0 : Int)) < (fds1.length : Int)) (some ((decide ((fds1.getD ((((steps2.getD i3.toNat ((0 : Int), [], (0 : Int), (0 : Int))).2.1).getD 0 (0 : Int)).toNat) ((0 : Int), (0 : Int))).1 = (steps2.getD i3.toNat ((0 : Int), [], (0 : Int), (0 : Int))).2.2.1)) && ((decide ((fds1.getD ((((steps2.getD i3.toNat ((0 : Int), [], (0 : Int), (0 : Int))).2.1).getD 0 (0 : Int)).toNat) ((0 : Int), (0 : Int))).2 = (steps2.getD i3.toNat ((0 : Int), [], (0 : Int), (0 : Int))).2.2.2)) && true))))) else (some false))) else (some false))) else (some false)) else (bif (decide ((steps2.getD i3.toNat ((0 : Int), [], (0 : Int), (0 : Int))).1 = (2 : Int))) then (bif (decide ((((steps2.getD i3.toNat ((0 : Int), [], (0 : Int), (0 : Int))).2.1).length : Int) = (0 : Int))) then (Option.bind (q6 lo ((steps2.getD i3.toNat ((0 : Int), [], (0 : Int), (0 : Int))).2.2.2) ((steps2.getD i3.toNat ((0 : Int), [], (0 : Int), (0 : Int))).2.2.1)) fun y12 => some y12) else (some false)) else (bif (decide ((steps2.getD i3.toNat ((0 : Int), [], (0 : Int), (0 : Int))).1 = (3 : Int))) then (bif (!decide ((((steps2.getD i3.toNat ((0 : Int), [], (0 : Int), (0 : Int))).2.1).length : Int) = (1 : Int))) then (some false) else (chk (0 ≤ (0 : Int) ∧ (0 : Int) < (((steps2.getD i3.toNat ((0 : Int), [], (0 : Int), (0 : Int))).2.1).length : Int)) (Option.bind (q7 lo (((steps2.getD i3.toNat ((0 : Int), [], (0 : Int), (0 : Int))).2.1).getD 0 (0 : Int)) i3 steps2) fun y13 => bif y13.2.2.1 then (Option.bind (q6 lo y13.1 ((steps2.getD i3.toNat ((0 : Int), [], (0 : Int), (0 : Int))).2.2.1)) fun y14 => bif y14 then (Option.bind (q6 lo y13.2.1 ((steps2.getD i3.toNat ((0 : Int), [], (0 : Int), (0 : Int))).2.2.2)) fun y15 => bif y15 then (Option.bind (q6 lo (bits .andNot .u32 ((steps2.getD i3.toNat ((0 : Int), [], (0 : Int), (0 : Int))).2.2.1) y13.1) ((steps2.getD i3.toNat ((0 : Int), [], (0 : Int), (0 : Int))).2.2.2)) fun y16 => bif y16 then (Option.bind (q6 lo (bits .andNot .u32 ((steps2.getD i3.toNat ((0 : Int), [], (0 : Int), (0 : Int))).2.2.2) y13.2.1) ((steps2.getD i3.toNat ((0 : Int), [], (0 : Int), (0 : Int))).2.2.1)) fun y17 => some y17) else (some false)) else (some false)) else (some false)) else (some false)))) else (bif (decide ((steps2.getD i3.toNat ((0 : Int), [], (0 : Int), (0 : Int))).1 = (4 : Int))) then (bif (!decide ((((steps2.getD i3.toNat ((0 : Int), [], (0 : Int), (0 : Int))).2.1).length : Int) = (2 : Int))) then (some false) else (chk (0 ≤ (0 : Int) ∧ (0 : Int) < (((steps2.getD i3.toNat ((0 : Int), [], (0 : Int), (0 : Int))).2.1).length : Int)) (Option.bind (q7 lo (((steps2.getD i3.toNat ((0 : Int), [], (0 : Int), (0 : Int))).2.1).getD 0 (0 : Int)) i3 steps2) fun y18 => chk (0 ≤ (1 : Int) ∧ (1 : Int) < (((steps2.getD i3.toNat ((0 : Int), [], (0 : Int), (0 : Int))).2.1).length : Int)) (Option.bind (q7 lo (((steps2.getD i3.toNat ((0 : Int), [], (0 : Int), (0 : Int))).2.1).getD 1 (0 : Int)) y18.2.2.2.1 y18.2.2.2.2) fun y19 => bif y18.2.2.1 then (bif y19.2.2.1 then (bif (decide (y18.2.1 = y19.1)) then (some ((decide ((steps2.getD i3.toNat ((0 : Int), [], (0 : Int), (0 : Int))).2.2.1 = y18.1)) && ((decide ((steps2.getD i3.toNat ((0 : Int), [], (0 : Int), (0 : Int))).2.2.2 = y19.2.1)) && true))) else (some false)) else (some false)) else (some false))))) else (some false))))))
def q8_c : VCode :=
 (.seq (.reg [o 6 (.box (t 2)), o 7 (.box (t 3)), o 8 (.mv (kb false))])
 (.seq (.reg [o 18 (.load false 1 (t 6)), o 19 (.load false 1 (t 7)), o 20 (.iad 4 (t 18) (t 19)), o 21 (.load true 4 (t 20)), o 9 (.alloc [.i .i64 0, .e (cs [I]), .i .u32 0, .i .u32 0]), on (.store 4 (t 9) (t 21))])
 (.seq (.reg [o 22 (.fad 2 (t 9)), o 23 (.load true 2 (t 22)), o 10 (.alloc [.i .u32 0, .i .u32 0]), on (.store 2 (t 10) (t 23))])
 (.seq (.seq (.reg [o 24 (.fad 0 (t 10)), o 25 (.load false 1 (t 24)), o 26 (.fad 1 (t 10)), o 27 (.load false 1 (t 26)), o 28 (.bin .or (t 25) (t 27)), o 29 (.mv (t 0)), o 30 (.call 138 [(t 29)]), o 31 (.call 137 [(t 28), (t 30)]), o 32 (.not (t 31))])
 (.cond (t 32) (.seq (.reg [o 8 (.mv (kb false))])
 (.fz [8] .ret))
 .skip))
 (.seq (.reg [o 33 (.mkf 158 [(t 7), (t 6)]), o 11 (.mv (t 33))])
 (.seq (.seq (.reg [o 34 (.fad 0 (t 9)), o 35 (.load false 1 (t 34))])
 (.blk 0 (.seq (.reg [o 37 (.bin .eql (t 35) (k 1)), o 36 (.mv (t 37))])
 (.cond (t 36) (.seq (.reg [o 38 (.fad 1 (t 9)), o 39 (.load false 1 (t 38)), o 40 (.len (t 39)), o 41 (.bin .eql (t 40) (k 1)), o 42 (.mv (t 41)), og 43 42 true (.fad 1 (t 9)), og 44 42 true (.load false 1 (t 43)), og 45 42 true (.iad 1 (t 44) (k 0)), og 46 42 true (.load false 1 (t 45)), og 47 42 true (.bin .geq (t 46) (k 0)), o 48 (.pick (t 42) (t 47) (kb false)), o 49 (.mv (t 48)), og 50 49 true (.fad 1 (t 9)), og 51 49 true (.load false 1 (t 50)), og 52 49 true (.iad 1 (t 51) (k 0)), og 53 49 true (.load false 1 (t 52)), og 54 49 true (.mv (t 1)), og 55 49 true (.len (t 54)), og 56 49 true (.bin .lss (t 53) (t 55)), o 57 (.pick (t 49) (t 56) (kb false)), o 58 (.mv (t 57)), og 59 58 true (.mv (t 1)), og 60 58 true (.fad 1 (t 9)), og 61 58 true (.load false 1 (t 60)), og 62 58 true (.iad 1 (t 61) (k 0)), og 63 58 true (.load false 1 (t 62)), og 64 58 true (.iad 2 (t 59) (t 63)), og 65 58 true (.load true 2 (t 64)), og 66 58 true (.load true 2 (t 10)), og 67 58 true (.eqa false [1, 1] (t 65) (t 66)), o 68 (.pick (t 58) (t 67) (kb false)), o 8 (.mv (t 68))])
 (.fz [8] .ret))
 (.seq (.reg [o 70 (.bin .eql (t 35) (k 2)), o 69 (.mv (t 70))])
 (.cond (t 69) (.seq (.reg [o 71 (.fad 1 (t 9)), o 72 (.load false 1 (t 71)), o 73 (.len (t 72)), o 74 (.bin .eql (t 73) (k 0)), o 75 (.mv (t 74)), og 76 75 true (.fad 1 (t 10)), og 77 75 true (.load false 1 (t 76)), og 78 75 true (.fad 0 (t 10)), og 79 75 true (.load false 1 (t 78)), og 80 75 true (.call 137 [(t 77), (t 79)]), o 81 (.pick (t 75) (t 80) (kb false)), o 8 (.mv (t 81))])
 (.fz [8] .ret))
 (.seq (.reg [o 83 (.bin .eql (t 35) (k 3)), o 82 (.mv (t 83))])
 (.cond (t 82) (.seq (.seq (.reg [o 84 (.fad 1 (t 9)), o 85 (.load false 1 (t 84)), o 86 (.len (t 85)), o 87 (.bin .neq (t 86) (k 1))])
 (.cond (t 87) (.seq (.reg [o 8 (.mv (kb false))])
 (.fz [8] .ret))
 .skip))
 (.seq (.reg [o 89 (.mv (t 11)), o 90 (.fad 1 (t 9)), o 91 (.load false 1 (t 90)), o 92 (.iad 1 (t 91) (k 0)), o 93 (.load false 1 (t 92)), o 94 (.dyn (t 89) [(t 93)]), o 88 (.mv (t 94)), o 95 (.ext (t 88) 0), o 96 (.ext (t 88) 1), o 12 (.alloc [.i .u32 0, .i .u32 0]), on (.store 2 (t 12) (t 95)), o 13 (.mv (t 96))])
 (.seq (.reg [o 97 (.mv (t 13)), o 98 (.mv (t 97)), og 99 98 true (.fad 0 (t 12)), og 100 98 true (.load false 1 (t 99)), og 101 98 true (.fad 0 (t 10)), og 102 98 true (.load false 1 (t 101)), og 103 98 true (.call 137 [(t 100), (t 102)]), o 104 (.pick (t 98) (t 103) (kb false)), o 105 (.mv (t 104)), og 106 105 true (.fad 1 (t 12)), og 107 105 true (.load false 1 (t 106)), og 108 105 true (.fad 1 (t 10)), og 109 105 true (.load false 1 (t 108)), og 110 105 true (.call 137 [(t 107), (t 109)]), o 111 (.pick (t 105) (t 110) (kb false)), o 112 (.mv (t 111)), og 113 112 true (.fad 0 (t 10)), og 114 112 true (.load false 1 (t 113)), og 115 112 true (.fad 0 (t 12)), og 116 112 true (.load false 1 (t 115)), og 117 112 true (.bin .andNot (t 114) (t 116)), og 118 112 true (.fad 1 (t 10)), og 119 112 true (.load false 1 (t 118)), og 120 112 true (.call 137 [(t 117), (t 119)]), o 121 (.pick (t 112) (t 120) (kb false)), o 122 (.mv (t 121)), og 123 122 true (.fad 1 (t 10)), og 124 122 true (.load false 1 (t 123)), og 125 122 true (.fad 1 (t 12)), og 126 122 true (.load false 1 (t 125)), og 127 122 true (.bin .andNot (t 124) (t 126)), og 128 122 true (.fad 0 (t 10)), og 129 122 true (.load false 1 (t 128)), og 130 122 true (.call 137 [(t 127), (t 129)]), o 131 (.pick (t 122) (t 130) (kb false)), o 8 (.mv (t 131))])
 (.fz [8] .ret))))
 (.seq (.reg [o 133 (.bin .eql (t 35) (k 4)), o 132 (.mv (t 133))])
 (.cond (t 132) (.seq (.seq (.reg [o 134 (.fad 1 (t 9)), o 135 (.load false 1 (t 134)), o 136 (.len (t 135)), o 137 (.bin .neq (t 136) (k 2))])
 (.cond (t 137) (.seq (.reg [o 8 (.mv (kb false))])
 (.fz [8] .ret))
 .skip))
 (.seq (.reg [o 139 (.mv (t 11)), o 140 (.fad 1 (t 9)), o 141 (.load false 1 (t 140)), o 142 (.iad 1 (t 141) (k 0)), o 143 (.load false 1 (t 142)), o 144 (.dyn (t 139) [(t 143)]), o 138 (.mv (t 144)), o 145 (.ext (t 138) 0), o 146 (.ext (t 138) 1), o 14 (.alloc [.i .u32 0, .i .u32 0]), on (.store 2 (t 14) (t 145)), o 15 (.mv (t 146))])
 (.seq (.reg [o 148 (.mv (t 11)), o 149 (.fad 1 (t 9)), o 150 (.load false 1 (t 149)), o 151 (.iad 1 (t 150) (k 1)), o 152 (.load false 1 (t 151)), o 153 (.dyn (t 148) [(t 152)]), o 147 (.mv (t 153)), o 154 (.ext (t 147) 0), o 155 (.ext (t 147) 1), o 16 (.alloc [.i .u32 0, .i .u32 0]), on (.store 2 (t 16) (t 154)), o 17 (.mv (t 155))])
 (.seq (.reg [o 156 (.mv (t 15)), o 157 (.mv (t 156)), og 158 157 true (.mv (t 17)), o 159 (.pick (t 157) (t 158) (kb false)), o 160 (.mv (t 159)), og 161 160 true (.fad 1 (t 14)), og 162 160 true (.load false 1 (t 161)), og 163 160 true (.fad 0 (t 16)), og 164 160 true (.load false 1 (t 163)), og 165 160 true (.bin .eql (t 162) (t 164)), o 166 (.pick (t 160) (t 165) (kb false)), o 167 (.mv (t 166)), og 168 167 true (.load true 2 (t 10)), og 169 167 true (.fad 0 (t 14)), og 170 167 true (.load false 1 (t 169)), og 171 167 true (.fad 1 (t 16)), og 172 167 true (.load false 1 (t 171)), og 173 167 true (.build [.i .u32 0, .i .u32 0] [(0, 1, (t 170)), (1, 1, (t 172))]), og 174 167 true (.eqa false [1, 1] (t 168) (t 173)), o 175 (.pick (t 167) (t 174) (kb false)), o 8 (.mv (t 175))])
 (.fz [8] .ret)))))
 .skip))))))))))
 (.seq (.reg [o 8 (.mv (kb false))])
 (.fz [8] .ret))))))))
def q8_F : VFn := ⟨true, 176, [.t 8], q8_c⟩
def q8_f (lo : Lo) : FnE := ⟨133, true, ⟨[0, 1, 2, 3], [.i .i64, .l (cs [.i .u32, .i .u32]), .l (cs [I, .l (cs [I]), .i .u32, .i .u32]), .i .i64], [], (cs [I, .l (cs [.i .u32, .i .u32]), .l (cs [I, .l (cs [I]), .i .u32, .i .u32]), I])⟩, .b, [], (cs [.b]), (fun x => q8 lo x.1 x.2.1 x.2.2.1 x.2.2.2 : Int × (List (Int × Int)) × (List (Int × (List Int) × Int × Int)) × Int → Option Bool)⟩
theorem q8_e (lo : Lo) : ∀ x : Int × (List (Int × Int)) × (List (Int × (List Int) × Int × Int)) × Int, evP (⟨pf, fs8 lo, [], 0⟩ : Tabs) q8_F ⟨[0, 1, 2, 3], [.i .i64, .l (cs [.i .u32, .i .u32]), .l (cs [I, .l (cs [I]), .i .u32, .i .u32]), .i .i64], [], (cs [I, .l (cs [.i .u32, .i .u32]), .l (cs [I, .l (cs [I]), .i .u32, .i .u32]), I])⟩ (.b) (cs [.b]) x = q8 lo x.1 x.2.1 x.2.2.1 x.2.2.2 := fun x => by kernel_rfl
theorem q8_S {P : Program} {fm : FM} {lo : Lo} (hlo : LoOK lo) (hS : Sound P fm ⟨pf, fs8 lo, [], 0⟩) (hm : P.follows .mixedOrders = true) (htie : ∀ f, fm f = 133 → fnTr P fm pf f = some (q8_F.slots, q8_F.res, q8_F.code.er)) : Sound P fm ⟨pf, q8_f lo :: fs8 lo, [], 0⟩ :=
  fn_sound hS hm [] (q8_f lo) rfl q8_F htie (by decide) rfl (Nat.le_of_ble_eq_true (by kernel_rfl)) (fun C hT => show LsOK (fun _ => False) [] C (⟨pf, fs8 lo, [], 0⟩ : Tabs) q8_c from ⟨trivial, ⟨trivial, ⟨trivial, ⟨⟨trivial, ⟨⟨trivial, trivial⟩, trivial⟩⟩, ⟨trivial, ⟨⟨trivial, ⟨trivial, ⟨⟨trivial, trivial⟩, ⟨trivial, ⟨⟨trivial, trivial⟩, ⟨trivial, ⟨⟨⟨trivial, ⟨⟨trivial, trivial⟩, trivial⟩⟩, ⟨trivial, ⟨trivial, trivial⟩⟩⟩, ⟨trivial, ⟨⟨⟨trivial, ⟨⟨trivial, trivial⟩, trivial⟩⟩, ⟨trivial, ⟨trivial, ⟨trivial, trivial⟩⟩⟩⟩, trivial⟩⟩⟩⟩⟩⟩⟩⟩⟩, ⟨trivial, trivial⟩⟩⟩⟩⟩⟩⟩) (fun x y h => (q8_e lo x).trans h)
def fs9 (lo : Lo) : List FnE := q8_f lo :: fs8 lo
def q9_L3_b : VCode :=
 (.seq (.reg [o 22 (.bin .lss (t 21) (t 20))])
 (.seq (.cond (t 22) .skip
 (.exit 0))
 (.seq (.blk 1 (.seq (.reg [o 23 (.mv (t 21)), o 9 (.mv (t 23))])
 (.seq (.reg [o 24 (.mv (t 0)), o 25 (.mv (t 1)), o 26 (.mv (t 2)), o 27 (.mv (t 9)), o 28 (.call 133 [(t 24), (t 25), (t 26), (t 27)]), o 29 (.not (t 28))])
 (.cond (t 29) (.seq (.reg [o 30 (.mv (t 9)), o 6 (.mv (t 30)), o 7 (.mv (k 1))])
 (.fz [6, 7] .ret))
 .skip))))
 (.reg [o 31 (.bin .add (t 21) (k 1)), o 21 (.mv (t 31))]))))
def q9_L3_g : Sg := ⟨[0, 1, 2, 20, 21], [.i .i64, .l (cs [.i .u32, .i .u32]), .l (cs [I, .l (cs [I]), .i .u32, .i .u32]), .i .i64, .i .i64], [], (cs [I, .l (cs [.i .u32, .i .u32]), .l (cs [I, .l (cs [I]), .i .u32, .i .u32]), I, I])⟩
def q9_L3_o : List Out1 := [⟨.ret, ⟨[6, 7], [.i .i64, .i .i64], [], (cs [I, I])⟩⟩, ⟨.exit 0, ⟨[], [], [], (cs [])⟩⟩]
def q9_L3_s (lo : Lo) : Int × (List (Int × Int)) × (List (Int × (List Int) × Int × Int)) × Int × Int → Option ((Int × (List (Int × Int)) × (List (Int × (List Int) × Int × Int)) × Int × Int) ⊕ ((Int × Int) ⊕ Unit)) := fun x => match x with
  | (n0, fds1, steps2, v20, v21) => bif (decide (v21 < v20)) then (Option.bind (q8 lo n0 fds1 steps2 v21) fun y20 => bif (!y20) then (some (.inr (.inl (v21, (1 : Int))))) else (some (.inl (n0, fds1, steps2, v20, (IntKind.wrap .i64 (v21 + (1 : Int))))))) else (some (.inr (.inr ())))
theorem q9_L3_e (lo : Lo) : ∀ x : Int × (List (Int × Int)) × (List (Int × (List Int) × Int × Int)) × Int × Int, stepL (⟨pf, fs9 lo, [], 0⟩ : Tabs) [] q9_L3_g q9_L3_o q9_L3_b x = q9_L3_s lo x := fun x => by kernel_rfl
def q9_L3 (lo : Lo) : Int × (List (Int × Int)) × (List (Int × (List Int) × Int × Int)) × Int × Int → Option ((Int × Int) ⊕ Unit) := lo.run (q9_L3_s lo)
def q9_L3_p (lo : Lo) : LpE := ⟨3, [], q9_L3_g, q9_L3_o, q9_L3 lo⟩
theorem q9_L3_k {lo : Lo} (hlo : LoOK lo) (C : Ctx) (hT : TOK (⟨pf, fs9 lo, [], 0⟩ : Tabs) C) : LpSound (fun _ => False) [] 0 C (.loop q9_L3_b.er) (q9_L3_p lo) :=
  loop_sound (T := (⟨pf, fs9 lo, [], 0⟩ : Tabs)) hT frNo (show LsOK (fun _ => False) [] C (⟨pf, fs9 lo, [], 0⟩ : Tabs) q9_L3_b from ⟨trivial, ⟨⟨trivial, trivial⟩, ⟨⟨trivial, ⟨trivial, ⟨⟨trivial, trivial⟩, trivial⟩⟩⟩, trivial⟩⟩⟩) (fun x y h => loopO_congr (q9_L3_e lo) (hlo _ _ _ h))
def q9 (lo : Lo) (n0 : Int) (fds1 : List (Int × Int)) (steps2 : List (Int × (List Int) × Int × Int)) : Option (Int × Int) :=
  Option.bind (q4 lo n0 fds1) fun y9 => bif (!decide (y9 = (0 : Int))) then (some ((0 : Int), y9)) else (bif (decide ((steps2.length : Int) = (0 : Int))) then (some ((0 : Int), (12 : Int))) else (Option.bind (q9_L3 lo (n0, fds1, steps2, (steps2.length : Int), (0 : Int))) fun y21 => alt2 y21 (fun y22 => some (y22.1, y22.2)) (fun y23 => some ((0 : Int), (0 : Int)))))
def q9_c : VCode :=
 (.seq (.reg [o 6 (.mv (k 0)), o 7 (.mv (k 0))])
 (.seq (.seq (.reg [o 10 (.mv (t 0)), o 11 (.mv (t 1)), o 12 (.call 132 [(t 10), (t 11)]), o 8 (.mv (t 12))])
 (.seq (.reg [o 13 (.mv (t 8)), o 14 (.bin .neq (t 13) (k 0))])
 (.cond (t 14) (.seq (.reg [o 15 (.mv (t 8)), o 6 (.mv (k 0)), o 7 (.mv (t 15))])
 (.fz [6, 7] .ret))
 .skip)))
 (.seq (.seq (.reg [o 16 (.mv (t 2)), o 17 (.len (t 16)), o 18 (.bin .eql (t 17) (k 0))])
 (.cond (t 18) (.seq (.reg [o 6 (.mv (k 0)), o 7 (.mv (k 12))])
 (.fz [6, 7] .ret))
 .skip))
 (.seq (.seq (.reg [o 19 (.mv (t 2)), o 20 (.len (t 19)), o 21 (.mv (k 0))])
 (.blk 0 (.loop 3 q9_L3_b)))
 (.seq (.reg [o 6 (.mv (k 0)), o 7 (.mv (k 0))])
 (.fz [6, 7] .ret))))))
def q9_F : VFn := ⟨true, 32, [.t 6, .t 7], q9_c⟩
def q9_f (lo : Lo) : FnE := ⟨111, true, ⟨[0, 1, 2], [.i .i64, .l (cs [.i .u32, .i .u32]), .l (cs [I, .l (cs [I]), .i .u32, .i .u32])], [], (cs [I, .l (cs [.i .u32, .i .u32]), .l (cs [I, .l (cs [I]), .i .u32, .i .u32])])⟩, .tp [.i .i64, .i .i64], [], (cs [I, I]), (fun x => q9 lo x.1 x.2.1 x.2.2 : Int × (List (Int × Int)) × (List (Int × (List Int) × Int × Int)) → Option (Int × Int))⟩
theorem q9_e (lo : Lo) : ∀ x : Int × (List (Int × Int)) × (List (Int × (List Int) × Int × Int)), evP (⟨pf, fs9 lo, [q9_L3_p lo], 0⟩ : Tabs) q9_F ⟨[0, 1, 2], [.i .i64, .l (cs [.i .u32, .i .u32]), .l (cs [I, .l (cs [I]), .i .u32, .i .u32])], [], (cs [I, .l (cs [.i .u32, .i .u32]), .l (cs [I, .l (cs [I]), .i .u32, .i .u32])])⟩ (.tp [.i .i64, .i .i64]) (cs [I, I]) x = q9 lo x.1 x.2.1 x.2.2 := fun x => by kernel_rfl
theorem q9_S {P : Program} {fm : FM} {lo : Lo} (hlo : LoOK lo) (hS : Sound P fm ⟨pf, fs9 lo, [], 0⟩) (hm : P.follows .mixedOrders = true) (htie : ∀ f, fm f = 111 → fnTr P fm pf f = some (q9_F.slots, q9_F.res, q9_F.code.er)) : Sound P fm ⟨pf, q9_f lo :: fs9 lo, [], 0⟩ :=
  fn_sound hS hm [q9_L3_p lo] (q9_f lo) rfl q9_F htie (by decide) rfl (Nat.le_of_ble_eq_true (by kernel_rfl)) (fun C hT => show LsOK (fun _ => False) [] C (⟨pf, fs9 lo, [q9_L3_p lo], 0⟩ : Tabs) q9_c from ⟨trivial, ⟨⟨trivial, ⟨trivial, ⟨⟨trivial, trivial⟩, trivial⟩⟩⟩, ⟨⟨trivial, ⟨⟨trivial, trivial⟩, trivial⟩⟩, ⟨⟨trivial, (lsGet (by kernel_rfl) (q9_L3_k hlo C (tok_ls hT)))⟩, ⟨trivial, trivial⟩⟩⟩⟩⟩) (fun x y h => (q9_e lo x).trans h)
def fs10 (lo : Lo) : List FnE := q9_f lo :: fs9 lo
def q10_L5_b : VCode :=
 (.seq (.reg [o 12 (.bin .lss (t 11) (t 10))])
 (.seq (.cond (t 12) .skip
 (.exit 2))
 (.seq (.blk 3 (.seq (.reg [o 13 (.iad 2 (t 9) (t 11)), o 14 (.load true 2 (t 13)), o 7 (.alloc [.i .u32 0, .i .u32 0]), on (.store 2 (t 7) (t 14))])
 (.seq (.reg [o 15 (.fad 0 (t 7)), o 16 (.load false 1 (t 15)), o 17 (.mv (t 1)), o 18 (.bin .andNot (t 16) (t 17)), o 19 (.bin .eql (t 18) (ki .u32 0))])
 (.cond (t 19) (.reg [o 20 (.mv (t 1)), o 21 (.fad 1 (t 7)), o 22 (.load false 1 (t 21)), o 23 (.bin .or (t 20) (t 22)), o 1 (.mv (t 23))])
 .skip))))
 (.reg [o 24 (.bin .add (t 11) (k 1)), o 11 (.mv (t 24))]))))
def q10_L5_g : Sg := ⟨[0, 1, 5, 9, 10, 11], [.l (cs [.i .u32, .i .u32]), .i .u32, .i .u32, .l (cs [.i .u32, .i .u32]), .i .i64, .i .i64], [], (cs [.l (cs [.i .u32, .i .u32]), .i .u32, .i .u32, .l (cs [.i .u32, .i .u32]), I, I])⟩
def q10_L5_o : List Out1 := [⟨.exit 2, ⟨[0, 1, 5], [.l (cs [.i .u32, .i .u32]), .i .u32, .i .u32], [], (cs [.l (cs [.i .u32, .i .u32]), .i .u32, .i .u32])⟩⟩]
def q10_L5_s (lo : Lo) : (List (Int × Int)) × Int × Int × (List (Int × Int)) × Int × Int → Option (((List (Int × Int)) × Int × Int × (List (Int × Int)) × Int × Int) ⊕ (((List (Int × Int)) × Int × Int))) := fun x => match x with
  | (fds0, s1, before5, v9, v10, v11) => bif (decide (v11 < v10)) then (chk (0 ≤ v11 ∧ v11 < (v9.length : Int)) (bif (decide ((bits .andNot .u32 ((v9.getD v11.toNat ((0 : Int), (0 : Int))).1) s1) = (0 : Int))) then (some (.inl (fds0, (bits .or .u32 s1 ((v9.getD v11.toNat ((0 : Int), (0 : Int))).2)), before5, v9, v10, (IntKind.wrap .i64 (v11 + (1 : Int)))))) else (some (.inl (fds0, s1, before5, v9, v10, (IntKind.wrap .i64 (v11 + (1 : Int)))))))) else (some (.inr (fds0, s1, before5)))
theorem q10_L5_e (lo : Lo) : ∀ x : (List (Int × Int)) × Int × Int × (List (Int × Int)) × Int × Int, stepL (⟨pf, fs10 lo, [], 0⟩ : Tabs) [] q10_L5_g q10_L5_o q10_L5_b x = q10_L5_s lo x := fun x => by kernel_rfl
def q10_L5 (lo : Lo) : (List (Int × Int)) × Int × Int × (List (Int × Int)) × Int × Int → Option (((List (Int × Int)) × Int × Int)) := lo.run (q10_L5_s lo)
def q10_L5_p (lo : Lo) : LpE := ⟨5, [], q10_L5_g, q10_L5_o, q10_L5 lo⟩
theorem q10_L5_k {lo : Lo} (hlo : LoOK lo) (C : Ctx) (hT : TOK (⟨pf, fs10 lo, [], 0⟩ : Tabs) C) : LpSound (fun _ => False) [] 0 C (.loop q10_L5_b.er) (q10_L5_p lo) :=
  loop_sound (T := (⟨pf, fs10 lo, [], 0⟩ : Tabs)) hT frNo (show LsOK (fun _ => False) [] C (⟨pf, fs10 lo, [], 0⟩ : Tabs) q10_L5_b from ⟨trivial, ⟨⟨trivial, trivial⟩, ⟨⟨trivial, ⟨trivial, ⟨trivial, trivial⟩⟩⟩, trivial⟩⟩⟩) (fun x y h => loopO_congr (q10_L5_e lo) (hlo _ _ _ h))
def q10_L1_b : VCode :=
 (.blk 1 (.seq (.reg [o 8 (.mv (t 1)), o 5 (.mv (t 8))])
 (.seq (.seq (.reg [o 9 (.mv (t 0)), o 10 (.len (t 9)), o 11 (.mv (k 0))])
 (.blk 2 (.loop 5 q10_L5_b)))
 (.seq (.reg [o 25 (.mv (t 1)), o 26 (.mv (t 5)), o 27 (.bin .eql (t 25) (t 26))])
 (.cond (t 27) (.seq (.reg [o 28 (.mv (t 1)), o 4 (.mv (t 28))])
 (.fz [4] .ret))
 .skip)))))
def q10_L1_g : Sg := ⟨[0, 1], [.l (cs [.i .u32, .i .u32]), .i .u32], [], (cs [.l (cs [.i .u32, .i .u32]), .i .u32])⟩
def q10_L1_o : List Out1 := [⟨.ret, ⟨[4], [.i .u32], [], (cs [.i .u32])⟩⟩]
def q10_L1_s (lo : Lo) : (List (Int × Int)) × Int → Option (((List (Int × Int)) × Int) ⊕ Int) := fun x => match x with
  | (fds0, s1) => Option.bind (q10_L5 lo (fds0, s1, s1, fds0, (fds0.length : Int), (0 : Int))) fun y29 => bif (decide (y29.2.1 = y29.2.2)) then (some (.inr y29.2.1)) else (some (.inl (y29.1, y29.2.1)))
theorem q10_L1_e (lo : Lo) : ∀ x : (List (Int × Int)) × Int, stepL (⟨pf, fs10 lo, [q10_L5_p lo], 0⟩ : Tabs) [] q10_L1_g q10_L1_o q10_L1_b x = q10_L1_s lo x := fun x => by kernel_rfl
def q10_L1 (lo : Lo) : (List (Int × Int)) × Int → Option Int := lo.run (q10_L1_s lo)
def q10_L1_p (lo : Lo) : LpE := ⟨1, [], q10_L1_g, q10_L1_o, q10_L1 lo⟩
theorem q10_L1_k {lo : Lo} (hlo : LoOK lo) (C : Ctx) (hT : TOK (⟨pf, fs10 lo, [q10_L5_p lo], 0⟩ : Tabs) C) : LpSound (fun _ => False) [] 0 C (.loop q10_L1_b.er) (q10_L1_p lo) :=
  loop_sound (T := (⟨pf, fs10 lo, [q10_L5_p lo], 0⟩ : Tabs)) hT frNo (show LsOK (fun _ => False) [] C (⟨pf, fs10 lo, [q10_L5_p lo], 0⟩ : Tabs) q10_L1_b from ⟨trivial, ⟨⟨trivial, (lsGet (by kernel_rfl) (q10_L5_k hlo C (tok_ls hT)))⟩, ⟨trivial, ⟨⟨trivial, trivial⟩, trivial⟩⟩⟩⟩) (fun x y h => loopO_congr (q10_L1_e lo) (hlo _ _ _ h))
def q10 (lo : Lo) (fds0 : List (Int × Int)) (s1 : Int) : Option Int :=
  Option.bind (q10_L1 lo (fds0, s1)) fun y30 => some y30
def q10_c : VCode :=
 (.seq (.reg [o 4 (.mv (ki .u32 0))])
 (.blk 0 (.loop 1 q10_L1_b)))
def q10_F : VFn := ⟨true, 29, [.t 4], q10_c⟩
def q10_f (lo : Lo) : FnE := ⟨160, true, ⟨[0, 1], [.l (cs [.i .u32, .i .u32]), .i .u32], [], (cs [.l (cs [.i .u32, .i .u32]), .i .u32])⟩, .i .u32, [], (cs [.i .u32]), (fun x => q10 lo x.1 x.2 : (List (Int × Int)) × Int → Option Int)⟩
theorem q10_e (lo : Lo) : ∀ x : (List (Int × Int)) × Int, evP (⟨pf, fs10 lo, [q10_L1_p lo, q10_L5_p lo], 0⟩ : Tabs) q10_F ⟨[0, 1], [.l (cs [.i .u32, .i .u32]), .i .u32], [], (cs [.l (cs [.i .u32, .i .u32]), .i .u32])⟩ (.i .u32) (cs [.i .u32]) x = q10 lo x.1 x.2 := fun x => by kernel_rfl
theorem q10_S {P : Program} {fm : FM} {lo : Lo} (hlo : LoOK lo) (hS : Sound P fm ⟨pf, fs10 lo, [], 0⟩) (hm : P.follows .mixedOrders = true) (htie : ∀ f, fm f = 160 → fnTr P fm pf f = some (q10_F.slots, q10_F.res, q10_F.code.er)) : Sound P fm ⟨pf, q10_f lo :: fs10 lo, [], 0⟩ :=
  fn_sound hS hm [q10_L1_p lo, q10_L5_p lo] (q10_f lo) rfl q10_F htie (by decide) rfl (Nat.le_of_ble_eq_true (by kernel_rfl)) (fun C hT => show LsOK (fun _ => False) [] C (⟨pf, fs10 lo, [q10_L1_p lo, q10_L5_p lo], 0⟩ : Tabs) q10_c from ⟨trivial, (lsGet (by kernel_rfl) (q10_L1_k hlo C (tok_ls hT)))⟩) (fun x y h => (q10_e lo x).trans h)
def fs11 (lo : Lo) : List FnE := q10_f lo :: fs10 lo
def q11 (lo : Lo) (fds0 : List (Int × Int)) (fd1_0 : Int) (fd1_1 : Int) : Option Bool :=
  Option.bind (q10 lo fds0 fd1_0) fun y31 => some (decide ((bits .andNot .u32 fd1_1 y31) = (0 : Int)))
def q11_c : VCode :=
 (.seq (.reg [o 3 (.box (t 1)), o 4 (.mv (kb false))])
 (.seq (.reg [o 5 (.fad 1 (t 3)), o 6 (.load false 1 (t 5)), o 7 (.mv (t 0)), o 8 (.fad 0 (t 3)), o 9 (.load false 1 (t 8)), o 10 (.call 160 [(t 7), (t 9)]), o 11 (.bin .andNot (t 6) (t 10)), o 12 (.bin .eql (t 11) (ki .u32 0)), o 4 (.mv (t 12))])
 (.fz [4] .ret)))
def q11_F : VFn := ⟨true, 13, [.t 4], q11_c⟩
def q11_f (lo : Lo) : FnE := ⟨139, true, ⟨[0, 1], [.l (cs [.i .u32, .i .u32]), .ag [.i .u32, .i .u32]], [], (cs [.l (cs [.i .u32, .i .u32]), .i .u32, .i .u32])⟩, .b, [], (cs [.b]), (fun x => q11 lo x.1 x.2.1 x.2.2 : (List (Int × Int)) × Int × Int → Option Bool)⟩
theorem q11_e (lo : Lo) : ∀ x : (List (Int × Int)) × Int × Int, evP (⟨pf, fs11 lo, [], 0⟩ : Tabs) q11_F ⟨[0, 1], [.l (cs [.i .u32, .i .u32]), .ag [.i .u32, .i .u32]], [], (cs [.l (cs [.i .u32, .i .u32]), .i .u32, .i .u32])⟩ (.b) (cs [.b]) x = q11 lo x.1 x.2.1 x.2.2 := fun x => by kernel_rfl
theorem q11_S {P : Program} {fm : FM} {lo : Lo} (hlo : LoOK lo) (hS : Sound P fm ⟨pf, fs11 lo, [], 0⟩) (hm : P.follows .mixedOrders = true) (htie : ∀ f, fm f = 139 → fnTr P fm pf f = some (q11_F.slots, q11_F.res, q11_F.code.er)) : Sound P fm ⟨pf, q11_f lo :: fs11 lo, [], 0⟩ :=
  fn_sound hS hm [] (q11_f lo) rfl q11_F htie (by decide) rfl (Nat.le_of_ble_eq_true (by kernel_rfl)) (fun C hT => show LsOK (fun _ => False) [] C (⟨pf, fs11 lo, [], 0⟩ : Tabs) q11_c from ⟨trivial, ⟨trivial, trivial⟩⟩) (fun x y h => (q11_e lo x).trans h)
def fs12 (lo : Lo) : List FnE := q11_f lo :: fs11 lo
def q12 (lo : Lo) (rule1 : Int) (lhs2 : Int) (rhs3 : Int) : Option (Int × (List (Int × (List Int) × Int × Int))) :=
  chk (([(rule1, ([] : List Int), lhs2, rhs3)]).length ≤ maxEl) (some ((IntKind.wrap .i64 ((([(rule1, ([] : List Int), lhs2, rhs3)]).length : Int) - (1 : Int))), [(rule1, ([] : List Int), lhs2, rhs3)]))
def q12_c : VCode :=
 (.seq (.reg [o 10 (.mv (k 0))])
 (.seq (.reg [o 11 (.mv (t 0)), o 12 (.mv (t 0)), o 13 (.nilc (t 12)), o 14 (.fad 0 (t 13)), o 15 (.load false 1 (t 14)), o 16 (.mv (t 1)), o 17 (.mv (t 4)), o 18 (.mv (t 2)), o 19 (.mv (t 3)), o 20 (.build [.i .u32 0, .i .u32 0] [(0, 1, (t 18)), (1, 1, (t 19))]), o 21 (.build [.i .i64 0, .e (cs [I]), .i .u32 0, .i .u32 0] [(0, 1, (t 16)), (1, 1, (t 17)), (2, 2, (t 20))]), o 22 (.bsl (cs [I, .l (cs [I]), .i .u32, .i .u32]) 1 [(0, (t 21))]), o 23 (.app (cs [I, .l (cs [I]), .i .u32, .i .u32]) 0 (t 15) (t 22)), o 24 (.nilc (t 11)), o 25 (.fad 0 (t 24)), on (.store 1 (t 25) (t 23))])
 (.seq (.reg [o 26 (.mv (t 0)), o 27 (.nilc (t 26)), o 28 (.fad 0 (t 27)), o 29 (.load false 1 (t 28)), o 30 (.len (t 29)), o 31 (.bin .sub (t 30) (k 1)), o 10 (.mv (t 31))])
 .ret)))
def q12_F : VFn := ⟨true, 32, [.t 10], q12_c⟩
def q12_f (lo : Lo) : FnE := ⟨140, false, ⟨[0, 1, 2, 3, 4], [.ptr 0 0 0, .i .i64, .i .u32, .i .u32, .e (cs [I])], [.st [.e (cs [I, .l (cs [I]), .i .u32, .i .u32])]], (cs [I, .i .u32, .i .u32])⟩, .i .i64, [.st [.ref 1], .sq (cs [I, .l (cs [I]), .i .u32, .i .u32])], (cs [I, .l (cs [I, .l (cs [I]), .i .u32, .i .u32])]), (fun x => q12 lo x.1 x.2.1 x.2.2 : Int × Int × Int → Option (Int × (List (Int × (List Int) × Int × Int))))⟩
theorem q12_e (lo : Lo) : ∀ x : Int × Int × Int, evI (⟨pf, fs12 lo, [], 1⟩ : Tabs) q12_F ⟨[0, 1, 2, 3, 4], [.ptr 0 0 0, .i .i64, .i .u32, .i .u32, .e (cs [I])], [.st [.e (cs [I, .l (cs [I]), .i .u32, .i .u32])]], (cs [I, .i .u32, .i .u32])⟩ (.i .i64) [.st [.ref 1], .sq (cs [I, .l (cs [I]), .i .u32, .i .u32])] (cs [I, .l (cs [I, .l (cs [I]), .i .u32, .i .u32])]) x = q12 lo x.1 x.2.1 x.2.2 := fun x => by kernel_rfl
theorem q12_S {P : Program} {fm : FM} {lo : Lo} (hlo : LoOK lo) (hS : Sound P fm ⟨pf, fs12 lo, [], 0⟩) (hm : P.follows .mixedOrders = true) (htie : ∀ f, fm f = 140 → fnTr P fm pf f = some (q12_F.slots, q12_F.res, q12_F.code.er)) : Sound P fm ⟨pf, q12_f lo :: fs12 lo, [], 0⟩ :=
  fnI_sound hS hm [] (q12_f lo) rfl q12_F htie (by decide) rfl (Nat.le_of_ble_eq_true (by kernel_rfl)) (fun C hT Fr H0 hf => show LsOK Fr H0 C (⟨pf, fs12 lo, [], 1⟩ : Tabs) q12_c from ⟨trivial, ⟨trivial, ⟨trivial, trivial⟩⟩⟩) (fun x y h => (q12_e lo x).trans h)
def fs13 (lo : Lo) : List FnE := q12_f lo :: fs12 lo
end Go.Abs.G12
namespace Go.Abs.G12
open Go Go.Abs
set_option maxRecDepth 100000
set_option linter.unusedVariables false
set_option maxHeartbeats 1000000
def q13_L3_b : VCode :=
 (.seq (.reg [o 10 (.bin .lss (t 9) (t 8))])
 (.seq (.cond (t 10) .skip
 (.exit 0))
 (.seq (.blk 1 (.seq (.reg [o 11 (.mv (t 9)), o 12 (.iad 2 (t 7) (t 9)), o 13 (.load true 2 (t 12)), o 6 (.alloc [.i .u32 0, .i .u32 0]), o 5 (.mv (t 11)), on (.store 2 (t 6) (t 13))])
 (.seq (.reg [o 14 (.fad 0 (t 6)), o 15 (.load false 1 (t 14)), o 16 (.mv (t 1)), o 17 (.bin .andNot (t 15) (t 16)), o 18 (.bin .eql (t 17) (ki .u32 0)), o 19 (.mv (t 18)), og 20 19 true (.fad 1 (t 6)), og 21 19 true (.load false 1 (t 20)), og 22 19 true (.mv (t 1)), og 23 19 true (.bin .andNot (t 21) (t 22)), og 24 19 true (.bin .neq (t 23) (ki .u32 0)), o 25 (.pick (t 19) (t 24) (kb false))])
 (.cond (t 25) (.seq (.reg [o 26 (.mv (t 5)), o 4 (.mv (t 26))])
 (.fz [4] .ret))
 .skip))))
 (.reg [o 27 (.bin .add (t 9) (k 1)), o 9 (.mv (t 27))]))))
def q13_L3_g : Sg := ⟨[1, 7, 8, 9], [.i .u32, .l (cs [.i .u32, .i .u32]), .i .i64, .i .i64], [], (cs [.i .u32, .l (cs [.i .u32, .i .u32]), I, I])⟩
def q13_L3_o : List Out1 := [⟨.ret, ⟨[4], [.i .i64], [], (cs [I])⟩⟩, ⟨.exit 0, ⟨[], [], [], (cs [])⟩⟩]
def q13_L3_s (lo : Lo) : Int × (List (Int × Int)) × Int × Int → Option ((Int × (List (Int × Int)) × Int × Int) ⊕ (Int ⊕ Unit)) := fun x => match x with
  | (s1, v7, v8, v9) => bif (decide (v9 < v8)) then (chk (0 ≤ v9 ∧ v9 < (v7.length : Int)) (bif (decide ((bits .andNot .u32 ((v7.getD v9.toNat ((0 : Int), (0 : Int))).1) s1) = (0 : Int))) then (bif (!decide ((bits .andNot .u32 ((v7.getD v9.toNat ((0 : Int), (0 : Int))).2) s1) = (0 : Int))) then (some (.inr (.inl v9))) else (some (.inl (s1, v7, v8, (IntKind.wrap .i64 (v9 + (1 : Int))))))) else (some (.inl (s1, v7, v8, (IntKind.wrap .i64 (v9 + (1 : Int)))))))) else (some (.inr (.inr ())))
theorem q13_L3_e (lo : Lo) : ∀ x : Int × (List (Int × Int)) × Int × Int, stepL (⟨pf, fs13 lo, [], 0⟩ : Tabs) [] q13_L3_g q13_L3_o q13_L3_b x = q13_L3_s lo x := fun x => by kernel_rfl
def q13_L3 (lo : Lo) : Int × (List (Int × Int)) × Int × Int → Option (Int ⊕ Unit) := lo.run (q13_L3_s lo)
def q13_L3_p (lo : Lo) : LpE := ⟨3, [], q13_L3_g, q13_L3_o, q13_L3 lo⟩
theorem q13_L3_k {lo : Lo} (hlo : LoOK lo) (C : Ctx) (hT : TOK (⟨pf, fs13 lo, [], 0⟩ : Tabs) C) : LpSound (fun _ => False) [] 0 C (.loop q13_L3_b.er) (q13_L3_p lo) :=
  loop_sound (T := (⟨pf, fs13 lo, [], 0⟩ : Tabs)) hT frNo (show LsOK (fun _ => False) [] C (⟨pf, fs13 lo, [], 0⟩ : Tabs) q13_L3_b from ⟨trivial, ⟨⟨trivial, trivial⟩, ⟨⟨trivial, ⟨trivial, ⟨⟨trivial, trivial⟩, trivial⟩⟩⟩, trivial⟩⟩⟩) (fun x y h => loopO_congr (q13_L3_e lo) (hlo _ _ _ h))
def q13 (lo : Lo) (fds0 : List (Int × Int)) (s1 : Int) : Option Int :=
  Option.bind (q13_L3 lo (s1, fds0, (fds0.length : Int), (0 : Int))) fun y34 => alt2 y34 (fun y35 => some y35) (fun y36 => some (-1 : Int))
def q13_c : VCode :=
 (.seq (.reg [o 4 (.mv (k 0))])
 (.seq (.seq (.reg [o 7 (.mv (t 0)), o 8 (.len (t 7)), o 9 (.mv (k 0))])
 (.blk 0 (.loop 3 q13_L3_b)))
 (.seq (.reg [o 4 (.mv (k (-1)))])
 (.fz [4] .ret))))
def q13_F : VFn := ⟨true, 28, [.t 4], q13_c⟩
def q13_f (lo : Lo) : FnE := ⟨161, true, ⟨[0, 1], [.l (cs [.i .u32, .i .u32]), .i .u32], [], (cs [.l (cs [.i .u32, .i .u32]), .i .u32])⟩, .i .i64, [], (cs [I]), (fun x => q13 lo x.1 x.2 : (List (Int × Int)) × Int → Option Int)⟩
theorem q13_e (lo : Lo) : ∀ x : (List (Int × Int)) × Int, evP (⟨pf, fs13 lo, [q13_L3_p lo], 0⟩ : Tabs) q13_F ⟨[0, 1], [.l (cs [.i .u32, .i .u32]), .i .u32], [], (cs [.l (cs [.i .u32, .i .u32]), .i .u32])⟩ (.i .i64) (cs [I]) x = q13 lo x.1 x.2 := fun x => by kernel_rfl
theorem q13_S {P : Program} {fm : FM} {lo : Lo} (hlo : LoOK lo) (hS : Sound P fm ⟨pf, fs13 lo, [], 0⟩) (hm : P.follows .mixedOrders = true) (htie : ∀ f, fm f = 161 → fnTr P fm pf f = some (q13_F.slots, q13_F.res, q13_F.code.er)) : Sound P fm ⟨pf, q13_f lo :: fs13 lo, [], 0⟩ :=
  fn_sound hS hm [q13_L3_p lo] (q13_f lo) rfl q13_F htie (by decide) rfl (Nat.le_of_ble_eq_true (by kernel_rfl)) (fun C hT => show LsOK (fun _ => False) [] C (⟨pf, fs13 lo, [q13_L3_p lo], 0⟩ : Tabs) q13_c from ⟨trivial, ⟨⟨trivial, (lsGet (by kernel_rfl) (q13_L3_k hlo C (tok_ls hT)))⟩, ⟨trivial, trivial⟩⟩⟩) (fun x y h => (q13_e lo x).trans h)
def fs14 (lo : Lo) : List FnE := q13_f lo :: fs13 lo
def q14_L3_b : VCode :=
 (.seq (.seq (.reg [o 10 (.mv (t 6)), o 11 (.bin .geq (t 10) (k 0))])
 (.cond (t 11) .skip
 (.exit 0)))
 (.seq (.blk 1 (.seq (.reg [o 15 (.mv (t 1)), o 16 (.mv (t 0)), o 17 (.mv (t 6)), o 18 (.iad 2 (t 16) (t 17)), o 19 (.fad 1 (t 18)), o 20 (.load false 1 (t 19)), o 21 (.bin .or (t 15) (t 20)), o 1 (.mv (t 21))])
 (.reg [o 22 (.mv (t 5)), o 23 (.mv (t 6)), o 24 (.bsl (cs [I]) 1 [(0, (t 23))]), o 25 (.app (cs [I]) 0 (t 22) (t 24)), o 5 (.mv (t 25))])))
 (.reg [o 12 (.mv (t 0)), o 13 (.mv (t 1)), o 14 (.call 161 [(t 12), (t 13)]), o 6 (.mv (t 14))])))
def q14_L3_g : Sg := ⟨[0, 1, 5, 6], [.l (cs [.i .u32, .i .u32]), .i .u32, .ref 0, .i .i64], [.sq (cs [I])], (cs [.l (cs [.i .u32, .i .u32]), .i .u32, I, .l (cs [I])])⟩
def q14_L3_o : List Out1 := [⟨.exit 0, ⟨[5], [.ref 0], [.sq (cs [I])], (cs [.l (cs [I])])⟩⟩]
def q14_L3_s (lo : Lo) : (List (Int × Int)) × Int × Int × (List Int) → Option (((List (Int × Int)) × Int × Int × (List Int)) ⊕ (((List Int)))) := fun x => match x with
  | (fds0, s1, i6, out5) => bif (decide ((0 : Int) ≤ i6)) then (chk (0 ≤ i6 ∧ i6 < (fds0.length : Int)) (chk (out5.length + [i6].length ≤ maxEl) (Option.bind (q13 lo fds0 (bits .or .u32 s1 ((fds0.getD i6.toNat ((0 : Int), (0 : Int))).2))) fun y38 => some (.inl (fds0, (bits .or .u32 s1 ((fds0.getD i6.toNat ((0 : Int), (0 : Int))).2)), y38, (out5 ++ [i6])))))) else (some (.inr out5))
theorem q14_L3_e (lo : Lo) : ∀ x : (List (Int × Int)) × Int × Int × (List Int), stepL (⟨pf, fs14 lo, [], 0⟩ : Tabs) [(5, none, false)] q14_L3_g q14_L3_o q14_L3_b x = q14_L3_s lo x := fun x => by kernel_rfl
def q14_L3 (lo : Lo) : (List (Int × Int)) × Int × Int × (List Int) → Option (((List Int))) := lo.run (q14_L3_s lo)
def q14_L3_p (lo : Lo) : LpE := ⟨3, [(5, none, false)], q14_L3_g, q14_L3_o, q14_L3 lo⟩
theorem q14_L3_k {lo : Lo} (hlo : LoOK lo) (C : Ctx) (hT : TOK (⟨pf, fs14 lo, [], 0⟩ : Tabs) C) : LpSound (fun _ => False) [] 0 C (.loop q14_L3_b.er) (q14_L3_p lo) :=
  loop_sound (T := (⟨pf, fs14 lo, [], 0⟩ : Tabs)) hT frNo (show LsOK (fun _ => False) [] C (⟨pf, fs14 lo, [], 0⟩ : Tabs) q14_L3_b from ⟨⟨trivial, ⟨trivial, trivial⟩⟩, ⟨⟨trivial, trivial⟩, trivial⟩⟩) (fun x y h => loopO_congr (q14_L3_e lo) (hlo _ _ _ h))
def q14 (lo : Lo) (fds0 : List (Int × Int)) (s1 : Int) : Option ((List Int)) :=
  Option.bind (q13 lo fds0 s1) fun y37 => Option.bind (q14_L3 lo (fds0, s1, y37, [])) fun y39 => some y39
def q14_c : VCode :=
 (.seq (.reg [o 4 (.mv (ke (cs [I])))])
 (.seq (.reg [o 5 (.mv (ke (cs [I])))])
 (.seq (.seq (.reg [o 7 (.mv (t 0)), o 8 (.mv (t 1)), o 9 (.call 161 [(t 7), (t 8)]), o 6 (.mv (t 9))])
 (.blk 0 (.loop 3 q14_L3_b)))
 (.seq (.reg [o 26 (.mv (t 5)), o 4 (.mv (t 26))])
 (.fz [4] .ret)))))
def q14_F : VFn := ⟨true, 27, [.t 4], q14_c⟩
def q14_f (lo : Lo) : FnE := ⟨141, true, ⟨[0, 1], [.l (cs [.i .u32, .i .u32]), .i .u32], [], (cs [.l (cs [.i .u32, .i .u32]), .i .u32])⟩, .l (cs [I]), [], (cs [.l (cs [I])]), (fun x => q14 lo x.1 x.2 : (List (Int × Int)) × Int → Option ((List Int)))⟩
theorem q14_e (lo : Lo) : ∀ x : (List (Int × Int)) × Int, evP (⟨pf, fs14 lo, [q14_L3_p lo], 0⟩ : Tabs) q14_F ⟨[0, 1], [.l (cs [.i .u32, .i .u32]), .i .u32], [], (cs [.l (cs [.i .u32, .i .u32]), .i .u32])⟩ (.l (cs [I])) (cs [.l (cs [I])]) x = q14 lo x.1 x.2 := fun x => by kernel_rfl
theorem q14_S {P : Program} {fm : FM} {lo : Lo} (hlo : LoOK lo) (hS : Sound P fm ⟨pf, fs14 lo, [], 0⟩) (hm : P.follows .mixedOrders = true) (htie : ∀ f, fm f = 141 → fnTr P fm pf f = some (q14_F.slots, q14_F.res, q14_F.code.er)) : Sound P fm ⟨pf, q14_f lo :: fs14 lo, [], 0⟩ :=
  fn_sound hS hm [q14_L3_p lo] (q14_f lo) rfl q14_F htie (by decide) rfl (Nat.le_of_ble_eq_true (by kernel_rfl)) (fun C hT => show LsOK (fun _ => False) [] C (⟨pf, fs14 lo, [q14_L3_p lo], 0⟩ : Tabs) q14_c from ⟨trivial, ⟨trivial, ⟨⟨trivial, (lsGet (by kernel_rfl) (q14_L3_k hlo C (tok_ls hT)))⟩, ⟨trivial, trivial⟩⟩⟩⟩) (fun x y h => (q14_e lo x).trans h)
def fs15 (lo : Lo) : List FnE := q14_f lo :: fs14 lo
def q15 (lo : Lo) (rule1 : Int) (lhs2 : Int) (rhs3 : Int) (from4 : List Int) (h1 : List (Int × (List Int) × Int × Int)) : Option (Int × (List (Int × (List Int) × Int × Int))) :=
  chk (h1.length + ([(rule1, from4, lhs2, rhs3)]).length ≤ maxEl) (some ((IntKind.wrap .i64 (((h1 ++ ([(rule1, from4, lhs2, rhs3)])).length : Int) - (1 : Int))), (h1 ++ ([(rule1, from4, lhs2, rhs3)]))))
def q15_c : VCode :=
 (.seq (.reg [o 10 (.mv (k 0))])
 (.seq (.reg [o 11 (.mv (t 0)), o 12 (.mv (t 0)), o 13 (.nilc (t 12)), o 14 (.fad 0 (t 13)), o 15 (.load false 1 (t 14)), o 16 (.mv (t 1)), o 17 (.mv (t 4)), o 18 (.mv (t 2)), o 19 (.mv (t 3)), o 20 (.build [.i .u32 0, .i .u32 0] [(0, 1, (t 18)), (1, 1, (t 19))]), o 21 (.build [.i .i64 0, .e (cs [I]), .i .u32 0, .i .u32 0] [(0, 1, (t 16)), (1, 1, (t 17)), (2, 2, (t 20))]), o 22 (.bsl (cs [I, .l (cs [I]), .i .u32, .i .u32]) 1 [(0, (t 21))]), o 23 (.app (cs [I, .l (cs [I]), .i .u32, .i .u32]) 0 (t 15) (t 22)), o 24 (.nilc (t 11)), o 25 (.fad 0 (t 24)), on (.store 1 (t 25) (t 23))])
 (.seq (.reg [o 26 (.mv (t 0)), o 27 (.nilc (t 26)), o 28 (.fad 0 (t 27)), o 29 (.load false 1 (t 28)), o 30 (.len (t 29)), o 31 (.bin .sub (t 30) (k 1)), o 10 (.mv (t 31))])
 .ret)))
def q15_F : VFn := ⟨true, 32, [.t 10], q15_c⟩
def q15_f (lo : Lo) : FnE := ⟨140, false, ⟨[0, 1, 2, 3, 4], [.ptr 0 0 0, .i .i64, .i .u32, .i .u32, .l (cs [I])], [.st [.ref 1], .sq (cs [I, .l (cs [I]), .i .u32, .i .u32])], (cs [I, .i .u32, .i .u32, .l (cs [I]), .l (cs [I, .l (cs [I]), .i .u32, .i .u32])])⟩, .i .i64, [.st [.ref 2], .dd, .sq (cs [I, .l (cs [I]), .i .u32, .i .u32])], (cs [I, .l (cs [I, .l (cs [I]), .i .u32, .i .u32])]), (fun x => q15 lo x.1 x.2.1 x.2.2.1 x.2.2.2.1 x.2.2.2.2 : Int × Int × Int × (List Int) × (List (Int × (List Int) × Int × Int)) → Option (Int × (List (Int × (List Int) × Int × Int))))⟩
theorem q15_e (lo : Lo) : ∀ x : Int × Int × Int × (List Int) × (List (Int × (List Int) × Int × Int)), evI (⟨pf, fs15 lo, [], 2⟩ : Tabs) q15_F ⟨[0, 1, 2, 3, 4], [.ptr 0 0 0, .i .i64, .i .u32, .i .u32, .l (cs [I])], [.st [.ref 1], .sq (cs [I, .l (cs [I]), .i .u32, .i .u32])], (cs [I, .i .u32, .i .u32, .l (cs [I]), .l (cs [I, .l (cs [I]), .i .u32, .i .u32])])⟩ (.i .i64) [.st [.ref 2], .dd, .sq (cs [I, .l (cs [I]), .i .u32, .i .u32])] (cs [I, .l (cs [I, .l (cs [I]), .i .u32, .i .u32])]) x = q15 lo x.1 x.2.1 x.2.2.1 x.2.2.2.1 x.2.2.2.2 := fun x => by kernel_rfl
theorem q15_S {P : Program} {fm : FM} {lo : Lo} (hlo : LoOK lo) (hS : Sound P fm ⟨pf, fs15 lo, [], 0⟩) (hm : P.follows .mixedOrders = true) (htie : ∀ f, fm f = 140 → fnTr P fm pf f = some (q15_F.slots, q15_F.res, q15_F.code.er)) : Sound P fm ⟨pf, q15_f lo :: fs15 lo, [], 0⟩ :=
  fnI_sound hS hm [] (q15_f lo) rfl q15_F htie (by decide) rfl (Nat.le_of_ble_eq_true (by kernel_rfl)) (fun C hT Fr H0 hf => show LsOK Fr H0 C (⟨pf, fs15 lo, [], 2⟩ : Tabs) q15_c from ⟨trivial, ⟨trivial, ⟨trivial, trivial⟩⟩⟩) (fun x y h => (q15_e lo x).trans h)
def fs16 (lo : Lo) : List FnE := q15_f lo :: fs15 lo
def q16 (lo : Lo) (rule1 : Int) (lhs2 : Int) (rhs3 : Int) (h1 : List (Int × (List Int) × Int × Int)) : Option (Int × (List (Int × (List Int) × Int × Int))) :=
  chk (h1.length + ([(rule1, ([] : List Int), lhs2, rhs3)]).length ≤ maxEl) (some ((IntKind.wrap .i64 (((h1 ++ ([(rule1, ([] : List Int), lhs2, rhs3)])).length : Int) - (1 : Int))), (h1 ++ ([(rule1, ([] : List Int), lhs2, rhs3)]))))
def q16_c : VCode :=
 (.seq (.reg [o 10 (.mv (k 0))])
 (.seq (.reg [o 11 (.mv (t 0)), o 12 (.mv (t 0)), o 13 (.nilc (t 12)), o 14 (.fad 0 (t 13)), o 15 (.load false 1 (t 14)), o 16 (.mv (t 1)), o 17 (.mv (t 4)), o 18 (.mv (t 2)), o 19 (.mv (t 3)), o 20 (.build [.i .u32 0, .i .u32 0] [(0, 1, (t 18)), (1, 1, (t 19))]), o 21 (.build [.i .i64 0, .e (cs [I]), .i .u32 0, .i .u32 0] [(0, 1, (t 16)), (1, 1, (t 17)), (2, 2, (t 20))]), o 22 (.bsl (cs [I, .l (cs [I]), .i .u32, .i .u32]) 1 [(0, (t 21))]), o 23 (.app (cs [I, .l (cs [I]), .i .u32, .i .u32]) 0 (t 15) (t 22)), o 24 (.nilc (t 11)), o 25 (.fad 0 (t 24)), on (.store 1 (t 25) (t 23))])
 (.seq (.reg [o 26 (.mv (t 0)), o 27 (.nilc (t 26)), o 28 (.fad 0 (t 27)), o 29 (.load false 1 (t 28)), o 30 (.len (t 29)), o 31 (.bin .sub (t 30) (k 1)), o 10 (.mv (t 31))])
 .ret)))
def q16_F : VFn := ⟨true, 32, [.t 10], q16_c⟩
def q16_f (lo : Lo) : FnE := ⟨140, false, ⟨[0, 1, 2, 3, 4], [.ptr 0 0 0, .i .i64, .i .u32, .i .u32, .e (cs [I])], [.st [.ref 1], .sq (cs [I, .l (cs [I]), .i .u32, .i .u32])], (cs [I, .i .u32, .i .u32, .l (cs [I, .l (cs [I]), .i .u32, .i .u32])])⟩, .i .i64, [.st [.ref 2], .dd, .sq (cs [I, .l (cs [I]), .i .u32, .i .u32])], (cs [I, .l (cs [I, .l (cs [I]), .i .u32, .i .u32])]), (fun x => q16 lo x.1 x.2.1 x.2.2.1 x.2.2.2 : Int × Int × Int × (List (Int × (List Int) × Int × Int)) → Option (Int × (List (Int × (List Int) × Int × Int))))⟩
theorem q16_e (lo : Lo) : ∀ x : Int × Int × Int × (List (Int × (List Int) × Int × Int)), evI (⟨pf, fs16 lo, [], 2⟩ : Tabs) q16_F ⟨[0, 1, 2, 3, 4], [.ptr 0 0 0, .i .i64, .i .u32, .i .u32, .e (cs [I])], [.st [.ref 1], .sq (cs [I, .l (cs [I]), .i .u32, .i .u32])], (cs [I, .i .u32, .i .u32, .l (cs [I, .l (cs [I]), .i .u32, .i .u32])])⟩ (.i .i64) [.st [.ref 2], .dd, .sq (cs [I, .l (cs [I]), .i .u32, .i .u32])] (cs [I, .l (cs [I, .l (cs [I]), .i .u32, .i .u32])]) x = q16 lo x.1 x.2.1 x.2.2.1 x.2.2.2 := fun x => by kernel_rfl
theorem q16_S {P : Program} {fm : FM} {lo : Lo} (hlo : LoOK lo) (hS : Sound P fm ⟨pf, fs16 lo, [], 0⟩) (hm : P.follows .mixedOrders = true) (htie : ∀ f, fm f = 140 → fnTr P fm pf f = some (q16_F.slots, q16_F.res, q16_F.code.er)) : Sound P fm ⟨pf, q16_f lo :: fs16 lo, [], 0⟩ :=
  fnI_sound hS hm [] (q16_f lo) rfl q16_F htie (by decide) rfl (Nat.le_of_ble_eq_true (by kernel_rfl)) (fun C hT Fr H0 hf => show LsOK Fr H0 C (⟨pf, fs16 lo, [], 2⟩ : Tabs) q16_c from ⟨trivial, ⟨trivial, ⟨trivial, trivial⟩⟩⟩) (fun x y h => (q16_e lo x).trans h)
def fs17 (lo : Lo) : List FnE := q16_f lo :: fs16 lo
def q17_L5_b : VCode :=
 (.seq (.reg [o 48 (.bin .lss (t 47) (t 46))])
 (.seq (.cond (t 48) .skip
 (.exit 0))
 (.seq (.blk 1 (.seq (.reg [o 49 (.iad 1 (t 45) (t 47)), o 50 (.load false 1 (t 49)), o 13 (.mv (t 50))])
 (.seq (.reg [o 51 (.mv (t 1)), o 52 (.mv (t 13)), o 53 (.iad 2 (t 51) (t 52)), o 54 (.load true 2 (t 53)), o 14 (.alloc [.i .u32 0, .i .u32 0]), on (.store 2 (t 14) (t 54))])
 (.seq (.reg [o 55 (.fad 0 (t 14)), o 56 (.load false 1 (t 55)), o 57 (.fad 1 (t 14)), o 58 (.load false 1 (t 57)), o 59 (.mv (t 13)), o 60 (.bsl (cs [I]) 1 [(0, (t 59))]), o 61 (.call 140 [(t 9), (k 1), (t 56), (t 58), (t 60)]), o 15 (.mv (t 61))])
 (.seq (.reg [o 62 (.mv (t 10)), o 63 (.mv (t 10)), o 64 (.fad 1 (t 14)), o 65 (.load false 1 (t 64)), o 66 (.bin .or (t 63) (t 65)), o 67 (.mv (t 15)), o 68 (.bsl (cs [I]) 1 [(0, (t 67))]), o 69 (.call 140 [(t 9), (k 3), (t 62), (t 66), (t 68)]), o 16 (.mv (t 69))])
 (.seq (.reg [o 70 (.mv (t 10)), o 71 (.fad 1 (t 14)), o 72 (.load false 1 (t 71)), o 73 (.bin .or (t 70) (t 72)), o 10 (.mv (t 73))])
 (.reg [o 74 (.fad 0 (t 5)), o 75 (.load false 1 (t 74)), o 76 (.mv (t 10)), o 77 (.mv (t 11)), o 78 (.mv (t 16)), o 79 (.bsl (cs [I]) 2 [(0, (t 77)), (1, (t 78))]), o 80 (.call 140 [(t 9), (k 4), (t 75), (t 76), (t 79)]), o 11 (.mv (t 80))])))))))
 (.reg [o 81 (.bin .add (t 47) (k 1)), o 47 (.mv (t 81))]))))
def q17_L5_g : Sg := ⟨[1, 5, 9, 10, 11, 45, 46, 47], [.l (cs [.i .u32, .i .u32]), .ptr 0 0 0, .ptr 1 0 0, .i .u32, .i .i64, .l (cs [I]), .i .i64, .i .i64], [.st [.i .u32, .i .u32], .st [.ref 2], .sq (cs [I, .l (cs [I]), .i .u32, .i .u32])], (cs [.l (cs [.i .u32, .i .u32]), .i .u32, I, .l (cs [I]), I, I, .i .u32, .i .u32, .l (cs [I, .l (cs [I]), .i .u32, .i .u32])])⟩
def q17_L5_o : List Out1 := [⟨.exit 0, ⟨[5, 9, 10, 11], [.ptr 0 0 0, .ptr 1 0 0, .i .u32, .i .i64], [.st [.i .u32, .i .u32], .st [.ref 2], .sq (cs [I, .l (cs [I]), .i .u32, .i .u32])], (cs [.i .u32, I, .i .u32, .i .u32, .l (cs [I, .l (cs [I]), .i .u32, .i .u32])])⟩⟩]
def q17_L5_s (lo : Lo) : (List (Int × Int)) × Int × Int × (List Int) × Int × Int × Int × Int × (List (Int × (List Int) × Int × Int)) → Option (((List (Int × Int)) × Int × Int × (List Int) × Int × Int × Int × Int × (List (Int × (List Int) × Int × Int))) ⊕ ((Int × Int × Int × Int × (List (Int × (List Int) × Int × Int))))) := fun x => match x with
  | (fds1, now10, last11, v45, v46, v47, goal5_0, goal5_1, h2) => bif (decide (v47 < v46)) then (chk (0 ≤ v47 ∧ v47 < (v45.length : Int)) (chk (0 ≤ (v45.getD v47.toNat (0 : Int)) ∧ (v45.getD v47.toNat (0 : Int)) < (fds1.length : Int)) (Option.bind (q15 lo (1 : Int) ((fds1.getD ((v45.getD v47.toNat (0 : Int)).toNat) ((0 : Int), (0 : Int))).1) ((fds1.getD ((v45.getD v47.toNat (0 : Int)).toNat) ((0 : Int), (0 : Int))).2) ([(v45.getD v47.toNat (0 : Int))]) h2) fun y41 => Option.bind (q15 lo (3 : Int) now10 (bits .or .u32 now10 ((fds1.getD ((v45.getD v47.toNat (0 : Int)).toNat) ((0 : Int), (0 : Int))).2)) [y41.1] y41.2) fun y42 => Option.bind (q15 lo (4 : Int) goal5_0 (bits .or .u32 now10 ((fds1.getD ((v45.getD v47.toNat (0 : Int)).toNat) ((0 : Int), (0 : Int))).2)) ([last11, y42.1]) y42.2) fun y43 => some (.inl (fds1, (bits .or .u32 now10 ((fds1.getD ((v45.getD v47.toNat (0 : Int)).toNat) ((0 : Int), (0 : Int))).2)), y43.1, v45, v46, (IntKind.wrap .i64 (v47 + (1 : Int))), goal5_0, goal5_1, y43.2))))) else (some (.inr (now10, last11, goal5_0, goal5_1, h2)))
theorem q17_L5_e (lo : Lo) : ∀ x : (List (Int × Int)) × Int × Int × (List Int) × Int × Int × Int × Int × (List (Int × (List Int) × Int × Int)), stepL (⟨pf, fs17 lo, [], 0⟩ : Tabs) [] q17_L5_g q17_L5_o q17_L5_b x = q17_L5_s lo x := fun x => by kernel_rfl
def q17_L5 (lo : Lo) : (List (Int × Int)) × Int × Int × (List Int) × Int × Int × Int × Int × (List (Int × (List Int) × Int × Int)) → Option ((Int × Int × Int × Int × (List (Int × (List Int) × Int × Int)))) := lo.run (q17_L5_s lo)
def q17_L5_p (lo : Lo) : LpE := ⟨5, [], q17_L5_g, q17_L5_o, q17_L5 lo⟩
theorem q17_L5_k {lo : Lo} (hlo : LoOK lo) (C : Ctx) (hT : TOK (⟨pf, fs17 lo, [], 0⟩ : Tabs) C) : LpSound (fun _ => False) [] 0 C (.loop q17_L5_b.er) (q17_L5_p lo) :=
  loop_sound (T := (⟨pf, fs17 lo, [], 0⟩ : Tabs)) hT frNo (show LsOK (fun _ => False) [] C (⟨pf, fs17 lo, [], 0⟩ : Tabs) q17_L5_b from ⟨trivial, ⟨⟨trivial, trivial⟩, ⟨⟨trivial, ⟨trivial, ⟨trivial, ⟨trivial, ⟨trivial, trivial⟩⟩⟩⟩⟩, trivial⟩⟩⟩) (fun x y h => loopO_congr (q17_L5_e lo) (hlo _ _ _ h))
def q17 (lo : Lo) (n0 : Int) (fds1 : List (Int × Int)) (goal2_0 : Int) (goal2_1 : Int) : Option ((List (Int × (List Int) × Int × Int)) × Int) :=
  Option.bind (q4 lo n0 fds1) fun y26 => bif (!decide (y26 = (0 : Int))) then (some (([] : List (Int × (List Int) × Int × Int)), y26)) else (Option.bind (q5 lo n0) fun y27 => Option.bind (q6 lo (bits .or .u32 goal2_0 goal2_1) y27) fun y28 => bif (!y28) then (some (([] : List (Int × (List Int) × Int × Int)), (1 : Int))) else (Option.bind (q11 lo fds1 goal2_0 goal2_1) fun y32 => bif (!y32) then (some (([] : List (Int × (List Int) × Int × Int)), (11 : Int))) else (Option.bind (q12 lo (2 : Int) goal2_0 goal2_0) fun y33 => Option.bind (q14 lo fds1 goal2_0) fun y40 => Option.bind (q17_L5 lo (fds1, goal2_0, y33.1, y40, (y40.length : Int), (0 : Int), goal2_0, goal2_1, y33.2)) fun y44 => Option.bind (q16 lo (2 : Int) y44.1 y44.2.2.2.1 y44.2.2.2.2) fun y45 => Option.bind (q15 lo (4 : Int) y44.2.2.1 y44.2.2.2.1 ([y44.2.1, y45.1]) y45.2) fun y46 => some (y46.2, (0 : Int)))))
def q17_c : VCode :=
 (.seq (.reg [o 5 (.box (t 2)), o 6 (.mv (ke (cs [I, .l (cs [I]), .i .u32, .i .u32]))), o 7 (.mv (k 0))])
 (.seq (.seq (.reg [o 18 (.mv (t 0)), o 19 (.mv (t 1)), o 20 (.call 132 [(t 18), (t 19)]), o 8 (.mv (t 20))])
 (.seq (.reg [o 21 (.mv (t 8)), o 22 (.bin .neq (t 21) (k 0))])
 (.cond (t 22) (.seq (.reg [o 23 (.mv (t 8)), o 6 (.mv (ke (cs [I, .l (cs [I]), .i .u32, .i .u32]))), o 7 (.mv (t 23))])
 (.fz [6, 7] .ret))
 .skip)))
 (.seq (.seq (.reg [o 24 (.fad 0 (t 5)), o 25 (.load false 1 (t 24)), o 26 (.fad 1 (t 5)), o 27 (.load false 1 (t 26)), o 28 (.bin .or (t 25) (t 27)), o 29 (.mv (t 0)), o 30 (.call 138 [(t 29)]), o 31 (.call 137 [(t 28), (t 30)]), o 32 (.not (t 31))])
 (.cond (t 32) (.seq (.reg [o 6 (.mv (ke (cs [I, .l (cs [I]), .i .u32, .i .u32]))), o 7 (.mv (k 1))])
 (.fz [6, 7] .ret))
 .skip))
 (.seq (.seq (.reg [o 33 (.mv (t 1)), o 34 (.load true 2 (t 5)), o 35 (.call 139 [(t 33), (t 34)]), o 36 (.not (t 35))])
 (.cond (t 36) (.seq (.reg [o 6 (.mv (ke (cs [I, .l (cs [I]), .i .u32, .i .u32]))), o 7 (.mv (k 11))])
 (.fz [6, 7] .ret))
 .skip))
 (.seq (.reg [o 9 (.alloc [.e (cs [I, .l (cs [I]), .i .u32, .i .u32])])])
 (.seq (.reg [o 37 (.fad 0 (t 5)), o 38 (.load false 1 (t 37)), o 10 (.mv (t 38))])
 (.seq (.reg [o 39 (.mv (t 10)), o 40 (.mv (t 10)), o 41 (.call 140 [(t 9), (k 2), (t 39), (t 40), (ke (cs [I]))]), o 11 (.mv (t 41))])
 (.seq (.seq (.reg [o 42 (.mv (t 1)), o 43 (.fad 0 (t 5)), o 44 (.load false 1 (t 43)), o 45 (.call 141 [(t 42), (t 44)]), o 46 (.len (t 45)), o 47 (.mv (k 0))])
 (.blk 0 (.loop 5 q17_L5_b)))
 (.seq (.reg [o 82 (.mv (t 10)), o 83 (.fad 1 (t 5)), o 84 (.load false 1 (t 83)), o 85 (.call 140 [(t 9), (k 2), (t 82), (t 84), (ke (cs [I]))]), o 17 (.mv (t 85))])
 (.seq (.reg [o 86 (.fad 0 (t 5)), o 87 (.load false 1 (t 86)), o 88 (.fad 1 (t 5)), o 89 (.load false 1 (t 88)), o 90 (.mv (t 11)), o 91 (.mv (t 17)), o 92 (.bsl (cs [I]) 2 [(0, (t 90)), (1, (t 91))]), o 93 (.call 140 [(t 9), (k 4), (t 87), (t 89), (t 92)])])
 (.seq (.reg [o 94 (.fad 0 (t 9)), o 95 (.load false 1 (t 94)), o 6 (.mv (t 95)), o 7 (.mv (k 0))])
 (.fz [6, 7] .ret))))))))))))
def q17_F : VFn := ⟨true, 96, [.t 6, .t 7], q17_c⟩
def q17_f (lo : Lo) : FnE := ⟨116, true, ⟨[0, 1, 2], [.i .i64, .l (cs [.i .u32, .i .u32]), .ag [.i .u32, .i .u32]], [], (cs [I, .l (cs [.i .u32, .i .u32]), .i .u32, .i .u32])⟩, .tp [.l (cs [I, .l (cs [I]), .i .u32, .i .u32]), .i .i64], [], (cs [.l (cs [I, .l (cs [I]), .i .u32, .i .u32]), I]), (fun x => q17 lo x.1 x.2.1 x.2.2.1 x.2.2.2 : Int × (List (Int × Int)) × Int × Int → Option ((List (Int × (List Int) × Int × Int)) × Int))⟩
theorem q17_e (lo : Lo) : ∀ x : Int × (List (Int × Int)) × Int × Int, evP (⟨pf, fs17 lo, [q17_L5_p lo], 0⟩ : Tabs) q17_F ⟨[0, 1, 2], [.i .i64, .l (cs [.i .u32, .i .u32]), .ag [.i .u32, .i .u32]], [], (cs [I, .l (cs [.i .u32, .i .u32]), .i .u32, .i .u32])⟩ (.tp [.l (cs [I, .l (cs [I]), .i .u32, .i .u32]), .i .i64]) (cs [.l (cs [I, .l (cs [I]), .i .u32, .i .u32]), I]) x = q17 lo x.1 x.2.1 x.2.2.1 x.2.2.2 := fun x => by kernel_rfl
theorem q17_S {P : Program} {fm : FM} {lo : Lo} (hlo : LoOK lo) (hS : Sound P fm ⟨pf, fs17 lo, [], 0⟩) (hm : P.follows .mixedOrders = true) (htie : ∀ f, fm f = 116 → fnTr P fm pf f = some (q17_F.slots, q17_F.res, q17_F.code.er)) : Sound P fm ⟨pf, q17_f lo :: fs17 lo, [], 0⟩ :=
  fn_sound hS hm [q17_L5_p lo] (q17_f lo) rfl q17_F htie (by decide) rfl (Nat.le_of_ble_eq_true (by kernel_rfl)) (fun C hT => show LsOK (fun _ => False) [] C (⟨pf, fs17 lo, [q17_L5_p lo], 0⟩ : Tabs) q17_c from ⟨trivial, ⟨⟨trivial, ⟨trivial, ⟨⟨trivial, trivial⟩, trivial⟩⟩⟩, ⟨⟨trivial, ⟨⟨trivial, trivial⟩, trivial⟩⟩, ⟨⟨trivial, ⟨⟨trivial, trivial⟩, trivial⟩⟩, ⟨trivial, ⟨trivial, ⟨trivial, ⟨⟨trivial, (lsGet (by kernel_rfl) (q17_L5_k hlo C (tok_ls hT)))⟩, ⟨trivial, ⟨trivial, ⟨trivial, trivial⟩⟩⟩⟩⟩⟩⟩⟩⟩⟩⟩) (fun x y h => (q17_e lo x).trans h)
def fs18 (lo : Lo) : List FnE := q17_f lo :: fs17 lo
def q18 (lo : Lo) (a0 : Int) (b1 : Int) : Option Bool :=
  some (decide ((bits .and .u32 a0 b1) = a0))
def q18_c : VCode :=
 (.seq (.reg [o 4 (.mv (kb false))])
 (.seq (.reg [o 5 (.mv (t 0)), o 6 (.mv (t 1)), o 7 (.bin .and (t 5) (t 6)), o 8 (.mv (t 0)), o 9 (.bin .eql (t 7) (t 8)), o 4 (.mv (t 9))])
 (.fz [4] .ret)))
def q18_F : VFn := ⟨true, 10, [.t 4], q18_c⟩
def q18_f (lo : Lo) : FnE := ⟨136, true, ⟨[0, 1], [.i .u32, .i .u32], [], (cs [.i .u32, .i .u32])⟩, .b, [], (cs [.b]), (fun x => q18 lo x.1 x.2 : Int × Int → Option Bool)⟩
theorem q18_e (lo : Lo) : ∀ x : Int × Int, evP (⟨pf, fs18 lo, [], 0⟩ : Tabs) q18_F ⟨[0, 1], [.i .u32, .i .u32], [], (cs [.i .u32, .i .u32])⟩ (.b) (cs [.b]) x = q18 lo x.1 x.2 := fun x => by kernel_rfl
theorem q18_S {P : Program} {fm : FM} {lo : Lo} (hlo : LoOK lo) (hS : Sound P fm ⟨pf, fs18 lo, [], 0⟩) (hm : P.follows .mixedOrders = true) (htie : ∀ f, fm f = 136 → fnTr P fm pf f = some (q18_F.slots, q18_F.res, q18_F.code.er)) : Sound P fm ⟨pf, q18_f lo :: fs18 lo, [], 0⟩ :=
  fn_sound hS hm [] (q18_f lo) rfl q18_F htie (by decide) rfl (Nat.le_of_ble_eq_true (by kernel_rfl)) (fun C hT => show LsOK (fun _ => False) [] C (⟨pf, fs18 lo, [], 0⟩ : Tabs) q18_c from ⟨trivial, ⟨trivial, trivial⟩⟩) (fun x y h => (q18_e lo x).trans h)
def fs19 (lo : Lo) : List FnE := q18_f lo :: fs18 lo
def q19_L3_b : VCode :=
 (.seq (.seq (.reg [o 18 (.mv (t 6)), o 19 (.mv (t 1)), o 20 (.len (t 19)), o 21 (.bin .lss (t 18) (t 20))])
 (.cond (t 21) .skip
 (.exit 0)))
 (.seq (.blk 1 (.seq (.reg [o 24 (.mv (t 1)), o 25 (.mv (t 6)), o 26 (.iad 2 (t 24) (t 25)), o 27 (.fad 0 (t 26)), o 28 (.load false 1 (t 27)), o 29 (.mv (t 5)), o 30 (.call 136 [(t 28), (t 29)]), o 31 (.not (t 30)), o 32 (.mv (t 31)), og 33 32 false (.mv (t 1)), og 34 32 false (.mv (t 6)), og 35 32 false (.iad 2 (t 33) (t 34)), og 36 32 false (.fad 1 (t 35)), og 37 32 false (.load false 1 (t 36)), og 38 32 false (.mv (t 5)), og 39 32 false (.call 136 [(t 37), (t 38)]), og 40 32 false (.not (t 39)), o 41 (.pick (t 32) (kb true) (t 40))])
 (.cond (t 41) (.seq (.reg [o 4 (.mv (k 1))])
 (.fz [4] .ret))
 .skip)))
 (.reg [o 22 (.mv (t 6)), o 23 (.bin .add (t 22) (k 1)), o 6 (.mv (t 23))])))
def q19_L3_g : Sg := ⟨[1, 5, 6], [.l (cs [.i .u32, .i .u32]), .i .u32, .i .i64], [], (cs [.l (cs [.i .u32, .i .u32]), .i .u32, I])⟩
def q19_L3_o : List Out1 := [⟨.ret, ⟨[4], [.i .i64], [], (cs [I])⟩⟩, ⟨.exit 0, ⟨[], [], [], (cs [])⟩⟩]
def q19_L3_s (lo : Lo) : (List (Int × Int)) × Int × Int → Option (((List (Int × Int)) × Int × Int) ⊕ (Int ⊕ Unit)) := fun x => match x with
  | (fds1, all5, i6) => bif (decide (i6 < (fds1.length : Int))) then (chk (0 ≤ i6 ∧ i6 < (fds1.length : Int)) (Option.bind (q18 lo ((fds1.getD i6.toNat ((0 : Int), (0 : Int))).1) all5) fun y49 => bif (!y49) then (some (.inr (.inl (1 : Int)))) else (chk (0 ≤ i6 ∧ i6 < (fds1.length : Int)) (Option.bind (q18 lo ((fds1.getD i6.toNat ((0 : Int), (0 : Int))).2) all5) fun y50 => bif (!y50) then (some (.inr (.inl (1 : Int)))) else (some (.inl (fds1, all5, (IntKind.wrap .i64 (i6 + (1 : Int)))))))))) else (some (.inr (.inr ())))
theorem q19_L3_e (lo : Lo) : ∀ x : (List (Int × Int)) × Int × Int, stepL (⟨pf, fs19 lo, [], 0⟩ : Tabs) [] q19_L3_g q19_L3_o q19_L3_b x = q19_L3_s lo x := fun x => by kernel_rfl
def q19_L3 (lo : Lo) : (List (Int × Int)) × Int × Int → Option (Int ⊕ Unit) := lo.run (q19_L3_s lo)
def q19_L3_p (lo : Lo) : LpE := ⟨3, [], q19_L3_g, q19_L3_o, q19_L3 lo⟩
theorem q19_L3_k {lo : Lo} (hlo : LoOK lo) (C : Ctx) (hT : TOK (⟨pf, fs19 lo, [], 0⟩ : Tabs) C) : LpSound (fun _ => False) [] 0 C (.loop q19_L3_b.er) (q19_L3_p lo) :=
  loop_sound (T := (⟨pf, fs19 lo, [], 0⟩ : Tabs)) hT frNo (show LsOK (fun _ => False) [] C (⟨pf, fs19 lo, [], 0⟩ : Tabs) q19_L3_b from ⟨⟨trivial, ⟨trivial, trivial⟩⟩, ⟨⟨trivial, ⟨⟨trivial, trivial⟩, trivial⟩⟩, trivial⟩⟩) (fun x y h => loopO_congr (q19_L3_e lo) (hlo _ _ _ h))
def q19 (lo : Lo) (n0 : Int) (fds1 : List (Int × Int)) : Option Int :=
  bif (decide (n0 < (0 : Int))) then (some (7 : Int)) else (bif (decide ((16 : Int) < n0)) then (some (7 : Int)) else (bif (decide ((64 : Int) < (fds1.length : Int))) then (some (3 : Int)) else (Option.bind (q0 lo n0) fun y48 => Option.bind (q19_L3 lo (fds1, y48, (0 : Int))) fun y51 => alt2 y51 (fun y52 => some y52) (fun y53 => some (0 : Int)))))
def q19_c : VCode :=
 (.seq (.reg [o 4 (.mv (k 0))])
 (.seq (.seq (.reg [o 7 (.mv (t 0)), o 8 (.bin .lss (t 7) (k 0)), o 9 (.mv (t 8)), og 10 9 false (.mv (t 0)), og 11 9 false (.bin .gtr (t 10) (k 16)), o 12 (.pick (t 9) (kb true) (t 11))])
 (.cond (t 12) (.seq (.reg [o 4 (.mv (k 7))])
 (.fz [4] .ret))
 .skip))
 (.seq (.seq (.reg [o 13 (.mv (t 1)), o 14 (.len (t 13)), o 15 (.bin .gtr (t 14) (k 64))])
 (.cond (t 15) (.seq (.reg [o 4 (.mv (k 3))])
 (.fz [4] .ret))
 .skip))
 (.seq (.reg [o 16 (.mv (t 0)), o 17 (.call 118 [(t 16)]), o 5 (.mv (t 17))])
 (.seq (.seq (.reg [o 6 (.mv (k 0))])
 (.blk 0 (.loop 3 q19_L3_b)))
 (.seq (.reg [o 4 (.mv (k 0))])
 (.fz [4] .ret)))))))
def q19_F : VFn := ⟨true, 42, [.t 4], q19_c⟩
def q19_f (lo : Lo) : FnE := ⟨134, true, ⟨[0, 1], [.i .i64, .l (cs [.i .u32, .i .u32])], [], (cs [I, .l (cs [.i .u32, .i .u32])])⟩, .i .i64, [], (cs [I]), (fun x => q19 lo x.1 x.2 : Int × (List (Int × Int)) → Option Int)⟩
theorem q19_e (lo : Lo) : ∀ x : Int × (List (Int × Int)), evP (⟨pf, fs19 lo, [q19_L3_p lo], 0⟩ : Tabs) q19_F ⟨[0, 1], [.i .i64, .l (cs [.i .u32, .i .u32])], [], (cs [I, .l (cs [.i .u32, .i .u32])])⟩ (.i .i64) (cs [I]) x = q19 lo x.1 x.2 := fun x => by kernel_rfl
theorem q19_S {P : Program} {fm : FM} {lo : Lo} (hlo : LoOK lo) (hS : Sound P fm ⟨pf, fs19 lo, [], 0⟩) (hm : P.follows .mixedOrders = true) (htie : ∀ f, fm f = 134 → fnTr P fm pf f = some (q19_F.slots, q19_F.res, q19_F.code.er)) : Sound P fm ⟨pf, q19_f lo :: fs19 lo, [], 0⟩ :=
  fn_sound hS hm [q19_L3_p lo] (q19_f lo) rfl q19_F htie (by decide) rfl (Nat.le_of_ble_eq_true (by kernel_rfl)) (fun C hT => show LsOK (fun _ => False) [] C (⟨pf, fs19 lo, [q19_L3_p lo], 0⟩ : Tabs) q19_c from ⟨trivial, ⟨⟨trivial, ⟨⟨trivial, trivial⟩, trivial⟩⟩, ⟨⟨trivial, ⟨⟨trivial, trivial⟩, trivial⟩⟩, ⟨trivial, ⟨⟨trivial, (lsGet (by kernel_rfl) (q19_L3_k hlo C (tok_ls hT)))⟩, ⟨trivial, trivial⟩⟩⟩⟩⟩⟩) (fun x y h => (q19_e lo x).trans h)
def fs20 (lo : Lo) : List FnE := q19_f lo :: fs19 lo
def q20_L3_b : VCode :=
 (.seq (.seq (.reg [o 18 (.mv (t 8)), o 19 (.mv (t 2)), o 20 (.bin .lss (t 18) (t 19))])
 (.cond (t 20) .skip
 (.exit 0)))
 (.seq (.blk 1 (.seq (.reg [o 23 (.mv (t 7)), o 24 (.mv (t 8)), o 25 (.iad 1 (t 23) (t 24)), o 26 (.load false 1 (t 25)), o 27 (.bin .lss (t 26) (k 0)), o 28 (.mv (t 27)), og 29 28 false (.mv (t 7)), og 30 28 false (.mv (t 8)), og 31 28 false (.iad 1 (t 29) (t 30)), og 32 28 false (.load false 1 (t 31)), og 33 28 false (.mv (t 1)), og 34 28 false (.bin .geq (t 32) (t 33)), o 35 (.pick (t 28) (kb true) (t 34))])
 (.cond (t 35) (.seq (.reg [o 6 (.mv (kb false))])
 (.fz [6] .ret))
 .skip)))
 (.reg [o 21 (.mv (t 8)), o 22 (.bin .add (t 21) (k 1)), o 8 (.mv (t 22))])))
def q20_L3_g : Sg := ⟨[1, 2, 7, 8], [.i .i64, .i .i64, .l (cs [I]), .i .i64], [], (cs [I, I, .l (cs [I]), I])⟩
def q20_L3_o : List Out1 := [⟨.ret, ⟨[6], [.b], [], (cs [.b])⟩⟩, ⟨.exit 0, ⟨[], [], [], (cs [])⟩⟩]
def q20_L3_s (lo : Lo) : Int × Int × (List Int) × Int → Option ((Int × Int × (List Int) × Int) ⊕ (Bool ⊕ Unit)) := fun x => match x with
  | (i1, count2, f7, k8) => bif (decide (k8 < count2)) then (chk (0 ≤ k8 ∧ k8 < (f7.length : Int)) (bif (decide ((f7.getD k8.toNat (0 : Int)) < (0 : Int))) then (some (.inr (.inl false))) else (chk (0 ≤ k8 ∧ k8 < (f7.length : Int)) (bif (decide (i1 ≤ (f7.getD k8.toNat (0 : Int)))) then (some (.inr (.inl false))) else (some (.inl (i1, count2, f7, (IntKind.wrap .i64 (k8 + (1 : Int)))))))))) else (some (.inr (.inr ())))
theorem q20_L3_e (lo : Lo) : ∀ x : Int × Int × (List Int) × Int, stepL (⟨pf, fs20 lo, [], 0⟩ : Tabs) [] q20_L3_g q20_L3_o q20_L3_b x = q20_L3_s lo x := fun x => by kernel_rfl
def q20_L3 (lo : Lo) : Int × Int × (List Int) × Int → Option (Bool ⊕ Unit) := lo.run (q20_L3_s lo)
def q20_L3_p (lo : Lo) : LpE := ⟨3, [], q20_L3_g, q20_L3_o, q20_L3 lo⟩
theorem q20_L3_k {lo : Lo} (hlo : LoOK lo) (C : Ctx) (hT : TOK (⟨pf, fs20 lo, [], 0⟩ : Tabs) C) : LpSound (fun _ => False) [] 0 C (.loop q20_L3_b.er) (q20_L3_p lo) :=
  loop_sound (T := (⟨pf, fs20 lo, [], 0⟩ : Tabs)) hT frNo (show LsOK (fun _ => False) [] C (⟨pf, fs20 lo, [], 0⟩ : Tabs) q20_L3_b from ⟨⟨trivial, ⟨trivial, trivial⟩⟩, ⟨⟨trivial, ⟨⟨trivial, trivial⟩, trivial⟩⟩, trivial⟩⟩) (fun x y h => loopO_congr (q20_L3_e lo) (hlo _ _ _ h))
def q20 (lo : Lo) (steps0 : List (Int × (List Int) × Int × Int)) (i1 : Int) (count2 : Int) : Option Bool :=
  chk (0 ≤ i1 ∧ i1 < (steps0.length : Int)) (bif (!decide ((((steps0.getD i1.toNat ((0 : Int), [], (0 : Int), (0 : Int))).2.1).length : Int) = count2)) then (some false) else (Option.bind (q20_L3 lo (i1, count2, (steps0.getD i1.toNat ((0 : Int), [], (0 : Int), (0 : Int))).2.1, (0 : Int))) fun y59 => alt2 y59 (fun y60 => some y60) (fun y61 => some true)))
def q20_c : VCode :=
 (.seq (.reg [o 6 (.mv (kb false))])
 (.seq (.reg [o 9 (.mv (t 0)), o 10 (.mv (t 1)), o 11 (.iad 4 (t 9) (t 10)), o 12 (.fad 1 (t 11)), o 13 (.load false 1 (t 12)), o 7 (.mv (t 13))])
 (.seq (.seq (.reg [o 14 (.mv (t 7)), o 15 (.len (t 14)), o 16 (.mv (t 2)), o 17 (.bin .neq (t 15) (t 16))])
 (.cond (t 17) (.seq (.reg [o 6 (.mv (kb false))])
 (.fz [6] .ret))
 .skip))
 (.seq (.seq (.reg [o 8 (.mv (k 0))])
 (.blk 0 (.loop 3 q20_L3_b)))
 (.seq (.reg [o 6 (.mv (kb true))])
 (.fz [6] .ret))))))
def q20_F : VFn := ⟨true, 36, [.t 6], q20_c⟩
def q20_f (lo : Lo) : FnE := ⟨159, true, ⟨[0, 1, 2], [.l (cs [I, .l (cs [I]), .i .u32, .i .u32]), .i .i64, .i .i64], [], (cs [.l (cs [I, .l (cs [I]), .i .u32, .i .u32]), I, I])⟩, .b, [], (cs [.b]), (fun x => q20 lo x.1 x.2.1 x.2.2 : (List (Int × (List Int) × Int × Int)) × Int × Int → Option Bool)⟩
theorem q20_e (lo : Lo) : ∀ x : (List (Int × (List Int) × Int × Int)) × Int × Int, evP (⟨pf, fs20 lo, [q20_L3_p lo], 0⟩ : Tabs) q20_F ⟨[0, 1, 2], [.l (cs [I, .l (cs [I]), .i .u32, .i .u32]), .i .i64, .i .i64], [], (cs [.l (cs [I, .l (cs [I]), .i .u32, .i .u32]), I, I])⟩ (.b) (cs [.b]) x = q20 lo x.1 x.2.1 x.2.2 := fun x => by kernel_rfl
theorem q20_S {P : Program} {fm : FM} {lo : Lo} (hlo : LoOK lo) (hS : Sound P fm ⟨pf, fs20 lo, [], 0⟩) (hm : P.follows .mixedOrders = true) (htie : ∀ f, fm f = 159 → fnTr P fm pf f = some (q20_F.slots, q20_F.res, q20_F.code.er)) : Sound P fm ⟨pf, q20_f lo :: fs20 lo, [], 0⟩ :=
  fn_sound hS hm [q20_L3_p lo] (q20_f lo) rfl q20_F htie (by decide) rfl (Nat.le_of_ble_eq_true (by kernel_rfl)) (fun C hT => show LsOK (fun _ => False) [] C (⟨pf, fs20 lo, [q20_L3_p lo], 0⟩ : Tabs) q20_c from ⟨trivial, ⟨trivial, ⟨⟨trivial, ⟨⟨trivial, trivial⟩, trivial⟩⟩, ⟨⟨trivial, (lsGet (by kernel_rfl) (q20_L3_k hlo C (tok_ls hT)))⟩, ⟨trivial, trivial⟩⟩⟩⟩⟩) (fun x y h => (q20_e lo x).trans h)
def fs21 (lo : Lo) : List FnE := q20_f lo :: fs20 lo
def q21_L9_b : VCode :=
 (.seq (.seq (.reg [o 100 (.mv (t 12)), o 101 (.fad 2 (t 9)), o 102 (.fad 0 (t 101)), o 103 (.load false 1 (t 102)), o 104 (.bin .leq (t 100) (t 103))])
 (.cond (t 104) .skip
 (.exit 1)))
 (.seq (.blk 2 (.seq (.reg [o 107 (.fad 0 (t 11)), o 108 (.load false 1 (t 107)), o 109 (.mv (t 12)), o 110 (.bin .or (t 108) (t 109)), o 111 (.fad 2 (t 9)), o 112 (.fad 0 (t 111)), o 113 (.load false 1 (t 112)), o 114 (.bin .eql (t 110) (t 113)), o 115 (.mv (t 114)), og 116 115 true (.fad 1 (t 11)), og 117 115 true (.load false 1 (t 116)), og 118 115 true (.mv (t 12)), og 119 115 true (.bin .or (t 117) (t 118)), og 120 115 true (.fad 2 (t 9)), og 121 115 true (.fad 1 (t 120)), og 122 115 true (.load false 1 (t 121)), og 123 115 true (.bin .eql (t 119) (t 122)), o 124 (.pick (t 115) (t 123) (kb false))])
 (.cond (t 124) (.seq (.reg [o 8 (.mv (kb true))])
 (.fz [8] .ret))
 .skip)))
 (.reg [o 105 (.mv (t 12)), o 106 (.bin .add (t 105) (ki .u32 1)), o 12 (.mv (t 106))])))
def q21_L9_g : Sg := ⟨[9, 11, 12], [.ptr 0 0 0, .ptr 1 0 0, .i .u32], [.st [.i .i64, .l (cs [I]), .i .u32, .i .u32], .st [.i .u32, .i .u32]], (cs [.i .u32, I, .l (cs [I]), .i .u32, .i .u32, .i .u32, .i .u32])⟩
def q21_L9_o : List Out1 := [⟨.ret, ⟨[8], [.b], [], (cs [.b])⟩⟩, ⟨.exit 1, ⟨[], [], [], (cs [])⟩⟩]
def q21_L9_s (lo : Lo) : Int × Int × (List Int) × Int × Int × Int × Int → Option ((Int × Int × (List Int) × Int × Int × Int × Int) ⊕ (Bool ⊕ Unit)) := fun x => match x with
  | (z12, d9_0, d9_1, d9_2, d9_3, from11_0, from11_1) => bif (decide (z12 ≤ d9_2)) then (bif (decide ((bits .or .u32 from11_0 z12) = d9_2)) then (bif (decide ((bits .or .u32 from11_1 z12) = d9_3)) then (some (.inr (.inl true))) else (some (.inl ((IntKind.wrap .u32 (z12 + (1 : Int))), d9_0, d9_1, d9_2, d9_3, from11_0, from11_1)))) else (some (.inl ((IntKind.wrap .u32 (z12 + (1 : Int))), d9_0, d9_1, d9_2, d9_3, from11_0, from11_1)))) else (some (.inr (.inr ())))
theorem q21_L9_e (lo : Lo) : ∀ x : Int × Int × (List Int) × Int × Int × Int × Int, stepL (⟨pf, fs21 lo, [], 0⟩ : Tabs) [] q21_L9_g q21_L9_o q21_L9_b x = q21_L9_s lo x := fun x => by kernel_rfl
def q21_L9 (lo : Lo) : Int × Int × (List Int) × Int × Int × Int × Int → Option (Bool ⊕ Unit) := lo.run (q21_L9_s lo)
def q21_L9_p (lo : Lo) : LpE := ⟨9, [], q21_L9_g, q21_L9_o, q21_L9 lo⟩
theorem q21_L9_k {lo : Lo} (hlo : LoOK lo) (C : Ctx) (hT : TOK (⟨pf, fs21 lo, [], 0⟩ : Tabs) C) : LpSound (fun _ => False) [] 0 C (.loop q21_L9_b.er) (q21_L9_p lo) :=
  loop_sound (T := (⟨pf, fs21 lo, [], 0⟩ : Tabs)) hT frNo (show LsOK (fun _ => False) [] C (⟨pf, fs21 lo, [], 0⟩ : Tabs) q21_L9_b from ⟨⟨trivial, ⟨trivial, trivial⟩⟩, ⟨⟨trivial, ⟨⟨trivial, trivial⟩, trivial⟩⟩, trivial⟩⟩) (fun x y h => loopO_congr (q21_L9_e lo) (hlo _ _ _ h))
def q21 (lo : Lo) (n0 : Int) (fds1 : List (Int × Int)) (steps2 : List (Int × (List Int) × Int × Int)) (i3 : Int) : Option Bool :=
  chk (0 ≤ i3 ∧ i3 < (steps2.length : Int)) (Option.bind (q0 lo n0) fun y55 => Option.bind (q18 lo ((steps2.getD i3.toNat ((0 : Int), [], (0 : Int), (0 : Int))).2.2.1) y55) fun y56 => bif (!y56) then (some false) else (Option.bind (q18 lo ((steps2.getD i3.toNat ((0 : Int), [], (0 : Int), (0 : Int))).2.2.2) y55) fun y57 => bif (!y57) then (some false) else (bif (decide ((steps2.getD i3.toNat ((0 : Int), [], (0 : Int), (0 : Int))).1 = (1 : Int))) then (bif (decide ((((steps2.getD i3.toNat ((0 : Int), [], (0 : Int), (0 : Int))).2.1).length : Int) = (1 : Int))) then (chk (0 ≤ (0 : Int) ∧ (0 : Int) < (((steps2.getD i3.toNat ((0 : Int), [], (0 : Int), (0 : Int))).2.1).length : Int)) (bif (decide ((0 : Int) ≤ (((steps2.getD i3.toNat ((0 : Int), [], (0 : Int), (0 : Int))).2.1).getD 0 (0 : Int)))) then (chk (0 ≤ (0 : Int) ∧ (0 : Int) < (((steps2.getD i3.toNat ((0 : Int), [], (0 : Int), (0 : Int))).2.1).length : Int)) (bif (decide ((((steps2.getD i3.toNat ((0 : Int), [], (0 : Int), (0 : Int))).2.1).getD 0 (0 : Int)) < (fds1.length : Int))) then (chk (0 ≤ (0 : Int) ∧ (0 : Int) < (((steps2.getD i3.toNat ((0 : Int), [], (0 : Int), (0 : Int))).2.1).length : Int)) (chk (0 ≤ (((steps2.getD i3.toNat ((0 : Int), [], (0 : Int), (0 : Int))).2.1).getD 0 (0 : Int)) ∧ (((steps2.getD i3.toNat ((0 : Int), [], (0 : Int), (0 : Int))).2.1).getD 0 (0 : Int)) < (fds1.length : Int)) (some ((decide ((fds1.getD ((((steps2.getD i3.toNat ((0 : Int), [], (0 : Int), (0 : Int))).2.1).getD 0 (0 : Int)).toNat) ((0 : Int), (0 : Int))).1 = (steps2.getD i3.toNat ((0 : Int), [], (0 : Int), (0 : Int))).2.2.1)) && ((decide ((fds1.getD ((((steps2.getD i3.toNat ((0 : Int), [], (0 : Int), (0 : Int))).2.1).getD 0 (0 : Int)).toNat) ((0 : Int), (0 : Int))).2 = (steps2.getD i3.toNat ((0 : Int), [], (0 : Int), (0 : Int))).2.2.2)) && true))))) else (some false))) else (some false))) else (some false)) else (bif (decide ((steps2.getD i3.toNat ((0 : Int), [], (0 : Int), (0 : Int))).1 = (2 : Int))) then (bif (decide ((((steps2.getD i3.toNat ((0 : Int), [], (0 : Int), (0 : Int))).2.1).length : Int) = (0 : Int))) then (Option.bind (q18 lo ((steps2.getD i3.toNat ((0 : Int), [], (0 : Int), (0 : Int))).2.2.2) ((steps2.getD i3.toNat ((0 : Int), [], (0 : Int), (0 : Int))).2.2.1)) fun y58 => some y58) else (some false)) else (bif (decide ((steps2.getD i3.toNat ((0 : Int), [], (0 : Int), (0 : Int))).1 = (3 : Int))) then (Option.bind (q20 lo steps2 i3 (1 : Int)) fun y62 => bif (!y62) then (some false) else (chk (0 ≤ (0 : Int) ∧ (0 : Int) < (((steps2.getD i3.toNat ((0 : Int), [], (0 : Int), (0 : Int))).2.1).length : Int)) (chk (0 ≤ (((steps2.getD i3.toNat ((0 : Int), [], (0 : Int), (0 : Int))).2.1).getD 0 (0 : Int)) ∧ (((steps2.getD i3.toNat ((0 : Int), [], (0 : Int), (0 : Int))).2.1).getD 0 (0 : Int)) < (steps2.length : Int)) (Option.bind (q21_L9 lo ((0 : Int), (steps2.getD i3.toNat ((0 : Int), [], (0 : Int), (0 : Int))).1, (steps2.getD i3.toNat ((0 : Int), [], (0 : Int), (0 : Int))).2.1, (steps2.getD i3.toNat ((0 : Int), [], (0 : Int), (0 : Int))).2.2.1, (steps2.getD i3.toNat ((0 : Int), [], (0 : Int), (0 : Int))).2.2.2, (steps2.getD ((((steps2.getD i3.toNat ((0 : Int), [], (0 : Int), (0 : Int))).2.1).getD 0 (0 : Int)).toNat) ((0 : Int), [], (0 : Int), (0 : Int))).2.2.1, (steps2.getD ((((steps2.getD i3.toNat ((0 : Int), [], (0 : Int), (0 : Int))).2.1).getD 0 (0 : Int)).toNat) ((0 : Int), [], (0 : Int), (0 : Int))).2.2.2)) fun y63 => alt2 y63 (fun y64 => some y64) (fun y65 => some false))))) else (bif (decide ((steps2.getD i3.toNat ((0 : Int), [], (0 : Int), (0 : Int))).1 = (4 : Int))) then (Option.bind (q20 lo steps2 i3 (2 : Int)) fun y66 => bif (!y66) then (some false) else (chk (0 ≤ (0 : Int) ∧ (0 : Int) < (((steps2.getD i3.toNat ((0 : Int), [], (0 : Int), (0 : Int))).2.1).length : Int)) (chk (0 ≤ (((steps2.getD i3.toNat ((0 : Int), [], (0 : Int), (0 : Int))).2.1).getD 0 (0 : Int)) ∧ (((steps2.getD i3.toNat ((0 : Int), [], (0 : Int), (0 : Int))).2.1).getD 0 (0 : Int)) < (steps2.length : Int)) (chk (0 ≤ (1 : Int) ∧ (1 : Int) < (((steps2.getD i3.toNat ((0 : Int), [], (0 : Int), (0 : Int))).2.1).length : Int)) (chk (0 ≤ (((steps2.getD i3.toNat ((0 : Int), [], (0 : Int), (0 : Int))).2.1).getD 1 (0 : Int)) ∧ (((steps2.getD i3.toNat ((0 : Int), [], (0 : Int), (0 : Int))).2.1).getD 1 (0 : Int)) < (steps2.length : Int)) (bif (decide ((steps2.getD ((((steps2.getD i3.toNat ((0 : Int), [], (0 : Int), (0 : Int))).2.1).getD 0 (0 : Int)).toNat) ((0 : Int), [], (0 : Int), (0 : Int))).2.2.2 = (steps2.getD ((((steps2.getD i3.toNat ((0 : Int), [], (0 : Int), (0 : Int))).2.1).getD 1 (0 : Int)).toNat) ((0 : Int), [], (0 : Int), (0 : Int))).2.2.1)) then (bif (decide ((steps2.getD ((((steps2.getD i3.toNat ((0 : Int), [], (0 : Int), (0 : Int))).2.1).getD 0 (0 : Int)).toNat) ((0 : Int), [], (0 : Int), (0 : Int))).2.2.1 = (steps2.getD i3.toNat ((0 : Int), [], (0 : Int), (0 : Int))).2.2.1)) then (some (decide ((steps2.getD ((((steps2.getD i3.toNat ((0 : Int), [], (0 : Int), (0 : Int))).2.1).getD 1 (0 : Int)).toNat) ((0 : Int), [], (0 : Int), (0 : Int))).2.2.2 = (steps2.getD i3.toNat ((0 : Int), [], (0 : Int), (0 : Int))).2.2.2))) else (some false)) else (some false))))))) else (some false)))))))
def q21_c : VCode :=
 (.seq (.reg [o 8 (.mv (kb false))])
 (.seq (.reg [o 15 (.mv (t 2)), o 16 (.mv (t 3)), o 17 (.iad 4 (t 15) (t 16)), o 18 (.load true 4 (t 17)), o 9 (.alloc [.i .i64 0, .e (cs [I]), .i .u32 0, .i .u32 0]), on (.store 4 (t 9) (t 18))])
 (.seq (.reg [o 19 (.mv (t 0)), o 20 (.call 118 [(t 19)]), o 10 (.mv (t 20))])
 (.seq (.seq (.reg [o 21 (.fad 2 (t 9)), o 22 (.fad 0 (t 21)), o 23 (.load false 1 (t 22)), o 24 (.mv (t 10)), o 25 (.call 136 [(t 23), (t 24)]), o 26 (.not (t 25)), o 27 (.mv (t 26)), og 28 27 false (.fad 2 (t 9)), og 29 27 false (.fad 1 (t 28)), og 30 27 false (.load false 1 (t 29)), og 31 27 false (.mv (t 10)), og 32 27 false (.call 136 [(t 30), (t 31)]), og 33 27 false (.not (t 32)), o 34 (.pick (t 27) (kb true) (t 33))])
 (.cond (t 34) (.seq (.reg [o 8 (.mv (kb false))])
 (.fz [8] .ret))
 .skip))
 (.seq (.seq (.reg [o 35 (.fad 0 (t 9)), o 36 (.load false 1 (t 35))])
 (.blk 0 (.seq (.reg [o 38 (.bin .eql (t 36) (k 1)), o 37 (.mv (t 38))])
 (.cond (t 37) (.seq (.reg [o 39 (.fad 1 (t 9)), o 40 (.load false 1 (t 39)), o 41 (.len (t 40)), o 42 (.bin .eql (t 41) (k 1)), o 43 (.mv (t 42)), og 44 43 true (.fad 1 (t 9)), og 45 43 true (.load false 1 (t 44)), og 46 43 true (.iad 1 (t 45) (k 0)), og 47 43 true (.load false 1 (t 46)), og 48 43 true (.bin .geq (t 47) (k 0)), o 49 (.pick (t 43) (t 48) (kb false)), o 50 (.mv (t 49)), og 51 50 true (.fad 1 (t 9)), og 52 50 true (.load false 1 (t 51)), og 53 50 true (.iad 1 (t 52) (k 0)), og 54 50 true (.load false 1 (t 53)), og 55 50 true (.mv (t 1)), og 56 50 true (.len (t 55)), og 57 50 true (.bin .lss (t 54) (t 56)), o 58 (.pick (t 50) (t 57) (kb false)), o 59 (.mv (t 58)), og 60 59 true (.mv (t 1)), og 61 59 true (.fad 1 (t 9)), og 62 59 true (.load false 1 (t 61)), og 63 59 true (.iad 1 (t 62) (k 0)), og 64 59 true (.load false 1 (t 63)), og 65 59 true (.iad 2 (t 60) (t 64)), og 66 59 true (.load true 2 (t 65)), og 67 59 true (.fad 2 (t 9)), og 68 59 true (.load true 2 (t 67)), og 69 59 true (.eqa false [1, 1] (t 66) (t 68)), o 70 (.pick (t 59) (t 69) (kb false)), o 8 (.mv (t 70))])
 (.fz [8] .ret))
 (.seq (.reg [o 72 (.bin .eql (t 36) (k 2)), o 71 (.mv (t 72))])
 (.cond (t 71) (.seq (.reg [o 73 (.fad 1 (t 9)), o 74 (.load false 1 (t 73)), o 75 (.len (t 74)), o 76 (.bin .eql (t 75) (k 0)), o 77 (.mv (t 76)), og 78 77 true (.fad 2 (t 9)), og 79 77 true (.fad 1 (t 78)), og 80 77 true (.load false 1 (t 79)), og 81 77 true (.fad 2 (t 9)), og 82 77 true (.fad 0 (t 81)), og 83 77 true (.load false 1 (t 82)), og 84 77 true (.call 136 [(t 80), (t 83)]), o 85 (.pick (t 77) (t 84) (kb false)), o 8 (.mv (t 85))])
 (.fz [8] .ret))
 (.seq (.reg [o 87 (.bin .eql (t 36) (k 3)), o 86 (.mv (t 87))])
 (.cond (t 86) (.seq (.seq (.reg [o 88 (.mv (t 2)), o 89 (.mv (t 3)), o 90 (.call 159 [(t 88), (t 89), (k 1)]), o 91 (.not (t 90))])
 (.cond (t 91) (.seq (.reg [o 8 (.mv (kb false))])
 (.fz [8] .ret))
 .skip))
 (.seq (.reg [o 92 (.mv (t 2)), o 93 (.fad 1 (t 9)), o 94 (.load false 1 (t 93)), o 95 (.iad 1 (t 94) (k 0)), o 96 (.load false 1 (t 95)), o 97 (.iad 4 (t 92) (t 96)), o 98 (.fad 2 (t 97)), o 99 (.load true 2 (t 98)), o 11 (.alloc [.i .u32 0, .i .u32 0]), on (.store 2 (t 11) (t 99))])
 (.seq (.seq (.reg [o 12 (.mv (ki .u32 0))])
 (.blk 1 (.loop 9 q21_L9_b)))
 (.seq (.reg [o 8 (.mv (kb false))])
 (.fz [8] .ret)))))
 (.seq (.reg [o 126 (.bin .eql (t 36) (k 4)), o 125 (.mv (t 126))])
 (.cond (t 125) (.seq (.seq (.reg [o 127 (.mv (t 2)), o 128 (.mv (t 3)), o 129 (.call 159 [(t 127), (t 128), (k 2)]), o 130 (.not (t 129))])
 (.cond (t 130) (.seq (.reg [o 8 (.mv (kb false))])
 (.fz [8] .ret))
 .skip))
 (.seq (.reg [o 131 (.mv (t 2)), o 132 (.fad 1 (t 9)), ⟨some 133, .load false 1 (t 132), none, true, false⟩, ⟨some 134, .iad 1 (t 133) (k 0), none, true, false⟩, ⟨some 135, .load false 1 (t 134), none, true, false⟩, ⟨some 136, .iad 4 (t 131) (t 135), none, true, false⟩, o 137 (.fad 2 (t 136)), ⟨some 138, .load true 2 (t 137), none, true, false⟩, o 139 (.mv (t 2)), o 140 (.fad 1 (t 9)), ⟨some 141, .load false 1 (t 140), none, true, false⟩, ⟨some 142, .iad 1 (t 141) (k 1), none, true, false⟩, ⟨some 143, .load false 1 (t 142), none, true, false⟩, ⟨some 144, .iad 4 (t 139) (t 143), none, true, false⟩, o 145 (.fad 2 (t 144)), ⟨some 146, .load true 2 (t 145), none, true, false⟩, o 13 (.alloc [.i .u32 0, .i .u32 0]), o 14 (.alloc [.i .u32 0, .i .u32 0]), ⟨none, .store 2 (t 13) (t 138), none, false, true⟩, on (.store 2 (t 14) (t 146))])
 (.seq (.reg [o 147 (.fad 1 (t 13)), o 148 (.load false 1 (t 147)), o 149 (.fad 0 (t 14)), o 150 (.load false 1 (t 149)), o 151 (.bin .eql (t 148) (t 150)), o 152 (.mv (t 151)), og 153 152 true (.fad 0 (t 13)), og 154 152 true (.load false 1 (t 153)), og 155 152 true (.fad 2 (t 9)), og 156 152 true (.fad 0 (t 155)), og 157 152 true (.load false 1 (t 156)), og 158 152 true (.bin .eql (t 154) (t 157)), o 159 (.pick (t 152) (t 158) (kb false)), o 160 (.mv (t 159)), og 161 160 true (.fad 1 (t 14)), og 162 160 true (.load false 1 (t 161)), og 163 160 true (.fad 2 (t 9)), og 164 160 true (.fad 1 (t 163)), og 165 160 true (.load false 1 (t 164)), og 166 160 true (.bin .eql (t 162) (t 165)), o 167 (.pick (t 160) (t 166) (kb false)), o 8 (.mv (t 167))])
 (.fz [8] .ret))))
 .skip))))))))))
 (.seq (.reg [o 8 (.mv (kb false))])
 (.fz [8] .ret)))))))
def q21_F : VFn := ⟨true, 168, [.t 8], q21_c⟩
def q21_f (lo : Lo) : FnE := ⟨135, true, ⟨[0, 1, 2, 3], [.i .i64, .l (cs [.i .u32, .i .u32]), .l (cs [I, .l (cs [I]), .i .u32, .i .u32]), .i .i64], [], (cs [I, .l (cs [.i .u32, .i .u32]), .l (cs [I, .l (cs [I]), .i .u32, .i .u32]), I])⟩, .b, [], (cs [.b]), (fun x => q21 lo x.1 x.2.1 x.2.2.1 x.2.2.2 : Int × (List (Int × Int)) × (List (Int × (List Int) × Int × Int)) × Int → Option Bool)⟩
theorem q21_e (lo : Lo) : ∀ x : Int × (List (Int × Int)) × (List (Int × (List Int) × Int × Int)) × Int, evP (⟨pf, fs21 lo, [q21_L9_p lo], 0⟩ : Tabs) q21_F ⟨[0, 1, 2, 3], [.i .i64, .l (cs [.i .u32, .i .u32]), .l (cs [I, .l (cs [I]), .i .u32, .i .u32]), .i .i64], [], (cs [I, .l (cs [.i .u32, .i .u32]), .l (cs [I, .l (cs [I]), .i .u32, .i .u32]), I])⟩ (.b) (cs [.b]) x = q21 lo x.1 x.2.1 x.2.2.1 x.2.2.2 := fun x => by kernel_rfl
theorem q21_S {P : Program} {fm : FM} {lo : Lo} (hlo : LoOK lo) (hS : Sound P fm ⟨pf, fs21 lo, [], 0⟩) (hm : P.follows .mixedOrders = true) (htie : ∀ f, fm f = 135 → fnTr P fm pf f = some (q21_F.slots, q21_F.res, q21_F.code.er)) : Sound P fm ⟨pf, q21_f lo :: fs21 lo, [], 0⟩ :=
  fn_sound hS hm [q21_L9_p lo] (q21_f lo) rfl q21_F htie (by decide) rfl (Nat.le_of_ble_eq_true (by kernel_rfl)) (fun C hT => show LsOK (fun _ => False) [] C (⟨pf, fs21 lo, [q21_L9_p lo], 0⟩ : Tabs) q21_c from ⟨trivial, ⟨trivial, ⟨trivial, ⟨⟨trivial, ⟨⟨trivial, trivial⟩, trivial⟩⟩, ⟨⟨trivial, ⟨trivial, ⟨⟨trivial, trivial⟩, ⟨trivial, ⟨⟨trivial, trivial⟩, ⟨trivial, ⟨⟨⟨trivial, ⟨⟨trivial, trivial⟩, trivial⟩⟩, ⟨trivial, ⟨⟨trivial, (lsGet (by kernel_rfl) (q21_L9_k hlo C (tok_ls hT)))⟩, ⟨trivial, trivial⟩⟩⟩⟩, ⟨trivial, ⟨⟨⟨trivial, ⟨⟨trivial, trivial⟩, trivial⟩⟩, ⟨trivial, ⟨trivial, trivial⟩⟩⟩, trivial⟩⟩⟩⟩⟩⟩⟩⟩⟩, ⟨trivial, trivial⟩⟩⟩⟩⟩⟩) (fun x y h => (q21_e lo x).trans h)
def fs22 (lo : Lo) : List FnE := q21_f lo :: fs21 lo
end Go.Abs.G12
namespace Go.Abs.G12
open Go Go.Abs
set_option maxRecDepth 100000
set_option linter.unusedVariables false
set_option maxHeartbeats 1000000
def q22_L3_b : VCode :=
 (.seq (.seq (.reg [o 19 (.mv (t 9)), o 20 (.mv (t 2)), o 21 (.len (t 20)), o 22 (.bin .lss (t 19) (t 21))])
 (.cond (t 22) .skip
 (.exit 0)))
 (.seq (.blk 1 (.seq (.reg [o 25 (.mv (t 0)), o 26 (.mv (t 1)), o 27 (.mv (t 2)), o 28 (.mv (t 9)), o 29 (.call 135 [(t 25), (t 26), (t 27), (t 28)]), o 30 (.not (t 29))])
 (.cond (t 30) (.seq (.reg [o 31 (.mv (t 9)), o 6 (.mv (t 31)), o 7 (.mv (k 1))])
 (.fz [6, 7] .ret))
 .skip)))
 (.reg [o 23 (.mv (t 9)), o 24 (.bin .add (t 23) (k 1)), o 9 (.mv (t 24))])))
def q22_L3_g : Sg := ⟨[0, 1, 2, 9], [.i .i64, .l (cs [.i .u32, .i .u32]), .l (cs [I, .l (cs [I]), .i .u32, .i .u32]), .i .i64], [], (cs [I, .l (cs [.i .u32, .i .u32]), .l (cs [I, .l (cs [I]), .i .u32, .i .u32]), I])⟩
def q22_L3_o : List Out1 := [⟨.ret, ⟨[6, 7], [.i .i64, .i .i64], [], (cs [I, I])⟩⟩, ⟨.exit 0, ⟨[], [], [], (cs [])⟩⟩]
def q22_L3_s (lo : Lo) : Int × (List (Int × Int)) × (List (Int × (List Int) × Int × Int)) × Int → Option ((Int × (List (Int × Int)) × (List (Int × (List Int) × Int × Int)) × Int) ⊕ ((Int × Int) ⊕ Unit)) := fun x => match x with
  | (n0, fds1, steps2, i9) => bif (decide (i9 < (steps2.length : Int))) then (Option.bind (q21 lo n0 fds1 steps2 i9) fun y67 => bif (!y67) then (some (.inr (.inl (i9, (1 : Int))))) else (some (.inl (n0, fds1, steps2, (IntKind.wrap .i64 (i9 + (1 : Int))))))) else (some (.inr (.inr ())))
theorem q22_L3_e (lo : Lo) : ∀ x : Int × (List (Int × Int)) × (List (Int × (List Int) × Int × Int)) × Int, stepL (⟨pf, fs22 lo, [], 0⟩ : Tabs) [] q22_L3_g q22_L3_o q22_L3_b x = q22_L3_s lo x := fun x => by kernel_rfl
def q22_L3 (lo : Lo) : Int × (List (Int × Int)) × (List (Int × (List Int) × Int × Int)) × Int → Option ((Int × Int) ⊕ Unit) := lo.run (q22_L3_s lo)
def q22_L3_p (lo : Lo) : LpE := ⟨3, [], q22_L3_g, q22_L3_o, q22_L3 lo⟩
theorem q22_L3_k {lo : Lo} (hlo : LoOK lo) (C : Ctx) (hT : TOK (⟨pf, fs22 lo, [], 0⟩ : Tabs) C) : LpSound (fun _ => False) [] 0 C (.loop q22_L3_b.er) (q22_L3_p lo) :=
  loop_sound (T := (⟨pf, fs22 lo, [], 0⟩ : Tabs)) hT frNo (show LsOK (fun _ => False) [] C (⟨pf, fs22 lo, [], 0⟩ : Tabs) q22_L3_b from ⟨⟨trivial, ⟨trivial, trivial⟩⟩, ⟨⟨trivial, ⟨⟨trivial, trivial⟩, trivial⟩⟩, trivial⟩⟩) (fun x y h => loopO_congr (q22_L3_e lo) (hlo _ _ _ h))
def q22 (lo : Lo) (n0 : Int) (fds1 : List (Int × Int)) (steps2 : List (Int × (List Int) × Int × Int)) : Option (Int × Int) :=
  Option.bind (q19 lo n0 fds1) fun y54 => bif (!decide (y54 = (0 : Int))) then (some ((0 : Int), y54)) else (bif (decide ((steps2.length : Int) = (0 : Int))) then (some ((0 : Int), (12 : Int))) else (Option.bind (q22_L3 lo (n0, fds1, steps2, (0 : Int))) fun y68 => alt2 y68 (fun y69 => some (y69.1, y69.2)) (fun y70 => some ((0 : Int), (0 : Int)))))
def q22_c : VCode :=
 (.seq (.reg [o 6 (.mv (k 0)), o 7 (.mv (k 0))])
 (.seq (.seq (.reg [o 10 (.mv (t 0)), o 11 (.mv (t 1)), o 12 (.call 134 [(t 10), (t 11)]), o 8 (.mv (t 12))])
 (.seq (.reg [o 13 (.mv (t 8)), o 14 (.bin .neq (t 13) (k 0))])
 (.cond (t 14) (.seq (.reg [o 15 (.mv (t 8)), o 6 (.mv (k 0)), o 7 (.mv (t 15))])
 (.fz [6, 7] .ret))
 .skip)))
 (.seq (.seq (.reg [o 16 (.mv (t 2)), o 17 (.len (t 16)), o 18 (.bin .eql (t 17) (k 0))])
 (.cond (t 18) (.seq (.reg [o 6 (.mv (k 0)), o 7 (.mv (k 12))])
 (.fz [6, 7] .ret))
 .skip))
 (.seq (.seq (.reg [o 9 (.mv (k 0))])
 (.blk 0 (.loop 3 q22_L3_b)))
 (.seq (.reg [o 6 (.mv (k 0)), o 7 (.mv (k 0))])
 (.fz [6, 7] .ret))))))
def q22_F : VFn := ⟨true, 32, [.t 6, .t 7], q22_c⟩
def q22_f (lo : Lo) : FnE := ⟨112, true, ⟨[0, 1, 2], [.i .i64, .l (cs [.i .u32, .i .u32]), .l (cs [I, .l (cs [I]), .i .u32, .i .u32])], [], (cs [I, .l (cs [.i .u32, .i .u32]), .l (cs [I, .l (cs [I]), .i .u32, .i .u32])])⟩, .tp [.i .i64, .i .i64], [], (cs [I, I]), (fun x => q22 lo x.1 x.2.1 x.2.2 : Int × (List (Int × Int)) × (List (Int × (List Int) × Int × Int)) → Option (Int × Int))⟩
theorem q22_e (lo : Lo) : ∀ x : Int × (List (Int × Int)) × (List (Int × (List Int) × Int × Int)), evP (⟨pf, fs22 lo, [q22_L3_p lo], 0⟩ : Tabs) q22_F ⟨[0, 1, 2], [.i .i64, .l (cs [.i .u32, .i .u32]), .l (cs [I, .l (cs [I]), .i .u32, .i .u32])], [], (cs [I, .l (cs [.i .u32, .i .u32]), .l (cs [I, .l (cs [I]), .i .u32, .i .u32])])⟩ (.tp [.i .i64, .i .i64]) (cs [I, I]) x = q22 lo x.1 x.2.1 x.2.2 := fun x => by kernel_rfl
theorem q22_S {P : Program} {fm : FM} {lo : Lo} (hlo : LoOK lo) (hS : Sound P fm ⟨pf, fs22 lo, [], 0⟩) (hm : P.follows .mixedOrders = true) (htie : ∀ f, fm f = 112 → fnTr P fm pf f = some (q22_F.slots, q22_F.res, q22_F.code.er)) : Sound P fm ⟨pf, q22_f lo :: fs22 lo, [], 0⟩ :=
  fn_sound hS hm [q22_L3_p lo] (q22_f lo) rfl q22_F htie (by decide) rfl (Nat.le_of_ble_eq_true (by kernel_rfl)) (fun C hT => show LsOK (fun _ => False) [] C (⟨pf, fs22 lo, [q22_L3_p lo], 0⟩ : Tabs) q22_c from ⟨trivial, ⟨⟨trivial, ⟨trivial, ⟨⟨trivial, trivial⟩, trivial⟩⟩⟩, ⟨⟨trivial, ⟨⟨trivial, trivial⟩, trivial⟩⟩, ⟨⟨trivial, (lsGet (by kernel_rfl) (q22_L3_k hlo C (tok_ls hT)))⟩, ⟨trivial, trivial⟩⟩⟩⟩⟩) (fun x y h => (q22_e lo x).trans h)
def fs23 (lo : Lo) : List FnE := q22_f lo :: fs22 lo
def q23 (lo : Lo) (n0 : Int) (fds1 : List (Int × Int)) (steps2 : List (Int × (List Int) × Int × Int)) (goal3_0 : Int) (goal3_1 : Int) : Option Bool :=
  Option.bind (q22 lo n0 fds1 steps2) fun y71 => bif (decide (y71.2 = (0 : Int))) then (chk (0 ≤ (IntKind.wrap .i64 ((steps2.length : Int) - (1 : Int))) ∧ (IntKind.wrap .i64 ((steps2.length : Int) - (1 : Int))) < (steps2.length : Int)) (some ((decide ((steps2.getD ((IntKind.wrap .i64 ((steps2.length : Int) - (1 : Int))).toNat) ((0 : Int), [], (0 : Int), (0 : Int))).2.2.1 = goal3_0)) && ((decide ((steps2.getD ((IntKind.wrap .i64 ((steps2.length : Int) - (1 : Int))).toNat) ((0 : Int), [], (0 : Int), (0 : Int))).2.2.2 = goal3_1)) && true)))) else (some false)
def q23_c : VCode :=
 (.seq (.reg [o 7 (.box (t 3)), o 8 (.mv (kb false))])
 (.seq (.reg [o 12 (.mv (t 0)), o 13 (.mv (t 1)), o 14 (.mv (t 2)), o 15 (.call 112 [(t 12), (t 13), (t 14)]), o 11 (.mv (t 15)), o 16 (.ext (t 11) 0), o 17 (.ext (t 11) 1), o 9 (.mv (t 16)), o 10 (.mv (t 17))])
 (.seq (.reg [o 18 (.mv (t 10)), o 19 (.bin .eql (t 18) (k 0)), o 20 (.mv (t 19)), og 21 20 true (.mv (t 2)), og 22 20 true (.mv (t 2)), og 23 20 true (.len (t 22)), og 24 20 true (.bin .sub (t 23) (k 1)), og 25 20 true (.iad 4 (t 21) (t 24)), og 26 20 true (.fad 2 (t 25)), og 27 20 true (.load true 2 (t 26)), og 28 20 true (.load true 2 (t 7)), og 29 20 true (.eqa false [1, 1] (t 27) (t 28)), o 30 (.pick (t 20) (t 29) (kb false)), o 8 (.mv (t 30))])
 (.fz [8] .ret))))
def q23_F : VFn := ⟨true, 31, [.t 8], q23_c⟩
def q23_f (lo : Lo) : FnE := ⟨114, true, ⟨[0, 1, 2, 3], [.i .i64, .l (cs [.i .u32, .i .u32]), .l (cs [I, .l (cs [I]), .i .u32, .i .u32]), .ag [.i .u32, .i .u32]], [], (cs [I, .l (cs [.i .u32, .i .u32]), .l (cs [I, .l (cs [I]), .i .u32, .i .u32]), .i .u32, .i .u32])⟩, .b, [], (cs [.b]), (fun x => q23 lo x.1 x.2.1 x.2.2.1 x.2.2.2.1 x.2.2.2.2 : Int × (List (Int × Int)) × (List (Int × (List Int) × Int × Int)) × Int × Int → Option Bool)⟩
theorem q23_e (lo : Lo) : ∀ x : Int × (List (Int × Int)) × (List (Int × (List Int) × Int × Int)) × Int × Int, evP (⟨pf, fs23 lo, [], 0⟩ : Tabs) q23_F ⟨[0, 1, 2, 3], [.i .i64, .l (cs [.i .u32, .i .u32]), .l (cs [I, .l (cs [I]), .i .u32, .i .u32]), .ag [.i .u32, .i .u32]], [], (cs [I, .l (cs [.i .u32, .i .u32]), .l (cs [I, .l (cs [I]), .i .u32, .i .u32]), .i .u32, .i .u32])⟩ (.b) (cs [.b]) x = q23 lo x.1 x.2.1 x.2.2.1 x.2.2.2.1 x.2.2.2.2 := fun x => by kernel_rfl
theorem q23_S {P : Program} {fm : FM} {lo : Lo} (hlo : LoOK lo) (hS : Sound P fm ⟨pf, fs23 lo, [], 0⟩) (hm : P.follows .mixedOrders = true) (htie : ∀ f, fm f = 114 → fnTr P fm pf f = some (q23_F.slots, q23_F.res, q23_F.code.er)) : Sound P fm ⟨pf, q23_f lo :: fs23 lo, [], 0⟩ :=
  fn_sound hS hm [] (q23_f lo) rfl q23_F htie (by decide) rfl (Nat.le_of_ble_eq_true (by kernel_rfl)) (fun C hT => show LsOK (fun _ => False) [] C (⟨pf, fs23 lo, [], 0⟩ : Tabs) q23_c from ⟨trivial, ⟨trivial, ⟨trivial, trivial⟩⟩⟩) (fun x y h => (q23_e lo x).trans h)
def fs24 (lo : Lo) : List FnE := q23_f lo :: fs23 lo
def q24 (lo : Lo) (n0 : Int) (fds1 : List (Int × Int)) (steps2 : List (Int × (List Int) × Int × Int)) (goal3_0 : Int) (goal3_1 : Int) : Option Bool :=
  Option.bind (q9 lo n0 fds1 steps2) fun y73 => bif (decide (y73.2 = (0 : Int))) then (chk (0 ≤ (IntKind.wrap .i64 ((steps2.length : Int) - (1 : Int))) ∧ (IntKind.wrap .i64 ((steps2.length : Int) - (1 : Int))) < (steps2.length : Int)) (some ((decide ((steps2.getD ((IntKind.wrap .i64 ((steps2.length : Int) - (1 : Int))).toNat) ((0 : Int), [], (0 : Int), (0 : Int))).2.2.1 = goal3_0)) && ((decide ((steps2.getD ((IntKind.wrap .i64 ((steps2.length : Int) - (1 : Int))).toNat) ((0 : Int), [], (0 : Int), (0 : Int))).2.2.2 = goal3_1)) && true)))) else (some false)
def q24_c : VCode :=
 (.seq (.reg [o 7 (.box (t 3)), o 8 (.mv (kb false))])
 (.seq (.reg [o 12 (.mv (t 0)), o 13 (.mv (t 1)), o 14 (.mv (t 2)), o 15 (.call 111 [(t 12), (t 13), (t 14)]), o 11 (.mv (t 15)), o 16 (.ext (t 11) 0), o 17 (.ext (t 11) 1), o 9 (.mv (t 16)), o 10 (.mv (t 17))])
 (.seq (.reg [o 18 (.mv (t 10)), o 19 (.bin .eql (t 18) (k 0)), o 20 (.mv (t 19)), og 21 20 true (.mv (t 2)), og 22 20 true (.mv (t 2)), og 23 20 true (.len (t 22)), og 24 20 true (.bin .sub (t 23) (k 1)), og 25 20 true (.iad 4 (t 21) (t 24)), og 26 20 true (.fad 2 (t 25)), og 27 20 true (.load true 2 (t 26)), og 28 20 true (.load true 2 (t 7)), og 29 20 true (.eqa false [1, 1] (t 27) (t 28)), o 30 (.pick (t 20) (t 29) (kb false)), o 8 (.mv (t 30))])
 (.fz [8] .ret))))
def q24_F : VFn := ⟨true, 31, [.t 8], q24_c⟩
def q24_f (lo : Lo) : FnE := ⟨113, true, ⟨[0, 1, 2, 3], [.i .i64, .l (cs [.i .u32, .i .u32]), .l (cs [I, .l (cs [I]), .i .u32, .i .u32]), .ag [.i .u32, .i .u32]], [], (cs [I, .l (cs [.i .u32, .i .u32]), .l (cs [I, .l (cs [I]), .i .u32, .i .u32]), .i .u32, .i .u32])⟩, .b, [], (cs [.b]), (fun x => q24 lo x.1 x.2.1 x.2.2.1 x.2.2.2.1 x.2.2.2.2 : Int × (List (Int × Int)) × (List (Int × (List Int) × Int × Int)) × Int × Int → Option Bool)⟩
theorem q24_e (lo : Lo) : ∀ x : Int × (List (Int × Int)) × (List (Int × (List Int) × Int × Int)) × Int × Int, evP (⟨pf, fs24 lo, [], 0⟩ : Tabs) q24_F ⟨[0, 1, 2, 3], [.i .i64, .l (cs [.i .u32, .i .u32]), .l (cs [I, .l (cs [I]), .i .u32, .i .u32]), .ag [.i .u32, .i .u32]], [], (cs [I, .l (cs [.i .u32, .i .u32]), .l (cs [I, .l (cs [I]), .i .u32, .i .u32]), .i .u32, .i .u32])⟩ (.b) (cs [.b]) x = q24 lo x.1 x.2.1 x.2.2.1 x.2.2.2.1 x.2.2.2.2 := fun x => by kernel_rfl
theorem q24_S {P : Program} {fm : FM} {lo : Lo} (hlo : LoOK lo) (hS : Sound P fm ⟨pf, fs24 lo, [], 0⟩) (hm : P.follows .mixedOrders = true) (htie : ∀ f, fm f = 113 → fnTr P fm pf f = some (q24_F.slots, q24_F.res, q24_F.code.er)) : Sound P fm ⟨pf, q24_f lo :: fs24 lo, [], 0⟩ :=
  fn_sound hS hm [] (q24_f lo) rfl q24_F htie (by decide) rfl (Nat.le_of_ble_eq_true (by kernel_rfl)) (fun C hT => show LsOK (fun _ => False) [] C (⟨pf, fs24 lo, [], 0⟩ : Tabs) q24_c from ⟨trivial, ⟨trivial, ⟨trivial, trivial⟩⟩⟩) (fun x y h => (q24_e lo x).trans h)
def fs25 (lo : Lo) : List FnE := q24_f lo :: fs24 lo
def q25 (lo : Lo) (i0 : Int) : Option ByteArray :=
  bif (decide (i0 < (10 : Int))) then (chk (0 ≤ i0 ∧ i0 ≤ (IntKind.wrap .i64 (i0 + (1 : Int))) ∧ (IntKind.wrap .i64 (i0 + (1 : Int))) ≤ ((ByteArray.mk #[48, 49, 50, 51, 52, 53, 54, 55, 56, 57, 97, 98, 99, 100, 101, 102, 103, 104, 105, 106, 107, 108, 109, 110, 111, 112, 113, 114, 115, 116, 117, 118, 119, 120, 121, 122]).size : Int)) (some ((ByteArray.mk #[48, 49, 50, 51, 52, 53, 54, 55, 56, 57, 97, 98, 99, 100, 101, 102, 103, 104, 105, 106, 107, 108, 109, 110, 111, 112, 113, 114, 115, 116, 117, 118, 119, 120, 121, 122]).extract i0.toNat (IntKind.wrap .i64 (i0 + (1 : Int))).toNat))) else (chk (0 ≤ (IntKind.wrap .i64 (i0 * (2 : Int))) ∧ (IntKind.wrap .i64 (i0 * (2 : Int))) ≤ (IntKind.wrap .i64 ((IntKind.wrap .i64 (i0 * (2 : Int))) + (2 : Int))) ∧ (IntKind.wrap .i64 ((IntKind.wrap .i64 (i0 * (2 : Int))) + (2 : Int))) ≤ ((ByteArray.mk #[48, 48, 48, 49, 48, 50, 48, 51, 48, 52, 48, 53, 48, 54, 48, 55, 48, 56, 48, 57, 49, 48, 49, 49, 49, 50, 49, 51, 49, 52, 49, 53, 49, 54, 49, 55, 49, 56, 49, 57, 50, 48, 50, 49, 50, 50, 50, 51, 50, 52, 50, 53, 50, 54, 50, 55, 50, 56, 50, 57, 51, 48, 51, 49, 51, 50, 51, 51, 51, 52, 51, 53, 51, 54, 51, 55, 51, 56, 51, 57, 52, 48, 52, 49, 52, 50, 52, 51, 52, 52, 52, 53, 52, 54, 52, 55, 52, 56, 52, 57, 53, 48, 53, 49, 53, 50, 53, 51, 53, 52, 53, 53, 53, 54, 53, 55, 53, 56, 53, 57, 54, 48, 54, 49, 54, 50, 54, 51, 54, 52, 54, 53, 54, 54, 54, 55, 54, 56, 54, 57, 55, 48, 55, 49, 55, 50, 55, 51, 55, 52, 55, 53, 55, 54, 55, 55, 55, 56, 55, 57, 56, 48, 56, 49, 56, 50, 56, 51, 56, 52, 56, 53, 56, 54, 56, 55, 56, 56, 56, 57, 57, 48, 57, 49, 57, 50, 57, 51, 57, 52, 57, 53, 57, 54, 57, 55, 57, 56, 57, 57]).size : Int)) (some ((ByteArray.mk #[48, 48, 48, 49, 48, 50, 48, 51, 48, 52, 48, 53, 48, 54, 48, 55, 48, 56, 48, 57, 49, 48, 49, 49, 49, 50, 49, 51, 49, 52, 49, 53, 49, 54, 49, 55, 49, 56, 49, 57, 50, 48, 50, 49, 50, 50, 50, 51, 50, 52, 50, 53, 50, 54, 50, 55, 50, 56, 50, 57, 51, 48, 51, 49, 51, 50, 51, 51, 51, 52, 51, 53, 51, 54, 51, 55, 51, 56, 51, 57, 52, 48, 52, 49, 52, 50, 52, 51, 52, 52, 52, 53, 52, 54, 52, 55, 52, 56, 52, 57, 53, 48, 53, 49, 53, 50, 53, 51, 53, 52, 53, 53, 53, 54, 53, 55, 53, 56, 53, 57, 54, 48, 54, 49, 54, 50, 54, 51, 54, 52, 54, 53, 54, 54, 54, 55, 54, 56, 54, 57, 55, 48, 55, 49, 55, 50, 55, 51, 55, 52, 55, 53, 55, 54, 55, 55, 55, 56, 55, 57, 56, 48, 56, 49, 56, 50, 56, 51, 56, 52, 56, 53, 56, 54, 56, 55, 56, 56, 56, 57, 57, 48, 57, 49, 57, 50, 57, 51, 57, 52, 57, 53, 57, 54, 57, 55, 57, 56, 57, 57]).extract (IntKind.wrap .i64 (i0 * (2 : Int))).toNat (IntKind.wrap .i64 ((IntKind.wrap .i64 (i0 * (2 : Int))) + (2 : Int))).toNat)))
def q25_c : VCode :=
 (.seq (.reg [o 2 (.mv (ks (⟨#[]⟩)))])
 (.seq (.seq (.reg [o 3 (.mv (t 0)), o 4 (.bin .lss (t 3) (k 10))])
 (.cond (t 4) (.seq (.reg [o 5 (.mv (t 0)), o 6 (.mv (t 0)), o 7 (.bin .add (t 6) (k 1)), o 8 (.slcS (ks (⟨#[48, 49, 50, 51, 52, 53, 54, 55, 56, 57, 97, 98, 99, 100, 101, 102, 103, 104, 105, 106, 107, 108, 109, 110, 111, 112, 113, 114, 115, 116, 117, 118, 119, 120, 121, 122]⟩)) (some (t 5)) (some (t 7))), o 2 (.mv (t 8))])
 (.fz [2] .ret))
 .skip))
 (.seq (.reg [o 9 (.mv (t 0)), o 10 (.bin .mul (t 9) (k 2)), o 11 (.mv (t 0)), o 12 (.bin .mul (t 11) (k 2)), o 13 (.bin .add (t 12) (k 2)), o 14 (.slcS (ks (⟨#[48, 48, 48, 49, 48, 50, 48, 51, 48, 52, 48, 53, 48, 54, 48, 55, 48, 56, 48, 57, 49, 48, 49, 49, 49, 50, 49, 51, 49, 52, 49, 53, 49, 54, 49, 55, 49, 56, 49, 57, 50, 48, 50, 49, 50, 50, 50, 51, 50, 52, 50, 53, 50, 54, 50, 55, 50, 56, 50, 57, 51, 48, 51, 49, 51, 50, 51, 51, 51, 52, 51, 53, 51, 54, 51, 55, 51, 56, 51, 57, 52, 48, 52, 49, 52, 50, 52, 51, 52, 52, 52, 53, 52, 54, 52, 55, 52, 56, 52, 57, 53, 48, 53, 49, 53, 50, 53, 51, 53, 52, 53, 53, 53, 54, 53, 55, 53, 56, 53, 57, 54, 48, 54, 49, 54, 50, 54, 51, 54, 52, 54, 53, 54, 54, 54, 55, 54, 56, 54, 57, 55, 48, 55, 49, 55, 50, 55, 51, 55, 52, 55, 53, 55, 54, 55, 55, 55, 56, 55, 57, 56, 48, 56, 49, 56, 50, 56, 51, 56, 52, 56, 53, 56, 54, 56, 55, 56, 56, 56, 57, 57, 48, 57, 49, 57, 50, 57, 51, 57, 52, 57, 53, 57, 54, 57, 55, 57, 56, 57, 57]⟩)) (some (t 10)) (some (t 13))), o 2 (.mv (t 14))])
 (.fz [2] .ret))))
def q25_F : VFn := ⟨true, 15, [.t 2], q25_c⟩
def q25_f (lo : Lo) : FnE := ⟨1082, true, ⟨[0], [.i .i64], [], (cs [I])⟩, .s, [], (cs [.s]), (fun x => q25 lo x : Int → Option ByteArray)⟩
theorem q25_e (lo : Lo) : ∀ x : Int, evP (⟨pf, fs25 lo, [], 0⟩ : Tabs) q25_F ⟨[0], [.i .i64], [], (cs [I])⟩ (.s) (cs [.s]) x = q25 lo x := fun x => by kernel_rfl
theorem q25_S {P : Program} {fm : FM} {lo : Lo} (hlo : LoOK lo) (hS : Sound P fm ⟨pf, fs25 lo, [], 0⟩) (hm : P.follows .mixedOrders = true) (htie : ∀ f, fm f = 1082 → fnTr P fm pf f = some (q25_F.slots, q25_F.res, q25_F.code.er)) : Sound P fm ⟨pf, q25_f lo :: fs25 lo, [], 0⟩ :=
  fn_sound hS hm [] (q25_f lo) rfl q25_F htie (by decide) rfl (Nat.le_of_ble_eq_true (by kernel_rfl)) (fun C hT => show LsOK (fun _ => False) [] C (⟨pf, fs25 lo, [], 0⟩ : Tabs) q25_c from ⟨trivial, ⟨⟨trivial, ⟨⟨trivial, trivial⟩, trivial⟩⟩, ⟨trivial, trivial⟩⟩⟩) (fun x y h => (q25_e lo x).trans h)
def fs26 (lo : Lo) : List FnE := q25_f lo :: fs25 lo
def q26_J9_b : VCode :=
 (.seq (.seq (.reg [o 13 (.mv (t 0)), o 14 (.bin .geq (t 13) (ki .u64 256))])
 (.cond (t 14) (.seq (.reg [o 15 (.mv (t 0)), o 16 (.bin .shr (t 15) (ki .u64 8)), o 0 (.mv (t 16))])
 (.reg [o 17 (.mv (t 2)), o 18 (.bin .add (t 17) (k 8)), o 2 (.mv (t 18))]))
 .skip))
 (.seq (.reg [o 19 (.mv (t 2)), o 20 (.mv (t 0)), o 21 (.conv .u8 (t 20)), o 22 (.idx (ks (⟨#[0, 1, 2, 2, 3, 3, 3, 3, 4, 4, 4, 4, 4, 4, 4, 4, 5, 5, 5, 5, 5, 5, 5, 5, 5, 5, 5, 5, 5, 5, 5, 5, 6, 6, 6, 6, 6, 6, 6, 6, 6, 6, 6, 6, 6, 6, 6, 6, 6, 6, 6, 6, 6, 6, 6, 6, 6, 6, 6, 6, 6, 6, 6, 6, 7, 7, 7, 7, 7, 7, 7, 7, 7, 7, 7, 7, 7, 7, 7, 7, 7, 7, 7, 7, 7, 7, 7, 7, 7, 7, 7, 7, 7, 7, 7, 7, 7, 7, 7, 7, 7, 7, 7, 7, 7, 7, 7, 7, 7, 7, 7, 7, 7, 7, 7, 7, 7, 7, 7, 7, 7, 7, 7, 7, 7, 7, 7, 7, 8, 8, 8, 8, 8, 8, 8, 8, 8, 8, 8, 8, 8, 8, 8, 8, 8, 8, 8, 8, 8, 8, 8, 8, 8, 8, 8, 8, 8, 8, 8, 8, 8, 8, 8, 8, 8, 8, 8, 8, 8, 8, 8, 8, 8, 8, 8, 8, 8, 8, 8, 8, 8, 8, 8, 8, 8, 8, 8, 8, 8, 8, 8, 8, 8, 8, 8, 8, 8, 8, 8, 8, 8, 8, 8, 8, 8, 8, 8, 8, 8, 8, 8, 8, 8, 8, 8, 8, 8, 8, 8, 8, 8, 8, 8, 8, 8, 8, 8, 8, 8, 8, 8, 8, 8, 8, 8, 8, 8, 8, 8, 8, 8, 8, 8, 8, 8, 8, 8, 8, 8, 8, 8, 8, 8, 8, 8, 8]⟩)) (t 21)), o 23 (.conv .i64 (t 22)), o 24 (.bin .add (t 19) (t 23)), o 2 (.mv (t 24))])
 (.fz [2] .ret)))
def q26_J9_g : Sg := ⟨[0, 2], [.i .u64, .i .i64], [], (cs [.i .u64, I])⟩
def q26_J9_o : List Out1 := [⟨.ret, ⟨[2], [.i .i64], [], (cs [I])⟩⟩]
def q26_J9 (lo : Lo) : Int × Int → Option Int := fun x => match x with
  | (x0, n2) => bif (decide ((256 : Int) ≤ x0)) then (chk (0 ≤ (8 : Int)) (chk (0 ≤ (IntKind.wrap .u8 (x0.fdiv (2 ^ (min (8 : Int).toNat (IntKind.bits .u64))))) ∧ (IntKind.wrap .u8 (x0.fdiv (2 ^ (min (8 : Int).toNat (IntKind.bits .u64))))) < ((ByteArray.mk #[0, 1, 2, 2, 3, 3, 3, 3, 4, 4, 4, 4, 4, 4, 4, 4, 5, 5, 5, 5, 5, 5, 5, 5, 5, 5, 5, 5, 5, 5, 5, 5, 6, 6, 6, 6, 6, 6, 6, 6, 6, 6, 6, 6, 6, 6, 6, 6, 6, 6, 6, 6, 6, 6, 6, 6, 6, 6, 6, 6, 6, 6, 6, 6, 7, 7, 7, 7, 7, 7, 7, 7, 7, 7, 7, 7, 7, 7, 7, 7, 7, 7, 7, 7, 7, 7, 7, 7, 7, 7, 7, 7, 7, 7, 7, 7, 7, 7, 7, 7, 7, 7, 7, 7, 7, 7, 7, 7, 7, 7, 7, 7, 7, 7, 7, 7, 7, 7, 7, 7, 7, 7, 7, 7, 7, 7, 7, 7, 8, 8, 8, 8, 8, 8, 8, 8, 8, 8, 8, 8, 8, 8, 8, 8, 8, 8, 8, 8, 8, 8, 8, 8, 8, 8, 8, 8, 8, 8, 8, 8, 8, 8, 8, 8, 8, 8, 8, 8, 8, 8, 8, 8, 8, 8, 8, 8, 8, 8, 8, 8, 8, 8, 8, 8, 8, 8, 8, 8, 8, 8, 8, 8, 8, 8, 8, 8, 8, 8, 8, 8, 8, 8, 8, 8, 8, 8, 8, 8, 8, 8, 8, 8, 8, 8, 8, 8, 8, 8, 8, 8, 8, 8, 8, 8, 8, 8, 8, 8, 8, 8, 8, 8, 8, 8, 8, 8, 8, 8, 8, 8, 8, 8, 8, 8, 8, 8, 8, 8, 8, 8, 8, 8, 8, 8, 8, 8]).size : Int)) (some (IntKind.wrap .i64 ((IntKind.wrap .i64 (n2 + (8 : Int))) + (IntKind.wrap .i64 (byteI (ByteArray.mk #[0, 1, 2, 2, 3, 3, 3, 3, 4, 4, 4, 4, 4, 4, 4, 4, 5, 5, 5, 5, 5, 5, 5, 5, 5, 5, 5, 5, 5, 5, 5, 5, 6, 6, 6, 6, 6, 6, 6, 6, 6, 6, 6, 6, 6, 6, 6, 6, 6, 6, 6, 6, 6, 6, 6, 6, 6, 6, 6, 6, 6, 6, 6, 6, 7, 7, 7, 7, 7, 7, 7, 7, 7, 7, 7, 7, 7, 7, 7, 7, 7, 7, 7, 7, 7, 7, 7, 7, 7, 7, 7, 7, 7, 7, 7, 7, 7, 7, 7, 7, 7, 7, 7, 7, 7, 7, 7, 7, 7, 7, 7, 7, 7, 7, 7, 7, 7, 7, 7, 7, 7, 7, 7, 7, 7, 7, 7, 7, 8, 8, 8, 8, 8, 8, 8, 8, 8, 8, 8, 8, 8, 8, 8, 8, 8, 8, 8, 8, 8, 8, 8, 8, 8, 8, 8, 8, 8, 8, 8, 8, 8, 8, 8, 8, 8, 8, 8, 8, 8, 8, 8, 8, 8, 8, 8, 8, 8, 8, 8, 8, 8, 8, 8, 8, 8, 8, 8, 8, 8, 8, 8, 8, 8, 8, 8, 8, 8, 8, 8, 8, 8, 8, 8, 8, 8, 8, 8, 8, 8, 8, 8, 8, 8, 8, 8, 8, 8, 8, 8, 8, 8, 8, 8, 8, 8, 8, 8, 8, 8, 8, 8, 8, 8, 8, 8, 8, 8, 8, 8, 8, 8, 8, 8, 8, 8, 8, 8, 8, 8, 8, 8, 8, 8, 8, 8, 8]) (IntKind.wrap .u8 (x0.fdiv (2 ^ (min (8 : Int).toNat (IntKind.bits .u64)))))))))))) else (chk (0 ≤ (IntKind.wrap .u8 x0) ∧ (IntKind.wrap .u8 x0) < ((ByteArray.mk #[0, 1, 2, 2, 3, 3, 3, 3, 4, 4, 4, 4, 4, 4, 4, 4, 5, 5, 5, 5, 5, 5, 5, 5, 5, 5, 5, 5, 5, 5, 5, 5, 6, 6, 6, 6, 6, 6, 6, 6, 6, 6, 6, 6, 6, 6, 6, 6, 6, 6, 6, 6, 6, 6, 6, 6, 6, 6, 6, 6, 6, 6, 6, 6, 7, 7, 7, 7, 7, 7, 7, 7, 7, 7, 7, 7, 7, 7, 7, 7, 7, 7, 7, 7, 7, 7, 7, 7, 7, 7, 7, 7, 7, 7, 7, 7, 7, 7, 7, 7, 7, 7, 7, 7, 7, 7, 7, 7, 7, 7, 7, 7, 7, 7, 7, 7, 7, 7, 7, 7, 7, 7, 7, 7, 7, 7, 7, 7, 8, 8, 8, 8, 8, 8, 8, 8, 8, 8, 8, 8, 8, 8, 8, 8, 8, 8, 8, 8, 8, 8, 8, 8, 8, 8, 8, 8, 8, 8, 8, 8, 8, 8, 8, 8, 8, 8, 8, 8, 8, 8, 8, 8, 8, 8, 8, 8, 8, 8, 8, 8, 8, 8, 8, 8, 8, 8, 8, 8, 8, 8, 8, 8, 8, 8, 8, 8, 8, 8, 8, 8, 8, 8, 8, 8, 8, 8, 8, 8, 8, 8, 8, 8, 8, 8, 8, 8, 8, 8, 8, 8, 8, 8, 8, 8, 8, 8, 8, 8, 8, 8, 8, 8, 8, 8, 8, 8, 8, 8, 8, 8, 8, 8, 8, 8, 8, 8, 8, 8, 8, 8, 8, 8, 8, 8, 8, 8]).size : Int)) (some (IntKind.wrap .i64 (n2 + (IntKind.wrap .i64 (byteI (ByteArray.mk #[0, 1, 2, 2, 3, 3, 3, 3, 4, 4, 4, 4, 4, 4, 4, 4, 5, 5, 5, 5, 5, 5, 5, 5, 5, 5, 5, 5, 5, 5, 5, 5, 6, 6, 6, 6, 6, 6, 6, 6, 6, 6, 6, 6, 6, 6, 6, 6, 6, 6, 6, 6, 6, 6, 6, 6, 6, 6, 6, 6, 6, 6, 6, 6, 7, 7, 7, 7, 7, 7, 7, 7, 7, 7, 7, 7, 7, 7, 7, 7, 7, 7, 7, 7, 7, 7, 7, 7, 7, 7, 7, 7, 7, 7, 7, 7, 7, 7, 7, 7, 7, 7, 7, 7, 7, 7, 7, 7, 7, 7, 7, 7, 7, 7, 7, 7, 7, 7, 7, 7, 7, 7, 7, 7, 7, 7, 7, 7, 8, 8, 8, 8, 8, 8, 8, 8, 8, 8, 8, 8, 8, 8, 8, 8, 8, 8, 8, 8, 8, 8, 8, 8, 8, 8, 8, 8, 8, 8, 8, 8, 8, 8, 8, 8, 8, 8, 8, 8, 8, 8, 8, 8, 8, 8, 8, 8, 8, 8, 8, 8, 8, 8, 8, 8, 8, 8, 8, 8, 8, 8, 8, 8, 8, 8, 8, 8, 8, 8, 8, 8, 8, 8, 8, 8, 8, 8, 8, 8, 8, 8, 8, 8, 8, 8, 8, 8, 8, 8, 8, 8, 8, 8, 8, 8, 8, 8, 8, 8, 8, 8, 8, 8, 8, 8, 8, 8, 8, 8, 8, 8, 8, 8, 8, 8, 8, 8, 8, 8, 8, 8, 8, 8, 8, 8, 8, 8]) (IntKind.wrap .u8 x0)))))))
theorem q26_J9_e (lo : Lo) : ∀ x : Int × Int, stepJ (⟨pf, fs26 lo, [], 0⟩ : Tabs) q26_J9_g q26_J9_o q26_J9_b x = q26_J9 lo x := fun x => by kernel_rfl
def q26_J9_p (lo : Lo) : LpE := ⟨9, [], q26_J9_g, q26_J9_o, q26_J9 lo⟩
theorem q26_J9_k {lo : Lo} (hlo : LoOK lo) (C : Ctx) (hT : TOK (⟨pf, fs26 lo, [], 0⟩ : Tabs) C) : LpSound (fun _ => False) [] 0 C q26_J9_b.er (q26_J9_p lo) :=
  jn_sound (T := (⟨pf, fs26 lo, [], 0⟩ : Tabs)) hT frNo (show LsOK (fun _ => False) [] C (⟨pf, fs26 lo, [], 0⟩ : Tabs) q26_J9_b from ⟨⟨trivial, ⟨⟨trivial, trivial⟩, trivial⟩⟩, ⟨trivial, trivial⟩⟩) (fun x y h => (q26_J9_e lo x).trans h)
def q26 (lo : Lo) (x0 : Int) : Option Int :=
  bif (decide ((4294967296 : Int) ≤ x0)) then (chk (0 ≤ (32 : Int)) (bif (decide ((65536 : Int) ≤ (x0.fdiv (2 ^ (min (32 : Int).toNat (IntKind.bits .u64)))))) then (chk (0 ≤ (16 : Int)) (Option.bind (q26_J9 lo (((x0.fdiv (2 ^ (min (32 : Int).toNat (IntKind.bits .u64)))).fdiv (2 ^ (min (16 : Int).toNat (IntKind.bits .u64)))), (IntKind.wrap .i64 ((32 : Int) + (16 : Int))))) fun y76 => some y76)) else (Option.bind (q26_J9 lo ((x0.fdiv (2 ^ (min (32 : Int).toNat (IntKind.bits .u64)))), (32 : Int))) fun y77 => some y77))) else (bif (decide ((65536 : Int) ≤ x0)) then (chk (0 ≤ (16 : Int)) (Option.bind (q26_J9 lo ((x0.fdiv (2 ^ (min (16 : Int).toNat (IntKind.bits .u64)))), (IntKind.wrap .i64 ((0 : Int) + (16 : Int))))) fun y78 => some y78)) else (Option.bind (q26_J9 lo (x0, (0 : Int))) fun y79 => some y79))
def q26_c : VCode :=
 (.seq (.reg [o 2 (.mv (k 0))])
 (.seq (.seq (.reg [o 3 (.mv (t 0)), o 4 (.bin .geq (t 3) (ki .u64 4294967296))])
 (.cond (t 4) (.seq (.reg [o 5 (.mv (t 0)), o 6 (.bin .shr (t 5) (ki .u64 32)), o 0 (.mv (t 6))])
 (.reg [o 2 (.mv (k 32))]))
 .skip))
 (.seq (.seq (.reg [o 7 (.mv (t 0)), o 8 (.bin .geq (t 7) (ki .u64 65536))])
 (.cond (t 8) (.seq (.reg [o 9 (.mv (t 0)), o 10 (.bin .shr (t 9) (ki .u64 16)), o 0 (.mv (t 10))])
 (.reg [o 11 (.mv (t 2)), o 12 (.bin .add (t 11) (k 16)), o 2 (.mv (t 12))]))
 .skip))
 (.jn 9 q26_J9_b))))
def q26_F : VFn := ⟨true, 25, [.t 2], q26_c⟩
def q26_f (lo : Lo) : FnE := ⟨187, true, ⟨[0], [.i .u64], [], (cs [.i .u64])⟩, .i .i64, [], (cs [I]), (fun x => q26 lo x : Int → Option Int)⟩
theorem q26_e (lo : Lo) : ∀ x : Int, evP (⟨pf, fs26 lo, [q26_J9_p lo], 0⟩ : Tabs) q26_F ⟨[0], [.i .u64], [], (cs [.i .u64])⟩ (.i .i64) (cs [I]) x = q26 lo x := fun x => by kernel_rfl
theorem q26_S {P : Program} {fm : FM} {lo : Lo} (hlo : LoOK lo) (hS : Sound P fm ⟨pf, fs26 lo, [], 0⟩) (hm : P.follows .mixedOrders = true) (htie : ∀ f, fm f = 187 → fnTr P fm pf f = some (q26_F.slots, q26_F.res, q26_F.code.er)) : Sound P fm ⟨pf, q26_f lo :: fs26 lo, [], 0⟩ :=
  fn_sound hS hm [q26_J9_p lo] (q26_f lo) rfl q26_F htie (by decide) rfl (Nat.le_of_ble_eq_true (by kernel_rfl)) (fun C hT => show LsOK (fun _ => False) [] C (⟨pf, fs26 lo, [q26_J9_p lo], 0⟩ : Tabs) q26_c from ⟨trivial, ⟨⟨trivial, ⟨⟨trivial, trivial⟩, trivial⟩⟩, ⟨⟨trivial, ⟨⟨trivial, trivial⟩, trivial⟩⟩, (lsGet (by kernel_rfl) (q26_J9_k hlo C (tok_ls hT)))⟩⟩⟩) (fun x y h => (q26_e lo x).trans h)
def fs27 (lo : Lo) : List FnE := q26_f lo :: fs26 lo
def fs28 (lo : Lo) : List FnE := fs27 lo
def fs29 (lo : Lo) : List FnE := fs28 lo
def q29 (lo : Lo) (i0 : Int) (base1 : Int) : Option ByteArray :=
  bif (decide (base1 = (10 : Int))) then (bif (decide ((0 : Int) ≤ i0)) then (bif (decide (i0 < (100 : Int))) then (Option.bind (q25 lo i0) fun y75 => some y75) else (bif (decide (i0 < (0 : Int))) then (none) else (none))) else (bif (decide (i0 < (0 : Int))) then (none) else (none))) else (none)
def q29_c : VCode :=
 (.seq (.reg [o 4 (.mv (ks (⟨#[]⟩)))])
 (.seq (.seq (.reg [o 10 (.mv (t 1)), o 11 (.bin .eql (t 10) (k 10))])
 (.cond (t 11) (.seq (.seq (.reg [o 12 (.mv (t 0)), o 13 (.bin .leq (k 0) (t 12)), o 14 (.mv (t 13)), og 15 14 true (.mv (t 0)), og 16 14 true (.bin .lss (t 15) (k 100)), o 17 (.pick (t 14) (t 16) (kb false))])
 (.cond (t 17) (.seq (.reg [o 18 (.mv (t 0)), o 19 (.call 1082 [(t 18)]), o 4 (.mv (t 19))])
 (.fz [4] .ret))
 .skip))
 (.seq (.reg [o 5 (.alloc [.i .u8 0, .i .u8 0, .i .u8 0, .i .u8 0, .i .u8 0, .i .u8 0, .i .u8 0, .i .u8 0, .i .u8 0, .i .u8 0, .i .u8 0, .i .u8 0, .i .u8 0, .i .u8 0, .i .u8 0, .i .u8 0, .i .u8 0, .i .u8 0, .i .u8 0, .i .u8 0, .i .u8 0, .i .u8 0, .i .u8 0, .i .u8 0])])
 (.seq (.reg [o 20 (.mv (t 0)), o 21 (.conv .u64 (t 20)), o 6 (.mv (t 21))])
 (.seq (.seq (.reg [o 22 (.mv (t 0)), o 23 (.bin .lss (t 22) (k 0))])
 (.cond (t 23) (.reg [o 24 (.mv (t 6)), o 25 (.neg (t 24)), o 6 (.mv (t 25))])
 .skip))
 (.seq (.reg [o 26 (.mv (t 6)), o 27 (.call 1083 [(t 26)]), o 7 (.mv (t 27))])
 (.seq .bad
 (.seq (.seq (.reg [o 33 (.mv (t 0)), o 34 (.bin .lss (t 33) (k 0))])
 (.cond (t 34) (.seq (.reg [o 35 (.iada 1 24 (t 5) (k 0)), on (.store 1 (t 35) (ki .u8 45))])
 (.seq .bad
 (.fz [4] .ret)))
 .skip))
 (.seq .bad
 (.fz [4] .ret)))))))))
 .skip))
 (.seq (.reg [o 45 (.mv (t 0)), o 46 (.conv .u64 (t 45)), o 47 (.mv (t 1)), o 48 (.mv (t 0)), o 49 (.bin .lss (t 48) (k 0)), o 50 (.call 1085 [(ke (cs [.i .u8])), (t 46), (t 47), (t 49), (kb false)]), o 44 (.mv (t 50)), o 51 (.ext (t 44) 0), o 52 (.ext (t 44) 1), o 8 (.mv (t 51)), o 9 (.mv (t 52))])
 (.seq (.reg [o 53 (.mv (t 9)), o 4 (.mv (t 53))])
 (.fz [4] .ret)))))
def q29_F : VFn := ⟨true, 54, [.t 4], q29_c⟩
def q29_f (lo : Lo) : FnE := ⟨1081, true, ⟨[0, 1], [.i .i64, .i .i64], [], (cs [I, I])⟩, .s, [], (cs [.s]), (fun x => q29 lo x.1 x.2 : Int × Int → Option ByteArray)⟩
theorem q29_e (lo : Lo) : ∀ x : Int × Int, evP (⟨pf, fs29 lo, [], 0⟩ : Tabs) q29_F ⟨[0, 1], [.i .i64, .i .i64], [], (cs [I, I])⟩ (.s) (cs [.s]) x = q29 lo x.1 x.2 := fun x => by kernel_rfl
theorem q29_S {P : Program} {fm : FM} {lo : Lo} (hlo : LoOK lo) (hS : Sound P fm ⟨pf, fs29 lo, [], 0⟩) (hm : P.follows .mixedOrders = true) (htie : ∀ f, fm f = 1081 → fnTr P fm pf f = some (q29_F.slots, q29_F.res, q29_F.code.er)) : Sound P fm ⟨pf, q29_f lo :: fs29 lo, [], 0⟩ :=
  fn_sound hS hm [] (q29_f lo) rfl q29_F htie (by decide) rfl (Nat.le_of_ble_eq_true (by kernel_rfl)) (fun C hT => show LsOK (fun _ => False) [] C (⟨pf, fs29 lo, [], 0⟩ : Tabs) q29_c from ⟨trivial, ⟨⟨trivial, ⟨⟨⟨trivial, ⟨⟨trivial, trivial⟩, trivial⟩⟩, ⟨trivial, ⟨trivial, ⟨⟨trivial, ⟨trivial, trivial⟩⟩, ⟨trivial, ⟨trivial, ⟨⟨trivial, ⟨⟨trivial, ⟨trivial, trivial⟩⟩, trivial⟩⟩, ⟨trivial, trivial⟩⟩⟩⟩⟩⟩⟩⟩, trivial⟩⟩, ⟨trivial, ⟨trivial, trivial⟩⟩⟩⟩) (fun x y h => (q29_e lo x).trans h)
def fs30 (lo : Lo) : List FnE := q29_f lo :: fs29 lo
def q30 (lo : Lo) (i0 : Int) : Option ByteArray :=
  Option.bind (q29 lo i0 (10 : Int)) fun y83 => some y83
def q30_c : VCode :=
 (.seq (.reg [o 2 (.mv (ks (⟨#[]⟩)))])
 (.seq (.reg [o 3 (.mv (t 0)), o 4 (.call 1081 [(t 3), (k 10)]), o 2 (.mv (t 4))])
 (.fz [2] .ret)))
def q30_F : VFn := ⟨true, 5, [.t 2], q30_c⟩
def q30_f (lo : Lo) : FnE := ⟨1076, true, ⟨[0], [.i .i64], [], (cs [I])⟩, .s, [], (cs [.s]), (fun x => q30 lo x : Int → Option ByteArray)⟩
theorem q30_e (lo : Lo) : ∀ x : Int, evP (⟨pf, fs30 lo, [], 0⟩ : Tabs) q30_F ⟨[0], [.i .i64], [], (cs [I])⟩ (.s) (cs [.s]) x = q30 lo x := fun x => by kernel_rfl
theorem q30_S {P : Program} {fm : FM} {lo : Lo} (hlo : LoOK lo) (hS : Sound P fm ⟨pf, fs30 lo, [], 0⟩) (hm : P.follows .mixedOrders = true) (htie : ∀ f, fm f = 1076 → fnTr P fm pf f = some (q30_F.slots, q30_F.res, q30_F.code.er)) : Sound P fm ⟨pf, q30_f lo :: fs30 lo, [], 0⟩ :=
  fn_sound hS hm [] (q30_f lo) rfl q30_F htie (by decide) rfl (Nat.le_of_ble_eq_true (by kernel_rfl)) (fun C hT => show LsOK (fun _ => False) [] C (⟨pf, fs30 lo, [], 0⟩ : Tabs) q30_c from ⟨trivial, ⟨trivial, trivial⟩⟩) (fun x y h => (q30_e lo x).trans h)
def fs31 (lo : Lo) : List FnE := q30_f lo :: fs30 lo
def q31 (lo : Lo) (i0 : Int) : Option ByteArray :=
  Option.bind (q30 lo i0) fun y84 => some y84
def q31_c : VCode :=
 (.seq (.reg [o 2 (.mv (ks (⟨#[]⟩)))])
 (.seq (.reg [o 3 (.mv (t 0)), o 4 (.call 1076 [(t 3)]), o 2 (.mv (t 4))])
 (.fz [2] .ret)))
def q31_F : VFn := ⟨true, 5, [.t 2], q31_c⟩
def q31_f (lo : Lo) : FnE := ⟨165, true, ⟨[0], [.i .i64], [], (cs [I])⟩, .s, [], (cs [.s]), (fun x => q31 lo x : Int → Option ByteArray)⟩
theorem q31_e (lo : Lo) : ∀ x : Int, evP (⟨pf, fs31 lo, [], 0⟩ : Tabs) q31_F ⟨[0], [.i .i64], [], (cs [I])⟩ (.s) (cs [.s]) x = q31 lo x := fun x => by kernel_rfl
theorem q31_S {P : Program} {fm : FM} {lo : Lo} (hlo : LoOK lo) (hS : Sound P fm ⟨pf, fs31 lo, [], 0⟩) (hm : P.follows .mixedOrders = true) (htie : ∀ f, fm f = 165 → fnTr P fm pf f = some (q31_F.slots, q31_F.res, q31_F.code.er)) : Sound P fm ⟨pf, q31_f lo :: fs31 lo, [], 0⟩ :=
  fn_sound hS hm [] (q31_f lo) rfl q31_F htie (by decide) rfl (Nat.le_of_ble_eq_true (by kernel_rfl)) (fun C hT => show LsOK (fun _ => False) [] C (⟨pf, fs31 lo, [], 0⟩ : Tabs) q31_c from ⟨trivial, ⟨trivial, trivial⟩⟩) (fun x y h => (q31_e lo x).trans h)
def fs32 (lo : Lo) : List FnE := q31_f lo :: fs31 lo
def q32 (lo : Lo) : Option ((List ByteArray)) :=
  some ([(ByteArray.mk #[]), (ByteArray.mk #[103, 105, 118, 101, 110]), (ByteArray.mk #[114, 101, 102, 108, 101, 120, 105, 118, 101]), (ByteArray.mk #[97, 117, 103, 109, 101, 110, 116]), (ByteArray.mk #[116, 114, 97, 110, 115, 105, 116])])
def q32_c : VCode :=
 (.seq (.reg [o 0 (.mv (ke (cs [.s])))])
 (.seq (.reg [o 1 (.bsl (cs [.s]) 5 [(0, (ks (⟨#[]⟩))), (1, (ks (⟨#[103, 105, 118, 101, 110]⟩))), (2, (ks (⟨#[114, 101, 102, 108, 101, 120, 105, 118, 101]⟩))), (3, (ks (⟨#[97, 117, 103, 109, 101, 110, 116]⟩))), (4, (ks (⟨#[116, 114, 97, 110, 115, 105, 116]⟩)))]), o 0 (.mv (t 1))])
 (.fz [0] .ret)))
def q32_F : VFn := ⟨true, 2, [.t 0], q32_c⟩
def q32_f (lo : Lo) : FnE := ⟨168, true, ⟨[], [], [], (cs [])⟩, .l (cs [.s]), [], (cs [.l (cs [.s])]), (fun x => q32 lo  : Unit → Option ((List ByteArray)))⟩
theorem q32_e (lo : Lo) : ∀ x : Unit, evP (⟨pf, fs32 lo, [], 0⟩ : Tabs) q32_F ⟨[], [], [], (cs [])⟩ (.l (cs [.s])) (cs [.l (cs [.s])]) x = q32 lo  := fun x => by kernel_rfl
theorem q32_S {P : Program} {fm : FM} {lo : Lo} (hlo : LoOK lo) (hS : Sound P fm ⟨pf, fs32 lo, [], 0⟩) (hm : P.follows .mixedOrders = true) (htie : ∀ f, fm f = 168 → fnTr P fm pf f = some (q32_F.slots, q32_F.res, q32_F.code.er)) : Sound P fm ⟨pf, q32_f lo :: fs32 lo, [], 0⟩ :=
  fn_sound hS hm [] (q32_f lo) rfl q32_F htie (by decide) rfl (Nat.le_of_ble_eq_true (by kernel_rfl)) (fun C hT => show LsOK (fun _ => False) [] C (⟨pf, fs32 lo, [], 0⟩ : Tabs) q32_c from ⟨trivial, ⟨trivial, trivial⟩⟩) (fun x y h => (q32_e lo x).trans h)
def fs33 (lo : Lo) : List FnE := q32_f lo :: fs32 lo
def q33 (lo : Lo) (l : List ByteArray) (sep : ByteArray) : Option ByteArray := vjoinF l sep
def q33_f (lo : Lo) : FnE := vjoinE 169
theorem q33_S {P : Program} {fm : FM} {lo : Lo} (hlo : LoOK lo) (hS : Sound P fm ⟨pf, fs33 lo, [], 0⟩) (hm : P.follows .mixedOrders = true) (hG : ∀ f, fm f = 169 → callable P f = true ∧ ∃ ρ : Go.Shelf.Ren, Go.Proofs.Lays.n156 P ρ ∧ Go.Proofs.Builder.Extra P ρ ∧ ρ.f 156 = f) : Sound P fm ⟨pf, q33_f lo :: fs33 lo, [], 0⟩ :=
  vjoin_sound hS rfl hG
def fs34 (lo : Lo) : List FnE := q33_f lo :: fs33 lo
def q34 (lo : Lo) (i0 : Int) (base1 : Int) : Option ByteArray :=
  bif (decide (base1 = (10 : Int))) then (bif (decide (i0 < (100 : Int))) then (Option.bind (q25 lo (IntKind.wrap .i64 i0)) fun y91 => some y91) else (none)) else (none)
def q34_c : VCode :=
 (.seq (.reg [o 4 (.mv (ks (⟨#[]⟩)))])
 (.seq (.seq (.reg [o 9 (.mv (t 1)), o 10 (.bin .eql (t 9) (k 10))])
 (.cond (t 10) (.seq (.seq (.reg [o 11 (.mv (t 0)), o 12 (.bin .lss (t 11) (ki .u64 100))])
 (.cond (t 12) (.seq (.reg [o 13 (.mv (t 0)), o 14 (.conv .i64 (t 13)), o 15 (.call 1082 [(t 14)]), o 4 (.mv (t 15))])
 (.fz [4] .ret))
 .skip))
 (.seq (.reg [o 5 (.alloc [.i .u8 0, .i .u8 0, .i .u8 0, .i .u8 0, .i .u8 0, .i .u8 0, .i .u8 0, .i .u8 0, .i .u8 0, .i .u8 0, .i .u8 0, .i .u8 0, .i .u8 0, .i .u8 0, .i .u8 0, .i .u8 0, .i .u8 0, .i .u8 0, .i .u8 0, .i .u8 0, .i .u8 0, .i .u8 0, .i .u8 0, .i .u8 0])])
 (.seq (.reg [o 16 (.mv (t 0)), o 17 (.call 1083 [(t 16)]), o 6 (.mv (t 17))])
 (.seq .bad
 (.seq .bad
 (.fz [4] .ret))))))
 .skip))
 (.seq (.reg [o 26 (.mv (t 0)), o 27 (.mv (t 1)), o 28 (.call 1085 [(ke (cs [.i .u8])), (t 26), (t 27), (kb false), (kb false)]), o 25 (.mv (t 28)), o 29 (.ext (t 25) 0), o 30 (.ext (t 25) 1), o 7 (.mv (t 29)), o 8 (.mv (t 30))])
 (.seq (.reg [o 31 (.mv (t 8)), o 4 (.mv (t 31))])
 (.fz [4] .ret)))))
def q34_F : VFn := ⟨true, 32, [.t 4], q34_c⟩
def q34_f (lo : Lo) : FnE := ⟨1077, true, ⟨[0, 1], [.i .u64, .i .i64], [], (cs [.i .u64, I])⟩, .s, [], (cs [.s]), (fun x => q34 lo x.1 x.2 : Int × Int → Option ByteArray)⟩
theorem q34_e (lo : Lo) : ∀ x : Int × Int, evP (⟨pf, fs34 lo, [], 0⟩ : Tabs) q34_F ⟨[0, 1], [.i .u64, .i .i64], [], (cs [.i .u64, I])⟩ (.s) (cs [.s]) x = q34 lo x.1 x.2 := fun x => by kernel_rfl
theorem q34_S {P : Program} {fm : FM} {lo : Lo} (hlo : LoOK lo) (hS : Sound P fm ⟨pf, fs34 lo, [], 0⟩) (hm : P.follows .mixedOrders = true) (htie : ∀ f, fm f = 1077 → fnTr P fm pf f = some (q34_F.slots, q34_F.res, q34_F.code.er)) : Sound P fm ⟨pf, q34_f lo :: fs34 lo, [], 0⟩ :=
  fn_sound hS hm [] (q34_f lo) rfl q34_F htie (by decide) rfl (Nat.le_of_ble_eq_true (by kernel_rfl)) (fun C hT => show LsOK (fun _ => False) [] C (⟨pf, fs34 lo, [], 0⟩ : Tabs) q34_c from ⟨trivial, ⟨⟨trivial, ⟨⟨⟨trivial, ⟨⟨trivial, trivial⟩, trivial⟩⟩, ⟨trivial, ⟨trivial, ⟨trivial, ⟨trivial, trivial⟩⟩⟩⟩⟩, trivial⟩⟩, ⟨trivial, ⟨trivial, trivial⟩⟩⟩⟩) (fun x y h => (q34_e lo x).trans h)
def fs35 (lo : Lo) : List FnE := q34_f lo :: fs34 lo
def q35 (lo : Lo) (i0 : Int) (base1 : Int) : Option ByteArray :=
  Option.bind (q34 lo i0 base1) fun y92 => some y92
def q35_c : VCode :=
 (.seq (.reg [o 4 (.mv (ks (⟨#[]⟩)))])
 (.seq (.reg [o 5 (.mv (t 0)), o 6 (.mv (t 1)), o 7 (.call 1077 [(t 5), (t 6)]), o 4 (.mv (t 7))])
 (.fz [4] .ret)))
def q35_F : VFn := ⟨true, 8, [.t 4], q35_c⟩
def q35_f (lo : Lo) : FnE := ⟨167, true, ⟨[0, 1], [.i .u64, .i .i64], [], (cs [.i .u64, I])⟩, .s, [], (cs [.s]), (fun x => q35 lo x.1 x.2 : Int × Int → Option ByteArray)⟩
theorem q35_e (lo : Lo) : ∀ x : Int × Int, evP (⟨pf, fs35 lo, [], 0⟩ : Tabs) q35_F ⟨[0, 1], [.i .u64, .i .i64], [], (cs [.i .u64, I])⟩ (.s) (cs [.s]) x = q35 lo x.1 x.2 := fun x => by kernel_rfl
theorem q35_S {P : Program} {fm : FM} {lo : Lo} (hlo : LoOK lo) (hS : Sound P fm ⟨pf, fs35 lo, [], 0⟩) (hm : P.follows .mixedOrders = true) (htie : ∀ f, fm f = 167 → fnTr P fm pf f = some (q35_F.slots, q35_F.res, q35_F.code.er)) : Sound P fm ⟨pf, q35_f lo :: fs35 lo, [], 0⟩ :=
  fn_sound hS hm [] (q35_f lo) rfl q35_F htie (by decide) rfl (Nat.le_of_ble_eq_true (by kernel_rfl)) (fun C hT => show LsOK (fun _ => False) [] C (⟨pf, fs35 lo, [], 0⟩ : Tabs) q35_c from ⟨trivial, ⟨trivial, trivial⟩⟩) (fun x y h => (q35_e lo x).trans h)
def fs36 (lo : Lo) : List FnE := q35_f lo :: fs35 lo
def q36 (lo : Lo) (x0 : Int) : Option ByteArray :=
  Option.bind (q35 lo (IntKind.wrap .u64 x0) (10 : Int)) fun y93 => some y93
def q36_c : VCode :=
 (.seq (.reg [o 2 (.mv (ks (⟨#[]⟩)))])
 (.seq (.reg [o 3 (.mv (t 0)), o 4 (.conv .u64 (t 3)), o 5 (.call 167 [(t 4), (k 10)]), o 2 (.mv (t 5))])
 (.fz [2] .ret)))
def q36_F : VFn := ⟨true, 6, [.t 2], q36_c⟩
def q36_f (lo : Lo) : FnE := ⟨166, true, ⟨[0], [.i .u32], [], (cs [.i .u32])⟩, .s, [], (cs [.s]), (fun x => q36 lo x : Int → Option ByteArray)⟩
theorem q36_e (lo : Lo) : ∀ x : Int, evP (⟨pf, fs36 lo, [], 0⟩ : Tabs) q36_F ⟨[0], [.i .u32], [], (cs [.i .u32])⟩ (.s) (cs [.s]) x = q36 lo x := fun x => by kernel_rfl
theorem q36_S {P : Program} {fm : FM} {lo : Lo} (hlo : LoOK lo) (hS : Sound P fm ⟨pf, fs36 lo, [], 0⟩) (hm : P.follows .mixedOrders = true) (htie : ∀ f, fm f = 166 → fnTr P fm pf f = some (q36_F.slots, q36_F.res, q36_F.code.er)) : Sound P fm ⟨pf, q36_f lo :: fs36 lo, [], 0⟩ :=
  fn_sound hS hm [] (q36_f lo) rfl q36_F htie (by decide) rfl (Nat.le_of_ble_eq_true (by kernel_rfl)) (fun C hT => show LsOK (fun _ => False) [] C (⟨pf, fs36 lo, [], 0⟩ : Tabs) q36_c from ⟨trivial, ⟨trivial, trivial⟩⟩) (fun x y h => (q36_e lo x).trans h)
def fs37 (lo : Lo) : List FnE := q36_f lo :: fs36 lo
def q37_L7_b : VCode :=
 (.seq (.reg [o 20 (.bin .lss (t 19) (t 18))])
 (.seq (.cond (t 20) .skip
 (.exit 0))
 (.seq (.blk 1 (.seq (.reg [o 21 (.iad 1 (t 17) (t 19)), o 22 (.load false 1 (t 21)), o 5 (.mv (t 22))])
 (.seq (.seq (.reg [o 23 (.mv (t 5)), o 24 (.bin .lss (t 23) (k 0))])
 (.cond (t 24) (.seq (.reg [o 2 (.mv (ks (⟨#[]⟩)))])
 (.fz [2] .ret))
 .skip))
 (.reg [o 25 (.mv (t 3)), o 26 (.mv (t 5)), o 27 (.call 165 [(t 26)]), o 28 (.bsl (cs [.s]) 1 [(0, (t 27))]), o 29 (.app (cs [.s]) 0 (t 25) (t 28)), o 3 (.mv (t 29))]))))
 (.reg [o 30 (.bin .add (t 19) (k 1)), o 19 (.mv (t 30))]))))
def q37_L7_g : Sg := ⟨[1, 3, 17, 18, 19], [.ptr 0 0 0, .ref 1, .l (cs [I]), .i .i64, .i .i64], [.st [.i .i64, .l (cs [I]), .i .u32, .i .u32], .sq (cs [.s])], (cs [.l (cs [I]), I, I, I, .l (cs [I]), .i .u32, .i .u32, .l (cs [.s])])⟩
def q37_L7_o : List Out1 := [⟨.ret, ⟨[2], [.s], [], (cs [.s])⟩⟩, ⟨.exit 0, ⟨[1, 3], [.ptr 0 0 0, .ref 1], [.st [.i .i64, .l (cs [I]), .i .u32, .i .u32], .sq (cs [.s])], (cs [I, .l (cs [I]), .i .u32, .i .u32, .l (cs [.s])])⟩⟩]
def q37_L7_s (lo : Lo) : (List Int) × Int × Int × Int × (List Int) × Int × Int × (List ByteArray) → Option (((List Int) × Int × Int × Int × (List Int) × Int × Int × (List ByteArray)) ⊕ (ByteArray ⊕ (Int × (List Int) × Int × Int × (List ByteArray)))) := fun x => match x with
  | (v17, v18, v19, s1_0, s1_1, s1_2, s1_3, from3) => bif (decide (v19 < v18)) then (chk (0 ≤ v19 ∧ v19 < (v17.length : Int)) (bif (decide ((v17.getD v19.toNat (0 : Int)) < (0 : Int))) then (some (.inr (.inl (ByteArray.mk #[])))) else (Option.bind (q31 lo (v17.getD v19.toNat (0 : Int))) fun y85 => chk (from3.length + [y85].length ≤ maxEl) (some (.inl (v17, v18, (IntKind.wrap .i64 (v19 + (1 : Int))), s1_0, s1_1, s1_2, s1_3, (from3 ++ [y85]))))))) else (some (.inr (.inr (s1_0, s1_1, s1_2, s1_3, from3))))
theorem q37_L7_e (lo : Lo) : ∀ x : (List Int) × Int × Int × Int × (List Int) × Int × Int × (List ByteArray), stepL (⟨pf, fs37 lo, [], 0⟩ : Tabs) [(3, none, false)] q37_L7_g q37_L7_o q37_L7_b x = q37_L7_s lo x := fun x => by kernel_rfl
def q37_L7 (lo : Lo) : (List Int) × Int × Int × Int × (List Int) × Int × Int × (List ByteArray) → Option (ByteArray ⊕ (Int × (List Int) × Int × Int × (List ByteArray))) := lo.run (q37_L7_s lo)
def q37_L7_p (lo : Lo) : LpE := ⟨7, [(3, none, false)], q37_L7_g, q37_L7_o, q37_L7 lo⟩
theorem q37_L7_k {lo : Lo} (hlo : LoOK lo) (C : Ctx) (hT : TOK (⟨pf, fs37 lo, [], 0⟩ : Tabs) C) : LpSound (fun _ => False) [] 0 C (.loop q37_L7_b.er) (q37_L7_p lo) :=
  loop_sound (T := (⟨pf, fs37 lo, [], 0⟩ : Tabs)) hT frNo (show LsOK (fun _ => False) [] C (⟨pf, fs37 lo, [], 0⟩ : Tabs) q37_L7_b from ⟨trivial, ⟨⟨trivial, trivial⟩, ⟨⟨trivial, ⟨⟨trivial, ⟨⟨trivial, trivial⟩, trivial⟩⟩, trivial⟩⟩, trivial⟩⟩⟩) (fun x y h => loopO_congr (q37_L7_e lo) (hlo _ _ _ h))
def q37_J6_b : VCode :=
 (.seq (.reg [o 6 (.mv (.c (.f 166)))])
 (.seq (.reg [o 37 (.call 168 []), o 38 (.fad 0 (t 1)), o 39 (.load false 1 (t 38)), o 40 (.iad 1 (t 37) (t 39)), o 41 (.load false 1 (t 40)), o 42 (.bin .add (t 41) (ks (⟨#[32]⟩))), o 43 (.mv (t 3)), o 44 (.call 169 [(t 43), (ks (⟨#[44]⟩))]), o 45 (.bin .add (t 42) (t 44)), o 46 (.bin .add (t 45) (ks (⟨#[32]⟩))), o 47 (.mv (t 6)), o 48 (.fad 2 (t 1)), o 49 (.fad 0 (t 48)), o 50 (.load false 1 (t 49)), o 51 (.dynP (t 47) [(t 50)]), o 52 (.bin .add (t 46) (t 51)), o 53 (.bin .add (t 52) (ks (⟨#[32, 45, 62, 32]⟩))), o 54 (.mv (t 6)), o 55 (.fad 2 (t 1)), o 56 (.fad 1 (t 55)), o 57 (.load false 1 (t 56)), o 58 (.dynP (t 54) [(t 57)]), o 59 (.bin .add (t 53) (t 58)), o 60 (.bin .add (t 59) (ks (⟨#[10]⟩))), o 2 (.mv (t 60))])
 (.fz [2] .ret)))
def q37_J6_g : Sg := ⟨[1, 3], [.ptr 0 0 0, .ref 1], [.st [.i .i64, .l (cs [I]), .i .u32, .i .u32], .sq (cs [.s])], (cs [I, .l (cs [I]), .i .u32, .i .u32, .l (cs [.s])])⟩
def q37_J6_o : List Out1 := [⟨.ret, ⟨[2], [.s], [], (cs [.s])⟩⟩]
def q37_J6 (lo : Lo) : Int × (List Int) × Int × Int × (List ByteArray) → Option ByteArray := fun x => match x with
  | (s1_0, s1_1, s1_2, s1_3, from3) => Option.bind (q32 lo) fun y89 => chk (0 ≤ s1_0 ∧ s1_0 < (y89.length : Int)) (chk (Nat.ble ((y89.getD s1_0.toNat (ByteArray.mk #[])).size + (ByteArray.mk #[32]).size) 9223372036854775807 = true) (Option.bind (q33 lo from3 (ByteArray.mk #[44])) fun y90 => chk (Nat.ble (((y89.getD s1_0.toNat (ByteArray.mk #[])) ++ (ByteArray.mk #[32])).size + y90.size) 9223372036854775807 = true) (chk (Nat.ble ((((y89.getD s1_0.toNat (ByteArray.mk #[])) ++ (ByteArray.mk #[32])) ++ y90).size + (ByteArray.mk #[32]).size) 9223372036854775807 = true) (Option.bind (q36 lo s1_2) fun y94 => chk (Nat.ble (((((y89.getD s1_0.toNat (ByteArray.mk #[])) ++ (ByteArray.mk #[32])) ++ y90) ++ (ByteArray.mk #[32])).size + y94.size) 9223372036854775807 = true) (chk (Nat.ble ((((((y89.getD s1_0.toNat (ByteArray.mk #[])) ++ (ByteArray.mk #[32])) ++ y90) ++ (ByteArray.mk #[32])) ++ y94).size + (ByteArray.mk #[32, 45, 62, 32]).size) 9223372036854775807 = true) (Option.bind (q36 lo s1_3) fun y95 => chk (Nat.ble (((((((y89.getD s1_0.toNat (ByteArray.mk #[])) ++ (ByteArray.mk #[32])) ++ y90) ++ (ByteArray.mk #[32])) ++ y94) ++ (ByteArray.mk #[32, 45, 62, 32])).size + y95.size) 9223372036854775807 = true) (chk (Nat.ble ((((((((y89.getD s1_0.toNat (ByteArray.mk #[])) ++ (ByteArray.mk #[32])) ++ y90) ++ (ByteArray.mk #[32])) ++ y94) ++ (ByteArray.mk #[32, 45, 62, 32])) ++ y95).size + (ByteArray.mk #[10]).size) 9223372036854775807 = true) (some ((((((((y89.getD s1_0.toNat (ByteArray.mk #[])) ++ (ByteArray.mk #[32])) ++ y90) ++ (ByteArray.mk #[32])) ++ y94) ++ (ByteArray.mk #[32, 45, 62, 32])) ++ y95) ++ (ByteArray.mk #[10]))))))))))
theorem q37_J6_e (lo : Lo) : ∀ x : Int × (List Int) × Int × Int × (List ByteArray), stepJ (⟨pf, fs37 lo, [q37_L7_p lo], 0⟩ : Tabs) q37_J6_g q37_J6_o q37_J6_b x = q37_J6 lo x := fun x => by kernel_rfl
def q37_J6_p (lo : Lo) : LpE := ⟨6, [], q37_J6_g, q37_J6_o, q37_J6 lo⟩
theorem q37_J6_k {lo : Lo} (hlo : LoOK lo) (C : Ctx) (hT : TOK (⟨pf, fs37 lo, [q37_L7_p lo], 0⟩ : Tabs) C) : LpSound (fun _ => False) [] 0 C q37_J6_b.er (q37_J6_p lo) :=
  jn_sound (T := (⟨pf, fs37 lo, [q37_L7_p lo], 0⟩ : Tabs)) hT frNo (show LsOK (fun _ => False) [] C (⟨pf, fs37 lo, [q37_L7_p lo], 0⟩ : Tabs) q37_J6_b from ⟨trivial, ⟨trivial, trivial⟩⟩) (fun x y h => (q37_J6_e lo x).trans h)
def q37 (lo : Lo) (s0_0 : Int) (s0_1 : List Int) (s0_2 : Int) (s0_3 : Int) : Option ByteArray :=
  bif (decide (s0_0 < (1 : Int))) then (some (ByteArray.mk #[])) else (bif (decide ((4 : Int) < s0_0)) then (some (ByteArray.mk #[])) else (Option.bind (q37_L7 lo (s0_1, (s0_1.length : Int), (0 : Int), s0_0, s0_1, s0_2, s0_3, [])) fun y86 => alt2 y86 (fun y87 => some y87) (fun y88 => bif (decide ((y88.2.2.2.2.length : Int) = (0 : Int))) then (chk (y88.2.2.2.2.length + ([(ByteArray.mk #[45])]).length ≤ maxEl) (Option.bind (q37_J6 lo (y88.1, y88.2.1, y88.2.2.1, y88.2.2.2.1, (y88.2.2.2.2 ++ ([(ByteArray.mk #[45])])))) fun y96 => some y96)) else (Option.bind (q37_J6 lo (y88.1, y88.2.1, y88.2.2.1, y88.2.2.2.1, y88.2.2.2.2)) fun y97 => some y97))))
def q37_c : VCode :=
 (.seq (.reg [o 1 (.box (t 0)), o 2 (.mv (ks (⟨#[]⟩)))])
 (.seq (.seq (.reg [o 7 (.fad 0 (t 1)), o 8 (.load false 1 (t 7)), o 9 (.bin .lss (t 8) (k 1)), o 10 (.mv (t 9)), og 11 10 false (.fad 0 (t 1)), og 12 10 false (.load false 1 (t 11)), og 13 10 false (.bin .gtr (t 12) (k 4)), o 14 (.pick (t 10) (kb true) (t 13))])
 (.cond (t 14) (.seq (.reg [o 2 (.mv (ks (⟨#[]⟩)))])
 (.fz [2] .ret))
 .skip))
 (.seq (.reg [o 15 (.bsl (cs [.s]) 0 []), o 3 (.mv (t 15))])
 (.seq (.seq (.reg [o 16 (.fad 1 (t 1)), o 17 (.load false 1 (t 16)), o 18 (.len (t 17)), o 19 (.mv (k 0))])
 (.blk 0 (.loop 7 q37_L7_b)))
 (.seq (.seq (.reg [o 31 (.mv (t 3)), o 32 (.len (t 31)), o 33 (.bin .eql (t 32) (k 0))])
 (.cond (t 33) (.reg [o 34 (.mv (t 3)), o 35 (.bsl (cs [.s]) 1 [(0, (ks (⟨#[45]⟩)))]), o 36 (.app (cs [.s]) 0 (t 34) (t 35)), o 3 (.mv (t 36))])
 .skip))
 (.jn 6 q37_J6_b))))))
def q37_F : VFn := ⟨true, 61, [.t 2], q37_c⟩
def q37_f (lo : Lo) : FnE := ⟨150, true, ⟨[0], [.ag [.i .i64, .l (cs [I]), .i .u32, .i .u32]], [], (cs [I, .l (cs [I]), .i .u32, .i .u32])⟩, .s, [], (cs [.s]), (fun x => q37 lo x.1 x.2.1 x.2.2.1 x.2.2.2 : Int × (List Int) × Int × Int → Option ByteArray)⟩
theorem q37_e (lo : Lo) : ∀ x : Int × (List Int) × Int × Int, evP (⟨pf, fs37 lo, [q37_J6_p lo, q37_L7_p lo], 0⟩ : Tabs) q37_F ⟨[0], [.ag [.i .i64, .l (cs [I]), .i .u32, .i .u32]], [], (cs [I, .l (cs [I]), .i .u32, .i .u32])⟩ (.s) (cs [.s]) x = q37 lo x.1 x.2.1 x.2.2.1 x.2.2.2 := fun x => by kernel_rfl
theorem q37_S {P : Program} {fm : FM} {lo : Lo} (hlo : LoOK lo) (hS : Sound P fm ⟨pf, fs37 lo, [], 0⟩) (hm : P.follows .mixedOrders = true) (htie : ∀ f, fm f = 150 → fnTr P fm pf f = some (q37_F.slots, q37_F.res, q37_F.code.er)) : Sound P fm ⟨pf, q37_f lo :: fs37 lo, [], 0⟩ :=
  fn_sound hS hm [q37_J6_p lo, q37_L7_p lo] (q37_f lo) rfl q37_F htie (by decide) rfl (Nat.le_of_ble_eq_true (by kernel_rfl)) (fun C hT => show LsOK (fun _ => False) [] C (⟨pf, fs37 lo, [q37_J6_p lo, q37_L7_p lo], 0⟩ : Tabs) q37_c from ⟨trivial, ⟨⟨trivial, ⟨⟨trivial, trivial⟩, trivial⟩⟩, ⟨trivial, ⟨⟨trivial, (lsGet (by kernel_rfl) (q37_L7_k hlo C (tok_ls hT)))⟩, ⟨⟨trivial, ⟨trivial, trivial⟩⟩, (lsGet (by kernel_rfl) (q37_J6_k hlo C (tok_ls hT)))⟩⟩⟩⟩⟩) (fun x y h => (q37_e lo x).trans h)
def fs38 (lo : Lo) : List FnE := q37_f lo :: fs37 lo
def q38 (lo : Lo) (s : ByteArray) : Option ByteArray := some s
def q38_f (lo : Lo) : FnE := vchkE2 164
theorem q38_S {P : Program} {fm : FM} {lo : Lo} (hlo : LoOK lo) (hS : Sound P fm ⟨pf, fs38 lo, [], 0⟩) (hm : P.follows .mixedOrders = true) (hG : ∀ f, fm f = 164 → callable P f = true ∧ ∃ ρ : Go.Shelf.Ren, Go.Proofs.Lays.n240 P ρ ∧ BldOK P fm ρ ∧ ρ.f 240 = f) : Sound P fm ⟨pf, q38_f lo :: fs38 lo, [], 0⟩ :=
  vchk2_sound hS rfl hG
def fs39 (lo : Lo) : List FnE := q38_f lo :: fs38 lo
def q39 (lo : Lo) (s1 : ByteArray) (h1 : ByteArray) : Option (Int × ByteArray) :=
  Option.bind (q38 lo h1) fun y99 => chk (y99.size = h1.size) (chk (y99.size + s1.size ≤ maxEl) (some ((s1.size : Int), (y99 ++ s1))))
def q39_c : VCode :=
 (.seq (.reg [o 4 (.mv (k 0)), o 5 (.mv (.c (.v .nilIface)))])
 (.seq (.reg [o 6 (.mv (t 0)), o 7 (.call 164 [(t 6)])])
 (.seq (.reg [o 8 (.mv (t 0)), o 9 (.mv (t 0)), o 10 (.nilc (t 9)), o 11 (.fad 1 (t 10)), o 12 (.load false 1 (t 11)), o 13 (.mv (t 1)), o 14 (.apps (t 12) (t 13)), o 15 (.nilc (t 8)), o 16 (.fad 1 (t 15)), on (.store 1 (t 16) (t 14))])
 (.seq (.reg [o 17 (.mv (t 1)), o 18 (.lenS (t 17)), o 4 (.mv (t 18)), o 5 (.mv (.c (.v .nilIface)))])
 .ret))))
def q39_F : VFn := ⟨true, 19, [.t 4, .t 5], q39_c⟩
def q39_f (lo : Lo) : FnE := ⟨149, false, ⟨[0, 1], [.ptr 0 0 0, .s], [.st [.np 0, .ref 1], .sb], (cs [.s, .s])⟩, .tp [.i .i64, .u], [.st [.np 0, .ref 2], .dd, .sb], (cs [I, .s]), (fun x => q39 lo x.1 x.2 : ByteArray × ByteArray → Option (Int × ByteArray))⟩
theorem q39_e (lo : Lo) : ∀ x : ByteArray × ByteArray, evI (⟨pf, fs39 lo, [], 2⟩ : Tabs) q39_F ⟨[0, 1], [.ptr 0 0 0, .s], [.st [.np 0, .ref 1], .sb], (cs [.s, .s])⟩ (.tp [.i .i64, .u]) [.st [.np 0, .ref 2], .dd, .sb] (cs [I, .s]) x = q39 lo x.1 x.2 := fun x => by kernel_rfl
theorem q39_S {P : Program} {fm : FM} {lo : Lo} (hlo : LoOK lo) (hS : Sound P fm ⟨pf, fs39 lo, [], 0⟩) (hm : P.follows .mixedOrders = true) (htie : ∀ f, fm f = 149 → fnTr P fm pf f = some (q39_F.slots, q39_F.res, q39_F.code.er)) : Sound P fm ⟨pf, q39_f lo :: fs39 lo, [], 0⟩ :=
  fnI_sound hS hm [] (q39_f lo) rfl q39_F htie (by decide) rfl (Nat.le_of_ble_eq_true (by kernel_rfl)) (fun C hT Fr H0 hf => show LsOK Fr H0 C (⟨pf, fs39 lo, [], 2⟩ : Tabs) q39_c from ⟨trivial, ⟨trivial, ⟨trivial, ⟨trivial, trivial⟩⟩⟩⟩) (fun x y h => (q39_e lo x).trans h)
def fs40 (lo : Lo) : List FnE := q39_f lo :: fs39 lo
def q40 (lo : Lo) (s : ByteArray) : Option ByteArray := some s
def q40_f (lo : Lo) : FnE := vstrE 151
theorem q40_S {P : Program} {fm : FM} {lo : Lo} (hlo : LoOK lo) (hS : Sound P fm ⟨pf, fs40 lo, [], 0⟩) (hm : P.follows .mixedOrders = true) (hG : ∀ f, fm f = 151 → callable P f = true ∧ ∃ ρ : Go.Shelf.Ren, Go.Proofs.Lays.n169 P ρ ∧ BldOK P fm ρ ∧ fm.bu = ρ.t 5 ∧ ρ.f 169 = f) : Sound P fm ⟨pf, q40_f lo :: fs40 lo, [], 0⟩ :=
  vstr_sound hS rfl hG
def fs41 (lo : Lo) : List FnE := q40_f lo :: fs40 lo
end Go.Abs.G12
namespace Go.Abs.G12
open Go Go.Abs
set_option maxRecDepth 100000
set_option linter.unusedVariables false
set_option maxHeartbeats 1000000
def q41_L3_b : VCode :=
 (.seq (.reg [o 9 (.bin .lss (t 8) (t 7))])
 (.seq (.cond (t 9) .skip
 (.exit 0))
 (.seq (.blk 1 (.seq (.reg [o 10 (.iad 4 (t 6) (t 8)), o 11 (.load true 4 (t 10)), o 5 (.alloc [.i .i64 0, .e (cs [I]), .i .u32 0, .i .u32 0]), on (.store 4 (t 5) (t 11))])
 (.reg [o 12 (.load true 4 (t 5)), o 13 (.call 150 [(t 12)]), o 14 (.call 149 [(t 3), (t 13)])])))
 (.reg [o 15 (.bin .add (t 8) (k 1)), o 8 (.mv (t 15))]))))
def q41_L3_g : Sg := ⟨[3, 6, 7, 8], [.ptr 0 0 0, .l (cs [I, .l (cs [I]), .i .u32, .i .u32]), .i .i64, .i .i64], [.st [.np 0, .ref 1], .sb], (cs [.l (cs [I, .l (cs [I]), .i .u32, .i .u32]), I, I, .s])⟩
def q41_L3_o : List Out1 := [⟨.exit 0, ⟨[3], [.ptr 0 0 0], [.st [.np 0, .ref 1], .sb], (cs [.s])⟩⟩]
def q41_L3_s (lo : Lo) : (List (Int × (List Int) × Int × Int)) × Int × Int × ByteArray → Option (((List (Int × (List Int) × Int × Int)) × Int × Int × ByteArray) ⊕ ByteArray) := fun x => match x with
  | (v6, v7, v8, h1) => bif (decide (v8 < v7)) then (chk (0 ≤ v8 ∧ v8 < (v6.length : Int)) (Option.bind (q37 lo ((v6.getD v8.toNat ((0 : Int), [], (0 : Int), (0 : Int))).1) ((v6.getD v8.toNat ((0 : Int), [], (0 : Int), (0 : Int))).2.1) ((v6.getD v8.toNat ((0 : Int), [], (0 : Int), (0 : Int))).2.2.1) ((v6.getD v8.toNat ((0 : Int), [], (0 : Int), (0 : Int))).2.2.2)) fun y98 => Option.bind (q39 lo y98 h1) fun y100 => some (.inl (v6, v7, (IntKind.wrap .i64 (v8 + (1 : Int))), y100.2)))) else (some (.inr h1))
theorem q41_L3_e (lo : Lo) : ∀ x : (List (Int × (List Int) × Int × Int)) × Int × Int × ByteArray, stepL (⟨pf, fs41 lo, [], 0⟩ : Tabs) [] q41_L3_g q41_L3_o q41_L3_b x = q41_L3_s lo x := fun x => by kernel_rfl
def q41_L3 (lo : Lo) : (List (Int × (List Int) × Int × Int)) × Int × Int × ByteArray → Option ByteArray := lo.run (q41_L3_s lo)
def q41_L3_p (lo : Lo) : LpE := ⟨3, [], q41_L3_g, q41_L3_o, q41_L3 lo⟩
theorem q41_L3_k {lo : Lo} (hlo : LoOK lo) (C : Ctx) (hT : TOK (⟨pf, fs41 lo, [], 0⟩ : Tabs) C) : LpSound (fun _ => False) [] 0 C (.loop q41_L3_b.er) (q41_L3_p lo) :=
  loop_sound (T := (⟨pf, fs41 lo, [], 0⟩ : Tabs)) hT frNo (show LsOK (fun _ => False) [] C (⟨pf, fs41 lo, [], 0⟩ : Tabs) q41_L3_b from ⟨trivial, ⟨⟨trivial, trivial⟩, ⟨⟨trivial, trivial⟩, trivial⟩⟩⟩) (fun x y h => loopO_congr (q41_L3_e lo) (hlo _ _ _ h))
def q41 (lo : Lo) (steps0 : List (Int × (List Int) × Int × Int)) : Option ByteArray :=
  Option.bind (q41_L3 lo (steps0, (steps0.length : Int), (0 : Int), (ByteArray.mk #[]))) fun y101 => Option.bind (q40 lo y101) fun y102 => some y102
def q41_c : VCode :=
 (.seq (.reg [o 2 (.mv (ks (⟨#[]⟩)))])
 (.seq (.reg [o 3 (.bld)])
 (.ow [(3, some 1, false)] (.seq (.seq (.reg [o 6 (.mv (t 0)), o 7 (.len (t 6)), o 8 (.mv (k 0))])
 (.blk 0 (.loop 3 q41_L3_b)))
 (.seq (.reg [o 16 (.call 151 [(t 3)]), o 2 (.mv (t 16))])
 (.fz [2] .ret))))))
def q41_F : VFn := ⟨true, 17, [.t 2], q41_c⟩
def q41_f (lo : Lo) : FnE := ⟨125, true, ⟨[0], [.l (cs [I, .l (cs [I]), .i .u32, .i .u32])], [], (cs [.l (cs [I, .l (cs [I]), .i .u32, .i .u32])])⟩, .s, [], (cs [.s]), (fun x => q41 lo x : (List (Int × (List Int) × Int × Int)) → Option ByteArray)⟩
theorem q41_e (lo : Lo) : ∀ x : (List (Int × (List Int) × Int × Int)), evP (⟨pf, fs41 lo, [q41_L3_p lo], 0⟩ : Tabs) q41_F ⟨[0], [.l (cs [I, .l (cs [I]), .i .u32, .i .u32])], [], (cs [.l (cs [I, .l (cs [I]), .i .u32, .i .u32])])⟩ (.s) (cs [.s]) x = q41 lo x := fun x => by kernel_rfl
theorem q41_S {P : Program} {fm : FM} {lo : Lo} (hlo : LoOK lo) (hS : Sound P fm ⟨pf, fs41 lo, [], 0⟩) (hm : P.follows .mixedOrders = true) (htie : ∀ f, fm f = 125 → fnTr P fm pf f = some (q41_F.slots, q41_F.res, q41_F.code.er)) : Sound P fm ⟨pf, q41_f lo :: fs41 lo, [], 0⟩ :=
  fn_sound hS hm [q41_L3_p lo] (q41_f lo) rfl q41_F htie (by decide) rfl (Nat.le_of_ble_eq_true (by kernel_rfl)) (fun C hT => show LsOK (fun _ => False) [] C (⟨pf, fs41 lo, [q41_L3_p lo], 0⟩ : Tabs) q41_c from ⟨trivial, ⟨trivial, ⟨⟨trivial, (lsGet (by kernel_rfl) (q41_L3_k hlo C (tok_ls hT)))⟩, ⟨trivial, trivial⟩⟩⟩⟩) (fun x y h => (q41_e lo x).trans h)
def fs42 (lo : Lo) : List FnE := q41_f lo :: fs41 lo
def q42 (lo : Lo) : Option Bool :=
  Option.bind (q3 lo) fun y5 => Option.bind (q9 lo (3 : Int) y5.1 y5.2) fun y24 => Option.bind (q9 lo (3 : Int) y5.1 ([((2 : Int), ([] : List Int), (1 : Int), (3 : Int))])) fun y25 => Option.bind (q17 lo (3 : Int) y5.1 (1 : Int) (4 : Int)) fun y47 => bif (decide (y24.2 = (0 : Int))) then (bif (decide (y24.1 = (0 : Int))) then (bif (decide (y25.2 = (1 : Int))) then (bif (decide (y25.1 = (0 : Int))) then (bif (decide (y47.2 = (0 : Int))) then (Option.bind (q23 lo (3 : Int) y5.1 y47.1 (1 : Int) (4 : Int)) fun y72 => bif y72 then (Option.bind (q24 lo (3 : Int) y5.1 y5.2 (1 : Int) (4 : Int)) fun y74 => bif y74 then (Option.bind (q41 lo y5.2) fun y103 => some (decide (y103 = (ByteArray.mk #[103, 105, 118, 101, 110, 32, 48, 32, 49, 32, 45, 62, 32, 50, 10, 103, 105, 118, 101, 110, 32, 49, 32, 50, 32, 45, 62, 32, 52, 10, 116, 114, 97, 110, 115, 105, 116, 32, 48, 44, 49, 32, 49, 32, 45, 62, 32, 52, 10])))) else (some false)) else (some false)) else (some false)) else (some false)) else (some false)) else (some false)) else (some false)
def q42_c : VCode :=
 (.seq (.reg [o 0 (.mv (kb false))])
 (.seq (.reg [o 10 (.call 131 []), o 9 (.mv (t 10)), o 11 (.ext (t 9) 0), o 12 (.ext (t 9) 1), o 1 (.mv (t 11)), o 2 (.mv (t 12))])
 (.seq (.reg [o 14 (.mv (t 1)), o 15 (.mv (t 2)), o 16 (.call 111 [(k 3), (t 14), (t 15)]), o 13 (.mv (t 16)), o 17 (.ext (t 13) 0), o 18 (.ext (t 13) 1), o 3 (.mv (t 17)), o 4 (.mv (t 18))])
 (.seq (.reg [o 20 (.mv (t 1)), o 21 (.build [.i .u32 0, .i .u32 0] [(0, 1, (ki .u32 1)), (1, 1, (ki .u32 3))]), o 22 (.build [.i .i64 0, .e (cs [I]), .i .u32 0, .i .u32 0] [(0, 1, (k 2)), (2, 2, (t 21))]), o 23 (.bsl (cs [I, .l (cs [I]), .i .u32, .i .u32]) 1 [(0, (t 22))]), o 24 (.call 111 [(k 3), (t 20), (t 23)]), o 19 (.mv (t 24)), o 25 (.ext (t 19) 0), o 26 (.ext (t 19) 1), o 5 (.mv (t 25)), o 6 (.mv (t 26))])
 (.seq (.reg [o 28 (.mv (t 1)), o 29 (.build [.i .u32 0, .i .u32 0] [(0, 1, (ki .u32 1)), (1, 1, (ki .u32 4))]), o 30 (.call 116 [(k 3), (t 28), (t 29)]), o 27 (.mv (t 30)), o 31 (.ext (t 27) 0), o 32 (.ext (t 27) 1), o 7 (.mv (t 31)), o 8 (.mv (t 32))])
 (.seq (.reg [o 33 (.mv (t 4)), o 34 (.bin .eql (t 33) (k 0)), o 35 (.mv (t 34)), og 36 35 true (.mv (t 3)), og 37 35 true (.bin .eql (t 36) (k 0)), o 38 (.pick (t 35) (t 37) (kb false)), o 39 (.mv (t 38)), og 40 39 true (.mv (t 6)), og 41 39 true (.bin .eql (t 40) (k 1)), o 42 (.pick (t 39) (t 41) (kb false)), o 43 (.mv (t 42)), og 44 43 true (.mv (t 5)), og 45 43 true (.bin .eql (t 44) (k 0)), o 46 (.pick (t 43) (t 45) (kb false)), o 47 (.mv (t 46)), og 48 47 true (.mv (t 8)), og 49 47 true (.bin .eql (t 48) (k 0)), o 50 (.pick (t 47) (t 49) (kb false)), o 51 (.mv (t 50)), og 52 51 true (.mv (t 1)), og 53 51 true (.mv (t 7)), og 54 51 true (.build [.i .u32 0, .i .u32 0] [(0, 1, (ki .u32 1)), (1, 1, (ki .u32 4))]), og 55 51 true (.call 114 [(k 3), (t 52), (t 53), (t 54)]), o 56 (.pick (t 51) (t 55) (kb false)), o 57 (.mv (t 56)), og 58 57 true (.mv (t 1)), og 59 57 true (.mv (t 2)), og 60 57 true (.build [.i .u32 0, .i .u32 0] [(0, 1, (ki .u32 1)), (1, 1, (ki .u32 4))]), og 61 57 true (.call 113 [(k 3), (t 58), (t 59), (t 60)]), o 62 (.pick (t 57) (t 61) (kb false)), o 63 (.mv (t 62)), og 64 63 true (.mv (t 2)), og 65 63 true (.call 125 [(t 64)]), og 66 63 true (.bin .eql (t 65) (ks (⟨#[103, 105, 118, 101, 110, 32, 48, 32, 49, 32, 45, 62, 32, 50, 10, 103, 105, 118, 101, 110, 32, 49, 32, 50, 32, 45, 62, 32, 52, 10, 116, 114, 97, 110, 115, 105, 116, 32, 48, 44, 49, 32, 49, 32, 45, 62, 32, 52, 10]⟩))), o 67 (.pick (t 63) (t 66) (kb false)), o 0 (.mv (t 67))])
 (.fz [0] .ret)))))))
def q42_F : VFn := ⟨true, 68, [.t 0], q42_c⟩
def q42_f (lo : Lo) : FnE := ⟨109, true, ⟨[], [], [], (cs [])⟩, .b, [], (cs [.b]), (fun x => q42 lo  : Unit → Option Bool)⟩
theorem q42_e (lo : Lo) : ∀ x : Unit, evP (⟨pf, fs42 lo, [], 0⟩ : Tabs) q42_F ⟨[], [], [], (cs [])⟩ (.b) (cs [.b]) x = q42 lo  := fun x => by kernel_rfl
theorem q42_S {P : Program} {fm : FM} {lo : Lo} (hlo : LoOK lo) (hS : Sound P fm ⟨pf, fs42 lo, [], 0⟩) (hm : P.follows .mixedOrders = true) (htie : ∀ f, fm f = 109 → fnTr P fm pf f = some (q42_F.slots, q42_F.res, q42_F.code.er)) : Sound P fm ⟨pf, q42_f lo :: fs42 lo, [], 0⟩ :=
  fn_sound hS hm [] (q42_f lo) rfl q42_F htie (by decide) rfl (Nat.le_of_ble_eq_true (by kernel_rfl)) (fun C hT => show LsOK (fun _ => False) [] C (⟨pf, fs42 lo, [], 0⟩ : Tabs) q42_c from ⟨trivial, ⟨trivial, ⟨trivial, ⟨trivial, ⟨trivial, ⟨trivial, trivial⟩⟩⟩⟩⟩⟩) (fun x y h => (q42_e lo x).trans h)
def fs43 (lo : Lo) : List FnE := q42_f lo :: fs42 lo
def q43_L3_b : VCode :=
 (.seq (.seq (.reg [o 7 (.mv (t 3)), o 8 (.mv (t 0)), o 9 (.len (t 8)), o 10 (.bin .lss (t 7) (t 9))])
 (.cond (t 10) .skip
 (.exit 0)))
 (.seq (.blk 1 (.seq (.reg [o 13 (.mv (t 0)), o 14 (.mv (t 3)), o 15 (.iad 4 (t 13) (t 14)), o 16 (.fad 1 (t 15)), o 17 (.load false 1 (t 16)), o 18 (.len (t 17)), o 19 (.bin .gtr (t 18) (k 8))])
 (.cond (t 19) (.seq (.reg [o 2 (.mv (kb false))])
 (.fz [2] .ret))
 .skip)))
 (.reg [o 11 (.mv (t 3)), o 12 (.bin .add (t 11) (k 1)), o 3 (.mv (t 12))])))
def q43_L3_g : Sg := ⟨[0, 3], [.l (cs [I, .l (cs [I]), .i .u32, .i .u32]), .i .i64], [], (cs [.l (cs [I, .l (cs [I]), .i .u32, .i .u32]), I])⟩
def q43_L3_o : List Out1 := [⟨.ret, ⟨[2], [.b], [], (cs [.b])⟩⟩, ⟨.exit 0, ⟨[], [], [], (cs [])⟩⟩]
def q43_L3_s (lo : Lo) : (List (Int × (List Int) × Int × Int)) × Int → Option (((List (Int × (List Int) × Int × Int)) × Int) ⊕ (Bool ⊕ Unit)) := fun x => match x with
  | (steps0, i3) => bif (decide (i3 < (steps0.length : Int))) then (chk (0 ≤ i3 ∧ i3 < (steps0.length : Int)) (bif (decide ((8 : Int) < (((steps0.getD i3.toNat ((0 : Int), [], (0 : Int), (0 : Int))).2.1).length : Int))) then (some (.inr (.inl false))) else (some (.inl (steps0, (IntKind.wrap .i64 (i3 + (1 : Int)))))))) else (some (.inr (.inr ())))
theorem q43_L3_e (lo : Lo) : ∀ x : (List (Int × (List Int) × Int × Int)) × Int, stepL (⟨pf, fs43 lo, [], 0⟩ : Tabs) [] q43_L3_g q43_L3_o q43_L3_b x = q43_L3_s lo x := fun x => by kernel_rfl
def q43_L3 (lo : Lo) : (List (Int × (List Int) × Int × Int)) × Int → Option (Bool ⊕ Unit) := lo.run (q43_L3_s lo)
def q43_L3_p (lo : Lo) : LpE := ⟨3, [], q43_L3_g, q43_L3_o, q43_L3 lo⟩
theorem q43_L3_k {lo : Lo} (hlo : LoOK lo) (C : Ctx) (hT : TOK (⟨pf, fs43 lo, [], 0⟩ : Tabs) C) : LpSound (fun _ => False) [] 0 C (.loop q43_L3_b.er) (q43_L3_p lo) :=
  loop_sound (T := (⟨pf, fs43 lo, [], 0⟩ : Tabs)) hT frNo (show LsOK (fun _ => False) [] C (⟨pf, fs43 lo, [], 0⟩ : Tabs) q43_L3_b from ⟨⟨trivial, ⟨trivial, trivial⟩⟩, ⟨⟨trivial, ⟨⟨trivial, trivial⟩, trivial⟩⟩, trivial⟩⟩) (fun x y h => loopO_congr (q43_L3_e lo) (hlo _ _ _ h))
def q43 (lo : Lo) (steps0 : List (Int × (List Int) × Int × Int)) : Option Bool :=
  bif (decide ((30 : Int) < (steps0.length : Int))) then (some false) else (Option.bind (q43_L3 lo (steps0, (0 : Int))) fun y107 => alt2 y107 (fun y108 => some y108) (fun y109 => some true))
def q43_c : VCode :=
 (.seq (.reg [o 2 (.mv (kb false))])
 (.seq (.seq (.reg [o 4 (.mv (t 0)), o 5 (.len (t 4)), o 6 (.bin .gtr (t 5) (k 30))])
 (.cond (t 6) (.seq (.reg [o 2 (.mv (kb false))])
 (.fz [2] .ret))
 .skip))
 (.seq (.seq (.reg [o 3 (.mv (k 0))])
 (.blk 0 (.loop 3 q43_L3_b)))
 (.seq (.reg [o 2 (.mv (kb true))])
 (.fz [2] .ret)))))
def q43_F : VFn := ⟨true, 20, [.t 2], q43_c⟩
def q43_f (lo : Lo) : FnE := ⟨110, true, ⟨[0], [.l (cs [I, .l (cs [I]), .i .u32, .i .u32])], [], (cs [.l (cs [I, .l (cs [I]), .i .u32, .i .u32])])⟩, .b, [], (cs [.b]), (fun x => q43 lo x : (List (Int × (List Int) × Int × Int)) → Option Bool)⟩
theorem q43_e (lo : Lo) : ∀ x : (List (Int × (List Int) × Int × Int)), evP (⟨pf, fs43 lo, [q43_L3_p lo], 0⟩ : Tabs) q43_F ⟨[0], [.l (cs [I, .l (cs [I]), .i .u32, .i .u32])], [], (cs [.l (cs [I, .l (cs [I]), .i .u32, .i .u32])])⟩ (.b) (cs [.b]) x = q43 lo x := fun x => by kernel_rfl
theorem q43_S {P : Program} {fm : FM} {lo : Lo} (hlo : LoOK lo) (hS : Sound P fm ⟨pf, fs43 lo, [], 0⟩) (hm : P.follows .mixedOrders = true) (htie : ∀ f, fm f = 110 → fnTr P fm pf f = some (q43_F.slots, q43_F.res, q43_F.code.er)) : Sound P fm ⟨pf, q43_f lo :: fs43 lo, [], 0⟩ :=
  fn_sound hS hm [q43_L3_p lo] (q43_f lo) rfl q43_F htie (by decide) rfl (Nat.le_of_ble_eq_true (by kernel_rfl)) (fun C hT => show LsOK (fun _ => False) [] C (⟨pf, fs43 lo, [q43_L3_p lo], 0⟩ : Tabs) q43_c from ⟨trivial, ⟨⟨trivial, ⟨⟨trivial, trivial⟩, trivial⟩⟩, ⟨⟨trivial, (lsGet (by kernel_rfl) (q43_L3_k hlo C (tok_ls hT)))⟩, ⟨trivial, trivial⟩⟩⟩⟩) (fun x y h => (q43_e lo x).trans h)
def fs44 (lo : Lo) : List FnE := q43_f lo :: fs43 lo
def fs45 (lo : Lo) : List FnE := fs44 lo
def q45_L5_b : VCode :=
 (.seq (.seq (.reg [o 8 (.mv (t 6)), o 9 (.mv (t 0)), o 10 (.len (t 9)), o 11 (.bin .lss (t 8) (t 10))])
 (.cond (t 11) .skip
 (.exit 2)))
 (.seq (.blk 3 (.seq (.reg [o 14 (.mv (t 0)), o 15 (.mv (t 6)), o 16 (.iad 2 (t 14) (t 15)), o 17 (.fad 0 (t 16)), o 18 (.load false 1 (t 17)), o 19 (.mv (t 1)), o 20 (.call 136 [(t 18), (t 19)])])
 (.cond (t 20) (.reg [o 21 (.mv (t 1)), o 22 (.mv (t 0)), o 23 (.mv (t 6)), o 24 (.iad 2 (t 22) (t 23)), o 25 (.fad 1 (t 24)), o 26 (.load false 1 (t 25)), o 27 (.bin .or (t 21) (t 26)), o 1 (.mv (t 27))])
 .skip)))
 (.reg [o 12 (.mv (t 6)), o 13 (.bin .add (t 12) (k 1)), o 6 (.mv (t 13))])))
def q45_L5_g : Sg := ⟨[0, 1, 5, 6], [.l (cs [.i .u32, .i .u32]), .i .u32, .i .u32, .i .i64], [], (cs [.l (cs [.i .u32, .i .u32]), .i .u32, .i .u32, I])⟩
def q45_L5_o : List Out1 := [⟨.exit 2, ⟨[0, 1, 5], [.l (cs [.i .u32, .i .u32]), .i .u32, .i .u32], [], (cs [.l (cs [.i .u32, .i .u32]), .i .u32, .i .u32])⟩⟩]
def q45_L5_s (lo : Lo) : (List (Int × Int)) × Int × Int × Int → Option (((List (Int × Int)) × Int × Int × Int) ⊕ (((List (Int × Int)) × Int × Int))) := fun x => match x with
  | (fds0, s1, before5, i6) => bif (decide (i6 < (fds0.length : Int))) then (chk (0 ≤ i6 ∧ i6 < (fds0.length : Int)) (Option.bind (q18 lo ((fds0.getD i6.toNat ((0 : Int), (0 : Int))).1) s1) fun y123 => bif y123 then (chk (0 ≤ i6 ∧ i6 < (fds0.length : Int)) (some (.inl (fds0, (bits .or .u32 s1 ((fds0.getD i6.toNat ((0 : Int), (0 : Int))).2)), before5, (IntKind.wrap .i64 (i6 + (1 : Int))))))) else (some (.inl (fds0, s1, before5, (IntKind.wrap .i64 (i6 + (1 : Int)))))))) else (some (.inr (fds0, s1, before5)))
theorem q45_L5_e (lo : Lo) : ∀ x : (List (Int × Int)) × Int × Int × Int, stepL (⟨pf, fs45 lo, [], 0⟩ : Tabs) [] q45_L5_g q45_L5_o q45_L5_b x = q45_L5_s lo x := fun x => by kernel_rfl
def q45_L5 (lo : Lo) : (List (Int × Int)) × Int × Int × Int → Option (((List (Int × Int)) × Int × Int)) := lo.run (q45_L5_s lo)
def q45_L5_p (lo : Lo) : LpE := ⟨5, [], q45_L5_g, q45_L5_o, q45_L5 lo⟩
theorem q45_L5_k {lo : Lo} (hlo : LoOK lo) (C : Ctx) (hT : TOK (⟨pf, fs45 lo, [], 0⟩ : Tabs) C) : LpSound (fun _ => False) [] 0 C (.loop q45_L5_b.er) (q45_L5_p lo) :=
  loop_sound (T := (⟨pf, fs45 lo, [], 0⟩ : Tabs)) hT frNo (show LsOK (fun _ => False) [] C (⟨pf, fs45 lo, [], 0⟩ : Tabs) q45_L5_b from ⟨⟨trivial, ⟨trivial, trivial⟩⟩, ⟨⟨trivial, ⟨trivial, trivial⟩⟩, trivial⟩⟩) (fun x y h => loopO_congr (q45_L5_e lo) (hlo _ _ _ h))
def q45_L1_b : VCode :=
 (.blk 1 (.seq (.reg [o 7 (.mv (t 1)), o 5 (.mv (t 7))])
 (.seq (.seq (.reg [o 6 (.mv (k 0))])
 (.blk 2 (.loop 5 q45_L5_b)))
 (.seq (.reg [o 28 (.mv (t 1)), o 29 (.mv (t 5)), o 30 (.bin .eql (t 28) (t 29))])
 (.cond (t 30) (.seq (.reg [o 31 (.mv (t 1)), o 4 (.mv (t 31))])
 (.fz [4] .ret))
 .skip)))))
def q45_L1_g : Sg := ⟨[0, 1], [.l (cs [.i .u32, .i .u32]), .i .u32], [], (cs [.l (cs [.i .u32, .i .u32]), .i .u32])⟩
def q45_L1_o : List Out1 := [⟨.ret, ⟨[4], [.i .u32], [], (cs [.i .u32])⟩⟩]
def q45_L1_s (lo : Lo) : (List (Int × Int)) × Int → Option (((List (Int × Int)) × Int) ⊕ Int) := fun x => match x with
  | (fds0, s1) => Option.bind (q45_L5 lo (fds0, s1, s1, (0 : Int))) fun y124 => bif (decide (y124.2.1 = y124.2.2)) then (some (.inr y124.2.1)) else (some (.inl (y124.1, y124.2.1)))
theorem q45_L1_e (lo : Lo) : ∀ x : (List (Int × Int)) × Int, stepL (⟨pf, fs45 lo, [q45_L5_p lo], 0⟩ : Tabs) [] q45_L1_g q45_L1_o q45_L1_b x = q45_L1_s lo x := fun x => by kernel_rfl
def q45_L1 (lo : Lo) : (List (Int × Int)) × Int → Option Int := lo.run (q45_L1_s lo)
def q45_L1_p (lo : Lo) : LpE := ⟨1, [], q45_L1_g, q45_L1_o, q45_L1 lo⟩
theorem q45_L1_k {lo : Lo} (hlo : LoOK lo) (C : Ctx) (hT : TOK (⟨pf, fs45 lo, [q45_L5_p lo], 0⟩ : Tabs) C) : LpSound (fun _ => False) [] 0 C (.loop q45_L1_b.er) (q45_L1_p lo) :=
  loop_sound (T := (⟨pf, fs45 lo, [q45_L5_p lo], 0⟩ : Tabs)) hT frNo (show LsOK (fun _ => False) [] C (⟨pf, fs45 lo, [q45_L5_p lo], 0⟩ : Tabs) q45_L1_b from ⟨trivial, ⟨⟨trivial, (lsGet (by kernel_rfl) (q45_L5_k hlo C (tok_ls hT)))⟩, ⟨trivial, ⟨⟨trivial, trivial⟩, trivial⟩⟩⟩⟩) (fun x y h => loopO_congr (q45_L1_e lo) (hlo _ _ _ h))
def q45 (lo : Lo) (fds0 : List (Int × Int)) (s1 : Int) : Option Int :=
  Option.bind (q45_L1 lo (fds0, s1)) fun y125 => some y125
def q45_c : VCode :=
 (.seq (.reg [o 4 (.mv (ki .u32 0))])
 (.blk 0 (.loop 1 q45_L1_b)))
def q45_F : VFn := ⟨true, 32, [.t 4], q45_c⟩
def q45_f (lo : Lo) : FnE := ⟨142, true, ⟨[0, 1], [.l (cs [.i .u32, .i .u32]), .i .u32], [], (cs [.l (cs [.i .u32, .i .u32]), .i .u32])⟩, .i .u32, [], (cs [.i .u32]), (fun x => q45 lo x.1 x.2 : (List (Int × Int)) × Int → Option Int)⟩
theorem q45_e (lo : Lo) : ∀ x : (List (Int × Int)) × Int, evP (⟨pf, fs45 lo, [q45_L1_p lo, q45_L5_p lo], 0⟩ : Tabs) q45_F ⟨[0, 1], [.l (cs [.i .u32, .i .u32]), .i .u32], [], (cs [.l (cs [.i .u32, .i .u32]), .i .u32])⟩ (.i .u32) (cs [.i .u32]) x = q45 lo x.1 x.2 := fun x => by kernel_rfl
theorem q45_S {P : Program} {fm : FM} {lo : Lo} (hlo : LoOK lo) (hS : Sound P fm ⟨pf, fs45 lo, [], 0⟩) (hm : P.follows .mixedOrders = true) (htie : ∀ f, fm f = 142 → fnTr P fm pf f = some (q45_F.slots, q45_F.res, q45_F.code.er)) : Sound P fm ⟨pf, q45_f lo :: fs45 lo, [], 0⟩ :=
  fn_sound hS hm [q45_L1_p lo, q45_L5_p lo] (q45_f lo) rfl q45_F htie (by decide) rfl (Nat.le_of_ble_eq_true (by kernel_rfl)) (fun C hT => show LsOK (fun _ => False) [] C (⟨pf, fs45 lo, [q45_L1_p lo, q45_L5_p lo], 0⟩ : Tabs) q45_c from ⟨trivial, (lsGet (by kernel_rfl) (q45_L1_k hlo C (tok_ls hT)))⟩) (fun x y h => (q45_e lo x).trans h)
def fs46 (lo : Lo) : List FnE := q45_f lo :: fs45 lo
def q46 (lo : Lo) (fds0 : List (Int × Int)) (fd1_0 : Int) (fd1_1 : Int) : Option Bool :=
  Option.bind (q45 lo fds0 fd1_0) fun y126 => Option.bind (q18 lo fd1_1 y126) fun y127 => some y127
def q46_c : VCode :=
 (.seq (.reg [o 3 (.box (t 1)), o 4 (.mv (kb false))])
 (.seq (.reg [o 5 (.fad 1 (t 3)), o 6 (.load false 1 (t 5)), o 7 (.mv (t 0)), o 8 (.fad 0 (t 3)), o 9 (.load false 1 (t 8)), o 10 (.call 142 [(t 7), (t 9)]), o 11 (.call 136 [(t 6), (t 10)]), o 4 (.mv (t 11))])
 (.fz [4] .ret)))
def q46_F : VFn := ⟨true, 12, [.t 4], q46_c⟩
def q46_f (lo : Lo) : FnE := ⟨117, true, ⟨[0, 1], [.l (cs [.i .u32, .i .u32]), .ag [.i .u32, .i .u32]], [], (cs [.l (cs [.i .u32, .i .u32]), .i .u32, .i .u32])⟩, .b, [], (cs [.b]), (fun x => q46 lo x.1 x.2.1 x.2.2 : (List (Int × Int)) × Int × Int → Option Bool)⟩
theorem q46_e (lo : Lo) : ∀ x : (List (Int × Int)) × Int × Int, evP (⟨pf, fs46 lo, [], 0⟩ : Tabs) q46_F ⟨[0, 1], [.l (cs [.i .u32, .i .u32]), .ag [.i .u32, .i .u32]], [], (cs [.l (cs [.i .u32, .i .u32]), .i .u32, .i .u32])⟩ (.b) (cs [.b]) x = q46 lo x.1 x.2.1 x.2.2 := fun x => by kernel_rfl
theorem q46_S {P : Program} {fm : FM} {lo : Lo} (hlo : LoOK lo) (hS : Sound P fm ⟨pf, fs46 lo, [], 0⟩) (hm : P.follows .mixedOrders = true) (htie : ∀ f, fm f = 117 → fnTr P fm pf f = some (q46_F.slots, q46_F.res, q46_F.code.er)) : Sound P fm ⟨pf, q46_f lo :: fs46 lo, [], 0⟩ :=
  fn_sound hS hm [] (q46_f lo) rfl q46_F htie (by decide) rfl (Nat.le_of_ble_eq_true (by kernel_rfl)) (fun C hT => show LsOK (fun _ => False) [] C (⟨pf, fs46 lo, [], 0⟩ : Tabs) q46_c from ⟨trivial, ⟨trivial, trivial⟩⟩) (fun x y h => (q46_e lo x).trans h)
def fs47 (lo : Lo) : List FnE := q46_f lo :: fs46 lo
def fs48 (lo : Lo) : List FnE := fs47 lo
def fs49 (lo : Lo) : List FnE := fs48 lo
def fs50 (lo : Lo) : List FnE := fs49 lo
def fs51 (lo : Lo) : List FnE := fs50 lo
def fs52 (lo : Lo) : List FnE := fs51 lo
def fs53 (lo : Lo) : List FnE := fs52 lo
def q53 (lo : Lo) (x0 : Int) : Option Int :=
  Option.bind (q26 lo x0) fun y181 => some y181
def q53_c : VCode :=
 (.seq (.reg [o 2 (.mv (k 0))])
 (.seq (.cond (kb false) (.seq (.reg [o 3 (.mv (t 0)), o 4 (.conv .u32 (t 3)), o 5 (.call 186 [(t 4)]), o 2 (.mv (t 5))])
 (.fz [2] .ret))
 .skip)
 (.seq (.reg [o 6 (.mv (t 0)), o 7 (.call 187 [(t 6)]), o 2 (.mv (t 7))])
 (.fz [2] .ret))))
def q53_F : VFn := ⟨true, 8, [.t 2], q53_c⟩
def q53_f (lo : Lo) : FnE := ⟨163, true, ⟨[0], [.i .u64], [], (cs [.i .u64])⟩, .i .i64, [], (cs [I]), (fun x => q53 lo x : Int → Option Int)⟩
theorem q53_e (lo : Lo) : ∀ x : Int, evP (⟨pf, fs53 lo, [], 0⟩ : Tabs) q53_F ⟨[0], [.i .u64], [], (cs [.i .u64])⟩ (.i .i64) (cs [I]) x = q53 lo x := fun x => by kernel_rfl
theorem q53_S {P : Program} {fm : FM} {lo : Lo} (hlo : LoOK lo) (hS : Sound P fm ⟨pf, fs53 lo, [], 0⟩) (hm : P.follows .mixedOrders = true) (htie : ∀ f, fm f = 163 → fnTr P fm pf f = some (q53_F.slots, q53_F.res, q53_F.code.er)) : Sound P fm ⟨pf, q53_f lo :: fs53 lo, [], 0⟩ :=
  fn_sound hS hm [] (q53_f lo) rfl q53_F htie (by decide) rfl (Nat.le_of_ble_eq_true (by kernel_rfl)) (fun C hT => show LsOK (fun _ => False) [] C (⟨pf, fs53 lo, [], 0⟩ : Tabs) q53_c from ⟨trivial, ⟨⟨⟨trivial, trivial⟩, trivial⟩, ⟨trivial, trivial⟩⟩⟩) (fun x y h => (q53_e lo x).trans h)
def fs54 (lo : Lo) : List FnE := q53_f lo :: fs53 lo
def q54 (lo : Lo) (x0 : Int) : Option Bool :=
  some (!decide (x0 = x0))
def q54_c : VCode :=
 (.seq (.reg [o 2 (.mv (kb false))])
 (.seq (.reg [o 3 (.mv (t 0)), o 4 (.mv (t 0)), o 5 (.bin .neq (t 3) (t 4)), o 2 (.mv (t 5))])
 (.fz [2] .ret)))
def q54_F : VFn := ⟨true, 6, [.t 2], q54_c⟩
def q54_f (lo : Lo) : FnE := ⟨199, true, ⟨[0], [.i .i64], [], (cs [I])⟩, .b, [], (cs [.b]), (fun x => q54 lo x : Int → Option Bool)⟩
theorem q54_e (lo : Lo) : ∀ x : Int, evP (⟨pf, fs54 lo, [], 0⟩ : Tabs) q54_F ⟨[0], [.i .i64], [], (cs [I])⟩ (.b) (cs [.b]) x = q54 lo x := fun x => by kernel_rfl
theorem q54_S {P : Program} {fm : FM} {lo : Lo} (hlo : LoOK lo) (hS : Sound P fm ⟨pf, fs54 lo, [], 0⟩) (hm : P.follows .mixedOrders = true) (htie : ∀ f, fm f = 199 → fnTr P fm pf f = some (q54_F.slots, q54_F.res, q54_F.code.er)) : Sound P fm ⟨pf, q54_f lo :: fs54 lo, [], 0⟩ :=
  fn_sound hS hm [] (q54_f lo) rfl q54_F htie (by decide) rfl (Nat.le_of_ble_eq_true (by kernel_rfl)) (fun C hT => show LsOK (fun _ => False) [] C (⟨pf, fs54 lo, [], 0⟩ : Tabs) q54_c from ⟨trivial, ⟨trivial, trivial⟩⟩) (fun x y h => (q54_e lo x).trans h)
def fs55 (lo : Lo) : List FnE := q54_f lo :: fs54 lo
def q55 (lo : Lo) (x0 : Int) (y1 : Int) : Option Bool :=
  Option.bind (q54 lo x0) fun y183 => bif y183 then (Option.bind (q54 lo y1) fun y184 => bif (!y184) then (some true) else (some (decide (x0 < y1)))) else (some (decide (x0 < y1)))
def q55_c : VCode :=
 (.seq (.reg [o 4 (.mv (kb false))])
 (.seq (.reg [o 5 (.mv (t 0)), o 6 (.call 199 [(t 5)]), o 7 (.mv (t 6)), og 8 7 true (.mv (t 1)), og 9 7 true (.call 199 [(t 8)]), og 10 7 true (.not (t 9)), o 11 (.pick (t 7) (t 10) (kb false)), o 12 (.mv (t 11)), og 13 12 false (.mv (t 0)), og 14 12 false (.mv (t 1)), og 15 12 false (.bin .lss (t 13) (t 14)), o 16 (.pick (t 12) (kb true) (t 15)), o 4 (.mv (t 16))])
 (.fz [4] .ret)))
def q55_F : VFn := ⟨true, 17, [.t 4], q55_c⟩
def q55_f (lo : Lo) : FnE := ⟨183, true, ⟨[0, 1], [.i .i64, .i .i64], [], (cs [I, I])⟩, .b, [], (cs [.b]), (fun x => q55 lo x.1 x.2 : Int × Int → Option Bool)⟩
theorem q55_e (lo : Lo) : ∀ x : Int × Int, evP (⟨pf, fs55 lo, [], 0⟩ : Tabs) q55_F ⟨[0, 1], [.i .i64, .i .i64], [], (cs [I, I])⟩ (.b) (cs [.b]) x = q55 lo x.1 x.2 := fun x => by kernel_rfl
theorem q55_S {P : Program} {fm : FM} {lo : Lo} (hlo : LoOK lo) (hS : Sound P fm ⟨pf, fs55 lo, [], 0⟩) (hm : P.follows .mixedOrders = true) (htie : ∀ f, fm f = 183 → fnTr P fm pf f = some (q55_F.slots, q55_F.res, q55_F.code.er)) : Sound P fm ⟨pf, q55_f lo :: fs55 lo, [], 0⟩ :=
  fn_sound hS hm [] (q55_f lo) rfl q55_F htie (by decide) rfl (Nat.le_of_ble_eq_true (by kernel_rfl)) (fun C hT => show LsOK (fun _ => False) [] C (⟨pf, fs55 lo, [], 0⟩ : Tabs) q55_c from ⟨trivial, ⟨trivial, trivial⟩⟩) (fun x y h => (q55_e lo x).trans h)
def fs56 (lo : Lo) : List FnE := q55_f lo :: fs55 lo
end Go.Abs.G12
namespace Go.Abs.G12
open Go Go.Abs
set_option maxRecDepth 100000
set_option linter.unusedVariables false
set_option maxHeartbeats 1000000
def q56_L3_b : VCode :=
 (.seq (.seq (.reg [o 16 (.mv (t 7)), o 17 (.mv (t 1)), o 18 (.bin .gtr (t 16) (t 17)), o 19 (.mv (t 18)), og 20 19 true (.mv (t 0)), og 21 19 true (.mv (t 7)), og 22 19 true (.iad 1 (t 20) (t 21)), og 23 19 true (.load false 1 (t 22)), og 24 19 true (.mv (t 0)), og 25 19 true (.mv (t 7)), og 26 19 true (.bin .sub (t 25) (k 1)), og 27 19 true (.iad 1 (t 24) (t 26)), og 28 19 true (.load false 1 (t 27)), og 29 19 true (.call 183 [(t 23), (t 28)]), o 30 (.pick (t 19) (t 29) (kb false))])
 (.cond (t 30) .skip
 (.exit 2)))
 (.seq (.blk 3 (.reg [o 33 (.mv (t 0)), o 34 (.mv (t 7)), o 35 (.mv (t 0)), o 36 (.mv (t 7)), o 37 (.bin .sub (t 36) (k 1)), o 38 (.mv (t 0)), o 39 (.mv (t 7)), o 40 (.bin .sub (t 39) (k 1)), o 41 (.iad 1 (t 38) (t 40)), o 42 (.load false 1 (t 41)), o 43 (.mv (t 0)), o 44 (.mv (t 7)), o 45 (.iad 1 (t 43) (t 44)), o 46 (.load false 1 (t 45)), o 47 (.iad 1 (t 33) (t 34)), on (.store 1 (t 47) (t 42)), o 48 (.iad 1 (t 35) (t 37)), on (.store 1 (t 48) (t 46))]))
 (.reg [o 31 (.mv (t 7)), o 32 (.bin .sub (t 31) (k 1)), o 7 (.mv (t 32))])))
def q56_L3_g : Sg := ⟨[0, 1, 2, 6, 7], [.ref 0, .i .i64, .i .i64, .i .i64, .i .i64], [.sq (cs [I])], (cs [I, I, I, I, .l (cs [I])])⟩
def q56_L3_o : List Out1 := [⟨.exit 2, ⟨[0, 1, 2, 6], [.ref 0, .i .i64, .i .i64, .i .i64], [.sq (cs [I])], (cs [I, I, I, .l (cs [I])])⟩⟩]
def q56_L3_s (lo : Lo) : Int × Int × Int × Int × (List Int) → Option ((Int × Int × Int × Int × (List Int)) ⊕ ((Int × Int × Int × (List Int)))) := fun x => match x with
  | (a1, b2, i6, j7, data0) => bif (decide (a1 < j7)) then (chk (0 ≤ j7 ∧ j7 < (data0.length : Int)) (chk (0 ≤ (IntKind.wrap .i64 (j7 - (1 : Int))) ∧ (IntKind.wrap .i64 (j7 - (1 : Int))) < (data0.length : Int)) (Option.bind (q55 lo (data0.getD j7.toNat (0 : Int)) (data0.getD ((IntKind.wrap .i64 (j7 - (1 : Int))).toNat) (0 : Int))) fun y185 => bif y185 then (chk (0 ≤ (IntKind.wrap .i64 (j7 - (1 : Int))) ∧ (IntKind.wrap .i64 (j7 - (1 : Int))) < (data0.length : Int)) (chk (0 ≤ j7 ∧ j7 < (data0.length : Int)) (chk (0 ≤ j7 ∧ j7 < (data0.length : Int)) (chk (0 ≤ (IntKind.wrap .i64 (j7 - (1 : Int))) ∧ (IntKind.wrap .i64 (j7 - (1 : Int))) < ((data0.set j7.toNat (data0.getD ((IntKind.wrap .i64 (j7 - (1 : Int))).toNat) (0 : Int))).length : Int)) (some (.inl (a1, b2, i6, (IntKind.wrap .i64 (j7 - (1 : Int))), ((data0.set j7.toNat (data0.getD ((IntKind.wrap .i64 (j7 - (1 : Int))).toNat) (0 : Int))).set ((IntKind.wrap .i64 (j7 - (1 : Int))).toNat) (data0.getD j7.toNat (0 : Int)))))))))) else (some (.inr (a1, b2, i6, data0)))))) else (some (.inr (a1, b2, i6, data0)))
theorem q56_L3_e (lo : Lo) : ∀ x : Int × Int × Int × Int × (List Int), stepL (⟨pf, fs56 lo, [], 1⟩ : Tabs) [] q56_L3_g q56_L3_o q56_L3_b x = q56_L3_s lo x := fun x => by kernel_rfl
def q56_L3 (lo : Lo) : Int × Int × Int × Int × (List Int) → Option ((Int × Int × Int × (List Int))) := lo.run (q56_L3_s lo)
def q56_L3_p (lo : Lo) : LpE := ⟨3, [], q56_L3_g, q56_L3_o, q56_L3 lo⟩
theorem q56_L3_k {lo : Lo} (hlo : LoOK lo) (C : Ctx) (hT : TOK (⟨pf, fs56 lo, [], 1⟩ : Tabs) C) {Fr : Nat → Prop} {H0 : Heap} (hf : FrOK Fr H0) : LpSound Fr H0 1 C (.loop q56_L3_b.er) (q56_L3_p lo) :=
  loop_sound (T := (⟨pf, fs56 lo, [], 1⟩ : Tabs)) hT hf (show LsOK Fr H0 C (⟨pf, fs56 lo, [], 1⟩ : Tabs) q56_L3_b from ⟨⟨trivial, ⟨trivial, trivial⟩⟩, ⟨trivial, trivial⟩⟩) (fun x y h => loopO_congr (q56_L3_e lo) (hlo _ _ _ h))
def q56_L1_b : VCode :=
 (.seq (.seq (.reg [o 10 (.mv (t 6)), o 11 (.mv (t 2)), o 12 (.bin .lss (t 10) (t 11))])
 (.cond (t 12) .skip
 (.exit 0)))
 (.seq (.blk 1 (.seq (.reg [o 15 (.mv (t 6)), o 7 (.mv (t 15))])
 (.blk 2 (.loop 3 q56_L3_b))))
 (.reg [o 13 (.mv (t 6)), o 14 (.bin .add (t 13) (k 1)), o 6 (.mv (t 14))])))
def q56_L1_g : Sg := ⟨[0, 1, 2, 6], [.ref 0, .i .i64, .i .i64, .i .i64], [.sq (cs [I])], (cs [I, I, I, .l (cs [I])])⟩
def q56_L1_o : List Out1 := [⟨.exit 0, ⟨[], [], [.sq (cs [I])], (cs [.l (cs [I])])⟩⟩]
def q56_L1_s (lo : Lo) : Int × Int × Int × (List Int) → Option ((Int × Int × Int × (List Int)) ⊕ (((List Int)))) := fun x => match x with
  | (a1, b2, i6, data0) => bif (decide (i6 < b2)) then (Option.bind (q56_L3 lo (a1, b2, i6, i6, data0)) fun y186 => some (.inl (y186.1, y186.2.1, (IntKind.wrap .i64 (y186.2.2.1 + (1 : Int))), y186.2.2.2))) else (some (.inr data0))
theorem q56_L1_e (lo : Lo) : ∀ x : Int × Int × Int × (List Int), stepL (⟨pf, fs56 lo, [q56_L3_p lo], 1⟩ : Tabs) [] q56_L1_g q56_L1_o q56_L1_b x = q56_L1_s lo x := fun x => by kernel_rfl
def q56_L1 (lo : Lo) : Int × Int × Int × (List Int) → Option (((List Int))) := lo.run (q56_L1_s lo)
def q56_L1_p (lo : Lo) : LpE := ⟨1, [], q56_L1_g, q56_L1_o, q56_L1 lo⟩
theorem q56_L1_k {lo : Lo} (hlo : LoOK lo) (C : Ctx) (hT : TOK (⟨pf, fs56 lo, [q56_L3_p lo], 1⟩ : Tabs) C) {Fr : Nat → Prop} {H0 : Heap} (hf : FrOK Fr H0) : LpSound Fr H0 1 C (.loop q56_L1_b.er) (q56_L1_p lo) :=
  loop_sound (T := (⟨pf, fs56 lo, [q56_L3_p lo], 1⟩ : Tabs)) hT hf (show LsOK Fr H0 C (⟨pf, fs56 lo, [q56_L3_p lo], 1⟩ : Tabs) q56_L1_b from ⟨⟨trivial, ⟨trivial, trivial⟩⟩, ⟨⟨trivial, (lsGet (by kernel_rfl) (q56_L3_k hlo C (tok_ls hT) hf))⟩, trivial⟩⟩) (fun x y h => loopO_congr (q56_L1_e lo) (hlo _ _ _ h))
def q56 (lo : Lo) (a1 : Int) (b2 : Int) (data0 : List Int) : Option ((List Int)) :=
  Option.bind (q56_L1 lo (a1, b2, (IntKind.wrap .i64 (a1 + (1 : Int))), data0)) fun y187 => some y187
def q56_c : VCode :=
 (.seq (.reg [o 8 (.mv (t 1)), o 9 (.bin .add (t 8) (k 1)), o 6 (.mv (t 9))])
 (.blk 0 (.loop 1 q56_L1_b)))
def q56_F : VFn := ⟨true, 49, [], q56_c⟩
def q56_f (lo : Lo) : FnE := ⟨177, false, ⟨[0, 1, 2], [.ref 0, .i .i64, .i .i64], [.sq (cs [I])], (cs [I, I, .l (cs [I])])⟩, .tp [], [.sq (cs [I])], (cs [.l (cs [I])]), (fun x => q56 lo x.1 x.2.1 x.2.2 : Int × Int × (List Int) → Option ((List Int)))⟩
theorem q56_e (lo : Lo) : ∀ x : Int × Int × (List Int), evI (⟨pf, fs56 lo, [q56_L1_p lo, q56_L3_p lo], 1⟩ : Tabs) q56_F ⟨[0, 1, 2], [.ref 0, .i .i64, .i .i64], [.sq (cs [I])], (cs [I, I, .l (cs [I])])⟩ (.tp []) [.sq (cs [I])] (cs [.l (cs [I])]) x = q56 lo x.1 x.2.1 x.2.2 := fun x => by kernel_rfl
theorem q56_S {P : Program} {fm : FM} {lo : Lo} (hlo : LoOK lo) (hS : Sound P fm ⟨pf, fs56 lo, [], 0⟩) (hm : P.follows .mixedOrders = true) (htie : ∀ f, fm f = 177 → fnTr P fm pf f = some (q56_F.slots, q56_F.res, q56_F.code.er)) : Sound P fm ⟨pf, q56_f lo :: fs56 lo, [], 0⟩ :=
  fnI_sound hS hm [q56_L1_p lo, q56_L3_p lo] (q56_f lo) rfl q56_F htie (by decide) rfl (Nat.le_of_ble_eq_true (by kernel_rfl)) (fun C hT Fr H0 hf => show LsOK Fr H0 C (⟨pf, fs56 lo, [q56_L1_p lo, q56_L3_p lo], 1⟩ : Tabs) q56_c from ⟨trivial, (lsGet (by kernel_rfl) (q56_L1_k hlo C (tok_ls hT) hf))⟩) (fun x y h => (q56_e lo x).trans h)
def fs57 (lo : Lo) : List FnE := q56_f lo :: fs56 lo
def q57 (lo : Lo) (x0 : Int) (x1 : Int) (x2 : List Int) : Option ((List Int)) := none
def q57_f (lo : Lo) : FnE := ⟨178, false, ⟨[0, 1, 2], [.ref 0, .i .i64, .i .i64], [.sq (cs [I])], (cs [I, I, .l (cs [I])])⟩, .tp [], [.sq (cs [I])], (cs [.l (cs [I])]), (fun x => q57 lo x.1 x.2.1 x.2.2 : Int × Int × (List Int) → Option ((List Int)))⟩
theorem q57_S {P : Program} {fm : FM} {lo : Lo} (hlo : LoOK lo) (hS : Sound P fm ⟨pf, fs57 lo, [], 0⟩) (hm : P.follows .mixedOrders = true) (hN : True) : Sound P fm ⟨pf, q57_f lo :: fs57 lo, [], 0⟩ :=
  none_sound hS (q57_f lo) (fun _ => rfl)
def fs58 (lo : Lo) : List FnE := q57_f lo :: fs57 lo
def q58 (lo : Lo) (x0 : Int) (x1 : Int) (x2 : List Int) : Option ((List Int)) := none
def q58_f (lo : Lo) : FnE := ⟨179, false, ⟨[0, 1, 2], [.ref 0, .i .i64, .i .i64], [.sq (cs [I])], (cs [I, I, .l (cs [I])])⟩, .tp [], [.sq (cs [I])], (cs [.l (cs [I])]), (fun x => q58 lo x.1 x.2.1 x.2.2 : Int × Int × (List Int) → Option ((List Int)))⟩
theorem q58_S {P : Program} {fm : FM} {lo : Lo} (hlo : LoOK lo) (hS : Sound P fm ⟨pf, fs58 lo, [], 0⟩) (hm : P.follows .mixedOrders = true) (hN : True) : Sound P fm ⟨pf, q58_f lo :: fs58 lo, [], 0⟩ :=
  none_sound hS (q58_f lo) (fun _ => rfl)
def fs59 (lo : Lo) : List FnE := q58_f lo :: fs58 lo
def q59 (lo : Lo) (x0 : List Int) (x1 : Int) (x2 : Int) : Option (Int × Int) := none
def q59_f (lo : Lo) : FnE := ⟨180, true, ⟨[0, 1, 2], [.l (cs [I]), .i .i64, .i .i64], [], (cs [.l (cs [I]), I, I])⟩, .tp [.i .i64, .i .i64], [], (cs [I, I]), (fun x => q59 lo x.1 x.2.1 x.2.2 : (List Int) × Int × Int → Option (Int × Int))⟩
theorem q59_S {P : Program} {fm : FM} {lo : Lo} (hlo : LoOK lo) (hS : Sound P fm ⟨pf, fs59 lo, [], 0⟩) (hm : P.follows .mixedOrders = true) (hN : True) : Sound P fm ⟨pf, q59_f lo :: fs59 lo, [], 0⟩ :=
  none_sound hS (q59_f lo) (fun _ => rfl)
def fs60 (lo : Lo) : List FnE := q59_f lo :: fs59 lo
def q60 (lo : Lo) (x0 : Int) (x1 : Int) (x2 : List Int) : Option ((List Int)) := none
def q60_f (lo : Lo) : FnE := ⟨181, false, ⟨[0, 1, 2], [.ref 0, .i .i64, .i .i64], [.sq (cs [I])], (cs [I, I, .l (cs [I])])⟩, .tp [], [.sq (cs [I])], (cs [.l (cs [I])]), (fun x => q60 lo x.1 x.2.1 x.2.2 : Int × Int × (List Int) → Option ((List Int)))⟩
theorem q60_S {P : Program} {fm : FM} {lo : Lo} (hlo : LoOK lo) (hS : Sound P fm ⟨pf, fs60 lo, [], 0⟩) (hm : P.follows .mixedOrders = true) (hN : True) : Sound P fm ⟨pf, q60_f lo :: fs60 lo, [], 0⟩ :=
  none_sound hS (q60_f lo) (fun _ => rfl)
def fs61 (lo : Lo) : List FnE := q60_f lo :: fs60 lo
def q61 (lo : Lo) (x0 : Int) (x1 : Int) (x2 : List Int) : Option (Bool × (List Int)) := none
def q61_f (lo : Lo) : FnE := ⟨182, false, ⟨[0, 1, 2], [.ref 0, .i .i64, .i .i64], [.sq (cs [I])], (cs [I, I, .l (cs [I])])⟩, .b, [.sq (cs [I])], (cs [.b, .l (cs [I])]), (fun x => q61 lo x.1 x.2.1 x.2.2 : Int × Int × (List Int) → Option (Bool × (List Int)))⟩
theorem q61_S {P : Program} {fm : FM} {lo : Lo} (hlo : LoOK lo) (hS : Sound P fm ⟨pf, fs61 lo, [], 0⟩) (hm : P.follows .mixedOrders = true) (hN : True) : Sound P fm ⟨pf, q61_f lo :: fs61 lo, [], 0⟩ :=
  none_sound hS (q61_f lo) (fun _ => rfl)
def fs62 (lo : Lo) : List FnE := q61_f lo :: fs61 lo
def q62 (lo : Lo) (x0 : Int) (x1 : Int) (x2 : Int) (x3 : List Int) : Option (Int × (List Int)) := none
def q62_f (lo : Lo) : FnE := ⟨184, false, ⟨[0, 1, 2, 3], [.ref 0, .i .i64, .i .i64, .i .i64], [.sq (cs [I])], (cs [I, I, I, .l (cs [I])])⟩, .i .i64, [.sq (cs [I])], (cs [I, .l (cs [I])]), (fun x => q62 lo x.1 x.2.1 x.2.2.1 x.2.2.2 : Int × Int × Int × (List Int) → Option (Int × (List Int)))⟩
theorem q62_S {P : Program} {fm : FM} {lo : Lo} (hlo : LoOK lo) (hS : Sound P fm ⟨pf, fs62 lo, [], 0⟩) (hm : P.follows .mixedOrders = true) (hN : True) : Sound P fm ⟨pf, q62_f lo :: fs62 lo, [], 0⟩ :=
  none_sound hS (q62_f lo) (fun _ => rfl)
def fs63 (lo : Lo) : List FnE := q62_f lo :: fs62 lo
def q63 (lo : Lo) (x0 : Int) (x1 : Int) (x2 : Int) (x3 : List Int) : Option (Int × Bool × (List Int)) := none
def q63_f (lo : Lo) : FnE := ⟨185, false, ⟨[0, 1, 2, 3], [.ref 0, .i .i64, .i .i64, .i .i64], [.sq (cs [I])], (cs [I, I, I, .l (cs [I])])⟩, .tp [.i .i64, .b], [.sq (cs [I])], (cs [I, .b, .l (cs [I])]), (fun x => q63 lo x.1 x.2.1 x.2.2.1 x.2.2.2 : Int × Int × Int × (List Int) → Option (Int × Bool × (List Int)))⟩
theorem q63_S {P : Program} {fm : FM} {lo : Lo} (hlo : LoOK lo) (hS : Sound P fm ⟨pf, fs63 lo, [], 0⟩) (hm : P.follows .mixedOrders = true) (hN : True) : Sound P fm ⟨pf, q63_f lo :: fs63 lo, [], 0⟩ :=
  none_sound hS (q63_f lo) (fun _ => rfl)
def fs64 (lo : Lo) : List FnE := q63_f lo :: fs63 lo
def q64_q (F : Int × Int × Int × (List Int) → Option ((List Int))) : FnE := ⟨162, false, ⟨[0, 1, 2, 3], [.ref 0, .i .i64, .i .i64, .i .i64], [.sq (cs [I])], (cs [I, I, I, .l (cs [I])])⟩, .tp [], [.sq (cs [I])], (cs [.l (cs [I])]), F⟩
def q64_J20_b : VCode :=
 (.seq (.seq (.reg [o 73 (.mv (t 1)), o 74 (.bin .gtr (t 73) (k 0)), o 75 (.mv (t 74)), og 76 75 true (.mv (t 0)), og 77 75 true (.mv (t 1)), og 78 75 true (.bin .sub (t 77) (k 1)), og 79 75 true (.iad 1 (t 76) (t 78)), og 80 75 true (.load false 1 (t 79)), og 81 75 true (.mv (t 0)), og 82 75 true (.mv (t 11)), og 83 75 true (.iad 1 (t 81) (t 82)), og 84 75 true (.load false 1 (t 83)), og 85 75 true (.call 183 [(t 80), (t 84)]), og 86 75 true (.not (t 85)), o 87 (.pick (t 75) (t 86) (kb false))])
 (.cond (t 87) (.seq (.reg [o 88 (.mv (t 0)), o 89 (.mv (t 1)), o 90 (.mv (t 2)), o 91 (.mv (t 11)), o 92 (.call 184 [(t 88), (t 89), (t 90), (t 91)]), o 13 (.mv (t 92))])
 (.seq (.reg [o 93 (.mv (t 13)), o 1 (.mv (t 93))])
 (.exit 1)))
 .skip))
 (.seq (.reg [o 95 (.mv (t 0)), o 96 (.mv (t 1)), o 97 (.mv (t 2)), o 98 (.mv (t 11)), o 99 (.call 185 [(t 95), (t 96), (t 97), (t 98)]), o 94 (.mv (t 99)), o 100 (.ext (t 94) 0), o 101 (.ext (t 94) 1), o 14 (.mv (t 100)), o 15 (.mv (t 101))])
 (.seq (.reg [o 102 (.mv (t 15)), o 9 (.mv (t 102))])
 (.seq (.reg [o 103 (.mv (t 14)), o 104 (.mv (t 1)), o 105 (.bin .sub (t 103) (t 104)), o 106 (.mv (t 2)), o 107 (.mv (t 14)), o 108 (.bin .sub (t 106) (t 107)), o 16 (.mv (t 105)), o 17 (.mv (t 108))])
 (.seq (.reg [o 109 (.mv (t 10)), o 110 (.bin .quo (t 109) (k 8)), o 18 (.mv (t 110))])
 (.seq (.reg [o 111 (.mv (t 16)), o 112 (.mv (t 17)), o 113 (.bin .lss (t 111) (t 112))])
 (.cond (t 113) (.seq (.reg [o 114 (.mv (t 16)), o 115 (.mv (t 18)), o 116 (.bin .geq (t 114) (t 115)), o 8 (.mv (t 116))])
 (.seq (.reg [o 117 (.mv (t 0)), o 118 (.mv (t 1)), o 119 (.mv (t 14)), o 120 (.mv (t 3)), o 121 (.call 162 [(t 117), (t 118), (t 119), (t 120)])])
 (.reg [o 122 (.mv (t 14)), o 123 (.bin .add (t 122) (k 1)), o 1 (.mv (t 123))])))
 (.seq (.reg [o 124 (.mv (t 17)), o 125 (.mv (t 18)), o 126 (.bin .geq (t 124) (t 125)), o 8 (.mv (t 126))])
 (.seq (.reg [o 127 (.mv (t 0)), o 128 (.mv (t 14)), o 129 (.bin .add (t 128) (k 1)), o 130 (.mv (t 2)), o 131 (.mv (t 3)), o 132 (.call 162 [(t 127), (t 129), (t 130), (t 131)])])
 (.reg [o 133 (.mv (t 14)), o 2 (.mv (t 133))]))))))))))
def q64_J20_g : Sg := ⟨[0, 1, 2, 3, 8, 9, 10, 11], [.ref 0, .i .i64, .i .i64, .i .i64, .b, .b, .i .i64, .i .i64], [.sq (cs [I])], (cs [I, I, I, .b, .b, I, I, .l (cs [I])])⟩
def q64_J20_o : List Out1 := [⟨.exit 1, ⟨[0, 1, 2, 3, 8, 9], [.ref 0, .i .i64, .i .i64, .i .i64, .b, .b], [.sq (cs [I])], (cs [I, I, I, .b, .b, .l (cs [I])])⟩⟩, ⟨.nor, ⟨[0, 1, 2, 3, 8, 9], [.ref 0, .i .i64, .i .i64, .i .i64, .b, .b], [.sq (cs [I])], (cs [I, I, I, .b, .b, .l (cs [I])])⟩⟩]
def q64_J20 (lo : Lo) (rec : Int × Int × Int × (List Int) → Option ((List Int))) : Int × Int × Int × Bool × Bool × Int × Int × (List Int) → Option ((Int × Int × Int × Bool × Bool × (List Int)) ⊕ (Int × Int × Int × Bool × Bool × (List Int))) := fun x => match x with
  | (a1, b2, limit3, wasBalanced8, wasPartitioned9, length10, pivot11, data0) => bif (decide ((0 : Int) < a1)) then (chk (0 ≤ (IntKind.wrap .i64 (a1 - (1 : Int))) ∧ (IntKind.wrap .i64 (a1 - (1 : Int))) < (data0.length : Int)) (chk (0 ≤ pivot11 ∧ pivot11 < (data0.length : Int)) (Option.bind (q55 lo (data0.getD ((IntKind.wrap .i64 (a1 - (1 : Int))).toNat) (0 : Int)) (data0.getD pivot11.toNat (0 : Int))) fun y194 => bif (!y194) then (Option.bind (q62 lo a1 b2 pivot11 data0) fun y195 => chk (y195.2.length = data0.length) (some (.inl (y195.1, b2, limit3, wasBalanced8, wasPartitioned9, y195.2)))) else (Option.bind (q63 lo a1 b2 pivot11 data0) fun y196 => chk (y196.2.2.length = data0.length) (chk ((8 : Int) ≠ 0) (bif (decide ((IntKind.wrap .i64 (y196.1 - a1)) < (IntKind.wrap .i64 (b2 - y196.1)))) then (Option.bind (rec (a1, y196.1, limit3, y196.2.2)) fun y197 => chk (y197.length = y196.2.2.length) (some (.inr ((IntKind.wrap .i64 (y196.1 + (1 : Int))), b2, limit3, (decide ((IntKind.wrap .i64 (length10.tdiv (8 : Int))) ≤ (IntKind.wrap .i64 (y196.1 - a1)))), y196.2.1, y197)))) else (Option.bind (rec ((IntKind.wrap .i64 (y196.1 + (1 : Int))), b2, limit3, y196.2.2)) fun y198 => chk (y198.length = y196.2.2.length) (some (.inr (a1, y196.1, limit3, (decide ((IntKind.wrap .i64 (length10.tdiv (8 : Int))) ≤ (IntKind.wrap .i64 (b2 - y196.1)))), y196.2.1, y198)))))))))) else (Option.bind (q63 lo a1 b2 pivot11 data0) fun y199 => chk (y199.2.2.length = data0.length) (chk ((8 : Int) ≠ 0) (bif (decide ((IntKind.wrap .i64 (y199.1 - a1)) < (IntKind.wrap .i64 (b2 - y199.1)))) then (Option.bind (rec (a1, y199.1, limit3, y199.2.2)) fun y200 => chk (y200.length = y199.2.2.length) (some (.inr ((IntKind.wrap .i64 (y199.1 + (1 : Int))), b2, limit3, (decide ((IntKind.wrap .i64 (length10.tdiv (8 : Int))) ≤ (IntKind.wrap .i64 (y199.1 - a1)))), y199.2.1, y200)))) else (Option.bind (rec ((IntKind.wrap .i64 (y199.1 + (1 : Int))), b2, limit3, y199.2.2)) fun y201 => chk (y201.length = y199.2.2.length) (some (.inr (a1, y199.1, limit3, (decide ((IntKind.wrap .i64 (length10.tdiv (8 : Int))) ≤ (IntKind.wrap .i64 (b2 - y199.1)))), y199.2.1, y201)))))))
theorem q64_J20_e (lo : Lo) (rec : Int × Int × Int × (List Int) → Option ((List Int))) : ∀ x : Int × Int × Int × Bool × Bool × Int × Int × (List Int), stepJ (⟨pf, q64_q rec :: fs64 lo, [], 1⟩ : Tabs) q64_J20_g q64_J20_o q64_J20_b x = q64_J20 lo rec x := fun x => by kernel_rfl
def q64_J20_p (lo : Lo) (rec : Int × Int × Int × (List Int) → Option ((List Int))) : LpE := ⟨20, [], q64_J20_g, q64_J20_o, q64_J20 lo rec⟩
theorem q64_J20_k {lo : Lo} (hlo : LoOK lo) (rec : Int × Int × Int × (List Int) → Option ((List Int))) (C : Ctx) (hT : TOK (⟨pf, q64_q rec :: fs64 lo, [], 1⟩ : Tabs) C) {Fr : Nat → Prop} {H0 : Heap} (hf : FrOK Fr H0) : LpSound Fr H0 1 C q64_J20_b.er (q64_J20_p lo rec) :=
  jn_sound (T := (⟨pf, q64_q rec :: fs64 lo, [], 1⟩ : Tabs)) hT hf (show LsOK Fr H0 C (⟨pf, q64_q rec :: fs64 lo, [], 1⟩ : Tabs) q64_J20_b from ⟨⟨trivial, ⟨⟨trivial, ⟨trivial, trivial⟩⟩, trivial⟩⟩, ⟨trivial, ⟨trivial, ⟨trivial, ⟨trivial, ⟨trivial, ⟨⟨trivial, ⟨trivial, trivial⟩⟩, ⟨trivial, ⟨trivial, trivial⟩⟩⟩⟩⟩⟩⟩⟩⟩) (fun x y h => (q64_J20_e lo rec x).trans h)
def q64_J25_b : VCode :=
 (.seq (.seq (.reg [o 61 (.mv (t 8)), o 62 (.mv (t 61)), og 63 62 true (.mv (t 9)), o 64 (.pick (t 62) (t 63) (kb false)), o 65 (.mv (t 64)), og 66 65 true (.mv (t 12)), og 67 65 true (.bin .eql (t 66) (k 1)), o 68 (.pick (t 65) (t 67) (kb false))])
 (.cond (t 68) (.seq (.reg [o 69 (.mv (t 0)), o 70 (.mv (t 1)), o 71 (.mv (t 2)), o 72 (.call 182 [(t 69), (t 70), (t 71)])])
 (.cond (t 72) .ret
 .skip))
 .skip))
 (.jn 20 q64_J20_b))
def q64_J25_g : Sg := ⟨[0, 1, 2, 3, 8, 9, 10, 11, 12], [.ref 0, .i .i64, .i .i64, .i .i64, .b, .b, .i .i64, .i .i64, .i .i64], [.sq (cs [I])], (cs [I, I, I, .b, .b, I, I, I, .l (cs [I])])⟩
def q64_J25_o : List Out1 := [⟨.ret, ⟨[], [], [.sq (cs [I])], (cs [.l (cs [I])])⟩⟩, ⟨.exit 1, ⟨[0, 1, 2, 3, 8, 9], [.ref 0, .i .i64, .i .i64, .i .i64, .b, .b], [.sq (cs [I])], (cs [I, I, I, .b, .b, .l (cs [I])])⟩⟩, ⟨.nor, ⟨[0, 1, 2, 3, 8, 9], [.ref 0, .i .i64, .i .i64, .i .i64, .b, .b], [.sq (cs [I])], (cs [I, I, I, .b, .b, .l (cs [I])])⟩⟩]
def q64_J25 (lo : Lo) (rec : Int × Int × Int × (List Int) → Option ((List Int))) : Int × Int × Int × Bool × Bool × Int × Int × Int × (List Int) → Option (((List Int)) ⊕ (Int × Int × Int × Bool × Bool × (List Int)) ⊕ (Int × Int × Int × Bool × Bool × (List Int))) := fun x => match x with
  | (a1, b2, limit3, wasBalanced8, wasPartitioned9, length10, pivot11, hint12, data0) => bif wasBalanced8 then (bif wasPartitioned9 then (bif (decide (hint12 = (1 : Int))) then (Option.bind (q61 lo a1 b2 data0) fun y193 => chk (y193.2.length = data0.length) (bif y193.1 then (some (.inl y193.2)) else (Option.bind (q64_J20 lo rec (a1, b2, limit3, wasBalanced8, wasPartitioned9, length10, pivot11, y193.2)) fun y202 => alt2 y202 (fun y203 => some (.inr (.inl (y203.1, y203.2.1, y203.2.2.1, y203.2.2.2.1, y203.2.2.2.2.1, y203.2.2.2.2.2)))) (fun y204 => some (.inr (.inr (y204.1, y204.2.1, y204.2.2.1, y204.2.2.2.1, y204.2.2.2.2.1, y204.2.2.2.2.2))))))) else (Option.bind (q64_J20 lo rec (a1, b2, limit3, wasBalanced8, wasPartitioned9, length10, pivot11, data0)) fun y205 => alt2 y205 (fun y206 => some (.inr (.inl (y206.1, y206.2.1, y206.2.2.1, y206.2.2.2.1, y206.2.2.2.2.1, y206.2.2.2.2.2)))) (fun y207 => some (.inr (.inr (y207.1, y207.2.1, y207.2.2.1, y207.2.2.2.1, y207.2.2.2.2.1, y207.2.2.2.2.2)))))) else (Option.bind (q64_J20 lo rec (a1, b2, limit3, wasBalanced8, wasPartitioned9, length10, pivot11, data0)) fun y208 => alt2 y208 (fun y209 => some (.inr (.inl (y209.1, y209.2.1, y209.2.2.1, y209.2.2.2.1, y209.2.2.2.2.1, y209.2.2.2.2.2)))) (fun y210 => some (.inr (.inr (y210.1, y210.2.1, y210.2.2.1, y210.2.2.2.1, y210.2.2.2.2.1, y210.2.2.2.2.2)))))) else (Option.bind (q64_J20 lo rec (a1, b2, limit3, wasBalanced8, wasPartitioned9, length10, pivot11, data0)) fun y211 => alt2 y211 (fun y212 => some (.inr (.inl (y212.1, y212.2.1, y212.2.2.1, y212.2.2.2.1, y212.2.2.2.2.1, y212.2.2.2.2.2)))) (fun y213 => some (.inr (.inr (y213.1, y213.2.1, y213.2.2.1, y213.2.2.2.1, y213.2.2.2.2.1, y213.2.2.2.2.2)))))
theorem q64_J25_e (lo : Lo) (rec : Int × Int × Int × (List Int) → Option ((List Int))) : ∀ x : Int × Int × Int × Bool × Bool × Int × Int × Int × (List Int), stepJ (⟨pf, q64_q rec :: fs64 lo, [q64_J20_p lo rec], 1⟩ : Tabs) q64_J25_g q64_J25_o q64_J25_b x = q64_J25 lo rec x := fun x => by kernel_rfl
def q64_J25_p (lo : Lo) (rec : Int × Int × Int × (List Int) → Option ((List Int))) : LpE := ⟨25, [], q64_J25_g, q64_J25_o, q64_J25 lo rec⟩
theorem q64_J25_k {lo : Lo} (hlo : LoOK lo) (rec : Int × Int × Int × (List Int) → Option ((List Int))) (C : Ctx) (hT : TOK (⟨pf, q64_q rec :: fs64 lo, [q64_J20_p lo rec], 1⟩ : Tabs) C) {Fr : Nat → Prop} {H0 : Heap} (hf : FrOK Fr H0) : LpSound Fr H0 1 C q64_J25_b.er (q64_J25_p lo rec) :=
  jn_sound (T := (⟨pf, q64_q rec :: fs64 lo, [q64_J20_p lo rec], 1⟩ : Tabs)) hT hf (show LsOK Fr H0 C (⟨pf, q64_q rec :: fs64 lo, [q64_J20_p lo rec], 1⟩ : Tabs) q64_J25_b from ⟨⟨trivial, ⟨⟨trivial, ⟨trivial, trivial⟩⟩, trivial⟩⟩, (lsGet (by kernel_rfl) (q64_J20_k hlo rec C (tok_ls hT) hf))⟩) (fun x y h => (q64_J25_e lo rec x).trans h)
def q64_J30_b : VCode :=
 (.seq (.reg [o 43 (.mv (t 0)), o 44 (.mv (t 1)), o 45 (.mv (t 2)), o 46 (.call 180 [(t 43), (t 44), (t 45)]), o 42 (.mv (t 46)), o 47 (.ext (t 42) 0), o 48 (.ext (t 42) 1), o 11 (.mv (t 47)), o 12 (.mv (t 48))])
 (.seq (.seq (.reg [o 49 (.mv (t 12)), o 50 (.bin .eql (t 49) (k 2))])
 (.cond (t 50) (.seq (.reg [o 51 (.mv (t 0)), o 52 (.mv (t 1)), o 53 (.mv (t 2)), o 54 (.call 181 [(t 51), (t 52), (t 53)])])
 (.seq (.reg [o 55 (.mv (t 2)), o 56 (.bin .sub (t 55) (k 1)), o 57 (.mv (t 11)), o 58 (.mv (t 1)), o 59 (.bin .sub (t 57) (t 58)), o 60 (.bin .sub (t 56) (t 59)), o 11 (.mv (t 60))])
 (.reg [o 12 (.mv (k 1))])))
 .skip))
 (.jn 25 q64_J25_b)))
def q64_J30_g : Sg := ⟨[0, 1, 2, 3, 8, 9, 10], [.ref 0, .i .i64, .i .i64, .i .i64, .b, .b, .i .i64], [.sq (cs [I])], (cs [I, I, I, .b, .b, I, .l (cs [I])])⟩
def q64_J30_o : List Out1 := [⟨.ret, ⟨[], [], [.sq (cs [I])], (cs [.l (cs [I])])⟩⟩, ⟨.exit 1, ⟨[0, 1, 2, 3, 8, 9], [.ref 0, .i .i64, .i .i64, .i .i64, .b, .b], [.sq (cs [I])], (cs [I, I, I, .b, .b, .l (cs [I])])⟩⟩, ⟨.nor, ⟨[0, 1, 2, 3, 8, 9], [.ref 0, .i .i64, .i .i64, .i .i64, .b, .b], [.sq (cs [I])], (cs [I, I, I, .b, .b, .l (cs [I])])⟩⟩]
def q64_J30 (lo : Lo) (rec : Int × Int × Int × (List Int) → Option ((List Int))) : Int × Int × Int × Bool × Bool × Int × (List Int) → Option (((List Int)) ⊕ (Int × Int × Int × Bool × Bool × (List Int)) ⊕ (Int × Int × Int × Bool × Bool × (List Int))) := fun x => match x with
  | (a1, b2, limit3, wasBalanced8, wasPartitioned9, length10, data0) => Option.bind (q59 lo data0 a1 b2) fun y191 => bif (decide (y191.2 = (2 : Int))) then (Option.bind (q60 lo a1 b2 data0) fun y192 => chk (y192.length = data0.length) (Option.bind (q64_J25 lo rec (a1, b2, limit3, wasBalanced8, wasPartitioned9, length10, (IntKind.wrap .i64 ((IntKind.wrap .i64 (b2 - (1 : Int))) - (IntKind.wrap .i64 (y191.1 - a1)))), (1 : Int), y192)) fun y214 => alt2 y214 (fun y215 => some (.inl y215)) (fun y216 => alt2 y216 (fun y217 => some (.inr (.inl (y217.1, y217.2.1, y217.2.2.1, y217.2.2.2.1, y217.2.2.2.2.1, y217.2.2.2.2.2)))) (fun y218 => some (.inr (.inr (y218.1, y218.2.1, y218.2.2.1, y218.2.2.2.1, y218.2.2.2.2.1, y218.2.2.2.2.2))))))) else (Option.bind (q64_J25 lo rec (a1, b2, limit3, wasBalanced8, wasPartitioned9, length10, y191.1, y191.2, data0)) fun y219 => alt2 y219 (fun y220 => some (.inl y220)) (fun y221 => alt2 y221 (fun y222 => some (.inr (.inl (y222.1, y222.2.1, y222.2.2.1, y222.2.2.2.1, y222.2.2.2.2.1, y222.2.2.2.2.2)))) (fun y223 => some (.inr (.inr (y223.1, y223.2.1, y223.2.2.1, y223.2.2.2.1, y223.2.2.2.2.1, y223.2.2.2.2.2))))))
theorem q64_J30_e (lo : Lo) (rec : Int × Int × Int × (List Int) → Option ((List Int))) : ∀ x : Int × Int × Int × Bool × Bool × Int × (List Int), stepJ (⟨pf, q64_q rec :: fs64 lo, [q64_J25_p lo rec, q64_J20_p lo rec], 1⟩ : Tabs) q64_J30_g q64_J30_o q64_J30_b x = q64_J30 lo rec x := fun x => by kernel_rfl
def q64_J30_p (lo : Lo) (rec : Int × Int × Int × (List Int) → Option ((List Int))) : LpE := ⟨30, [], q64_J30_g, q64_J30_o, q64_J30 lo rec⟩
theorem q64_J30_k {lo : Lo} (hlo : LoOK lo) (rec : Int × Int × Int × (List Int) → Option ((List Int))) (C : Ctx) (hT : TOK (⟨pf, q64_q rec :: fs64 lo, [q64_J25_p lo rec, q64_J20_p lo rec], 1⟩ : Tabs) C) {Fr : Nat → Prop} {H0 : Heap} (hf : FrOK Fr H0) : LpSound Fr H0 1 C q64_J30_b.er (q64_J30_p lo rec) :=
  jn_sound (T := (⟨pf, q64_q rec :: fs64 lo, [q64_J25_p lo rec, q64_J20_p lo rec], 1⟩ : Tabs)) hT hf (show LsOK Fr H0 C (⟨pf, q64_q rec :: fs64 lo, [q64_J25_p lo rec, q64_J20_p lo rec], 1⟩ : Tabs) q64_J30_b from ⟨trivial, ⟨⟨trivial, ⟨⟨trivial, ⟨trivial, trivial⟩⟩, trivial⟩⟩, (lsGet (by kernel_rfl) (q64_J25_k hlo rec C (tok_ls hT) hf))⟩⟩) (fun x y h => (q64_J30_e lo rec x).trans h)
def q64_L1_b : VCode :=
 (.blk 1 (.seq (.reg [o 19 (.mv (t 2)), o 20 (.mv (t 1)), o 21 (.bin .sub (t 19) (t 20)), o 10 (.mv (t 21))])
 (.seq (.seq (.reg [o 22 (.mv (t 10)), o 23 (.bin .leq (t 22) (k 12))])
 (.cond (t 23) (.seq (.reg [o 24 (.mv (t 0)), o 25 (.mv (t 1)), o 26 (.mv (t 2)), o 27 (.call 177 [(t 24), (t 25), (t 26)])])
 .ret)
 .skip))
 (.seq (.seq (.reg [o 28 (.mv (t 3)), o 29 (.bin .eql (t 28) (k 0))])
 (.cond (t 29) (.seq (.reg [o 30 (.mv (t 0)), o 31 (.mv (t 1)), o 32 (.mv (t 2)), o 33 (.call 178 [(t 30), (t 31), (t 32)])])
 .ret)
 .skip))
 (.seq (.seq (.reg [o 34 (.mv (t 8)), o 35 (.not (t 34))])
 (.cond (t 35) (.seq (.reg [o 36 (.mv (t 0)), o 37 (.mv (t 1)), o 38 (.mv (t 2)), o 39 (.call 179 [(t 36), (t 37), (t 38)])])
 (.reg [o 40 (.mv (t 3)), o 41 (.bin .sub (t 40) (k 1)), o 3 (.mv (t 41))]))
 .skip))
 (.jn 30 q64_J30_b))))))
def q64_L1_g : Sg := ⟨[0, 1, 2, 3, 8, 9], [.ref 0, .i .i64, .i .i64, .i .i64, .b, .b], [.sq (cs [I])], (cs [I, I, I, .b, .b, .l (cs [I])])⟩
def q64_L1_o : List Out1 := [⟨.ret, ⟨[], [], [.sq (cs [I])], (cs [.l (cs [I])])⟩⟩]
def q64_L1_s (lo : Lo) (rec : Int × Int × Int × (List Int) → Option ((List Int))) : Int × Int × Int × Bool × Bool × (List Int) → Option ((Int × Int × Int × Bool × Bool × (List Int)) ⊕ (((List Int)))) := fun x => match x with
  | (a1, b2, limit3, wasBalanced8, wasPartitioned9, data0) => bif (decide ((IntKind.wrap .i64 (b2 - a1)) ≤ (12 : Int))) then (Option.bind (q56 lo a1 b2 data0) fun y188 => chk (y188.length = data0.length) (some (.inr y188))) else (bif (decide (limit3 = (0 : Int))) then (Option.bind (q57 lo a1 b2 data0) fun y189 => chk (y189.length = data0.length) (some (.inr y189))) else (bif (!wasBalanced8) then (Option.bind (q58 lo a1 b2 data0) fun y190 => chk (y190.length = data0.length) (Option.bind (q64_J30 lo rec (a1, b2, (IntKind.wrap .i64 (limit3 - (1 : Int))), wasBalanced8, wasPartitioned9, (IntKind.wrap .i64 (b2 - a1)), y190)) fun y224 => alt2 y224 (fun y225 => some (.inr y225)) (fun y226 => alt2 y226 (fun y227 => some (.inl (y227.1, y227.2.1, y227.2.2.1, y227.2.2.2.1, y227.2.2.2.2.1, y227.2.2.2.2.2))) (fun y228 => some (.inl (y228.1, y228.2.1, y228.2.2.1, y228.2.2.2.1, y228.2.2.2.2.1, y228.2.2.2.2.2)))))) else (Option.bind (q64_J30 lo rec (a1, b2, limit3, wasBalanced8, wasPartitioned9, (IntKind.wrap .i64 (b2 - a1)), data0)) fun y229 => alt2 y229 (fun y230 => some (.inr y230)) (fun y231 => alt2 y231 (fun y232 => some (.inl (y232.1, y232.2.1, y232.2.2.1, y232.2.2.2.1, y232.2.2.2.2.1, y232.2.2.2.2.2))) (fun y233 => some (.inl (y233.1, y233.2.1, y233.2.2.1, y233.2.2.2.1, y233.2.2.2.2.1, y233.2.2.2.2.2)))))))
theorem q64_L1_e (lo : Lo) (rec : Int × Int × Int × (List Int) → Option ((List Int))) : ∀ x : Int × Int × Int × Bool × Bool × (List Int), stepL (⟨pf, q64_q rec :: fs64 lo, [q64_J30_p lo rec, q64_J25_p lo rec, q64_J20_p lo rec], 1⟩ : Tabs) [] q64_L1_g q64_L1_o q64_L1_b x = q64_L1_s lo rec x := fun x => by kernel_rfl
def q64_L1 (lo : Lo) (rec : Int × Int × Int × (List Int) → Option ((List Int))) : Int × Int × Int × Bool × Bool × (List Int) → Option (((List Int))) := lo.run (q64_L1_s lo rec)
def q64_L1_p (lo : Lo) (rec : Int × Int × Int × (List Int) → Option ((List Int))) : LpE := ⟨1, [], q64_L1_g, q64_L1_o, q64_L1 lo rec⟩
theorem q64_L1_k {lo : Lo} (hlo : LoOK lo) (rec : Int × Int × Int × (List Int) → Option ((List Int))) (C : Ctx) (hT : TOK (⟨pf, q64_q rec :: fs64 lo, [q64_J30_p lo rec, q64_J25_p lo rec, q64_J20_p lo rec], 1⟩ : Tabs) C) {Fr : Nat → Prop} {H0 : Heap} (hf : FrOK Fr H0) : LpSound Fr H0 1 C (.loop q64_L1_b.er) (q64_L1_p lo rec) :=
  loop_sound (T := (⟨pf, q64_q rec :: fs64 lo, [q64_J30_p lo rec, q64_J25_p lo rec, q64_J20_p lo rec], 1⟩ : Tabs)) hT hf (show LsOK Fr H0 C (⟨pf, q64_q rec :: fs64 lo, [q64_J30_p lo rec, q64_J25_p lo rec, q64_J20_p lo rec], 1⟩ : Tabs) q64_L1_b from ⟨trivial, ⟨⟨trivial, ⟨⟨trivial, trivial⟩, trivial⟩⟩, ⟨⟨trivial, ⟨⟨trivial, trivial⟩, trivial⟩⟩, ⟨⟨trivial, ⟨⟨trivial, trivial⟩, trivial⟩⟩, (lsGet (by kernel_rfl) (q64_J30_k hlo rec C (tok_ls hT) hf))⟩⟩⟩⟩) (fun x y h => loopO_congr (q64_L1_e lo rec) (hlo _ _ _ h))
def q64_r (lo : Lo) (rec : Int × Int × Int × (List Int) → Option ((List Int))) (a1 : Int) (b2 : Int) (limit3 : Int) (data0 : List Int) : Option ((List Int)) :=
  Option.bind (q64_L1 lo rec (a1, b2, limit3, true, true, data0)) fun y234 => some y234
def q64_n (lo : Lo) : Nat → Int × Int × Int × (List Int) → Option ((List Int))
  | 0, _ => none
  | n + 1, x => q64_r lo (q64_n lo n) x.1 x.2.1 x.2.2.1 x.2.2.2
def q64 (lo : Lo) (a1 : Int) (b2 : Int) (limit3 : Int) (data0 : List Int) : Option ((List Int)) := lo.run (fixS (q64_n lo)) (0, (a1, b2, limit3, data0))
def q64_c : VCode :=
 (.seq (.reg [o 8 (.mv (kb true))])
 (.seq (.reg [o 9 (.mv (kb true))])
 (.blk 0 (.loop 1 q64_L1_b))))
def q64_F : VFn := ⟨true, 134, [], q64_c⟩
def q64_f (lo : Lo) : FnE := ⟨162, false, ⟨[0, 1, 2, 3], [.ref 0, .i .i64, .i .i64, .i .i64], [.sq (cs [I])], (cs [I, I, I, .l (cs [I])])⟩, .tp [], [.sq (cs [I])], (cs [.l (cs [I])]), (fun x => q64 lo x.1 x.2.1 x.2.2.1 x.2.2.2 : Int × Int × Int × (List Int) → Option ((List Int)))⟩
theorem q64_e (lo : Lo) (rec : Int × Int × Int × (List Int) → Option ((List Int))) : ∀ x : Int × Int × Int × (List Int), evI (⟨pf, q64_q rec :: fs64 lo, [q64_L1_p lo rec, q64_J30_p lo rec, q64_J25_p lo rec, q64_J20_p lo rec], 1⟩ : Tabs) q64_F ⟨[0, 1, 2, 3], [.ref 0, .i .i64, .i .i64, .i .i64], [.sq (cs [I])], (cs [I, I, I, .l (cs [I])])⟩ (.tp []) [.sq (cs [I])] (cs [.l (cs [I])]) x = q64_r lo rec x.1 x.2.1 x.2.2.1 x.2.2.2 := fun x => by kernel_rfl
theorem q64_S {P : Program} {fm : FM} {lo : Lo} (hlo : LoOK lo) (hS : Sound P fm ⟨pf, fs64 lo, [], 0⟩) (hm : P.follows .mixedOrders = true) (htie : ∀ f, fm f = 162 → fnTr P fm pf f = some (q64_F.slots, q64_F.res, q64_F.code.er)) : Sound P fm ⟨pf, q64_f lo :: fs64 lo, [], 0⟩ :=
  fnI_rec hS hm (q64_f lo) rfl (q64_n lo) (fun n => (fun (rec : Int × Int × Int × (List Int) → Option ((List Int))) => ([q64_L1_p lo rec, q64_J30_p lo rec, q64_J25_p lo rec, q64_J20_p lo rec] : List LpE)) (q64_n lo n)) q64_F htie (by decide) rfl (Nat.le_of_ble_eq_true (by kernel_rfl)) (fun _ => rfl) (fun x y h => fix_lim (hlo _ _ _ h))
    (fun n C hT Fr H0 hf => (fun (rec : Int × Int × Int × (List Int) → Option ((List Int))) (hT : TOK (⟨pf, q64_q rec :: fs64 lo, [q64_L1_p lo rec, q64_J30_p lo rec, q64_J25_p lo rec, q64_J20_p lo rec], 1⟩ : Tabs) C) => show LsOK Fr H0 C (⟨pf, q64_q rec :: fs64 lo, [q64_L1_p lo rec, q64_J30_p lo rec, q64_J25_p lo rec, q64_J20_p lo rec], 1⟩ : Tabs) q64_c from ⟨trivial, ⟨trivial, (lsGet (by kernel_rfl) (q64_L1_k hlo rec C (tok_ls hT) hf))⟩⟩) (q64_n lo n) hT) (fun n x y h => (q64_e lo (q64_n lo n) x).trans h)
def fs65 (lo : Lo) : List FnE := q64_f lo :: fs64 lo
def q65 (lo : Lo) (x0 : List Int) : Option ((List Int)) :=
  Option.bind (q53 lo (IntKind.wrap .u64 (x0.length : Int))) fun y182 => Option.bind (q64 lo (0 : Int) (x0.length : Int) y182 x0) fun y235 => chk (y235.length = x0.length) (some y235)
def q65_c : VCode :=
 (.seq (.reg [o 3 (.mv (t 0)), o 4 (.len (t 3)), o 2 (.mv (t 4))])
 (.reg [o 5 (.mv (t 0)), o 6 (.mv (t 2)), o 7 (.mv (t 2)), o 8 (.conv .u64 (t 7)), o 9 (.call 163 [(t 8)]), o 10 (.call 162 [(t 5), (k 0), (t 6), (t 9)])]))
def q65_F : VFn := ⟨true, 11, [], q65_c⟩
def q65_f (lo : Lo) : FnE := ⟨147, false, ⟨[0], [.ref 0], [.sq (cs [I])], (cs [.l (cs [I])])⟩, .tp [], [.sq (cs [I])], (cs [.l (cs [I])]), (fun x => q65 lo x : (List Int) → Option ((List Int)))⟩
theorem q65_e (lo : Lo) : ∀ x : (List Int), evI (⟨pf, fs65 lo, [], 1⟩ : Tabs) q65_F ⟨[0], [.ref 0], [.sq (cs [I])], (cs [.l (cs [I])])⟩ (.tp []) [.sq (cs [I])] (cs [.l (cs [I])]) x = q65 lo x := fun x => by kernel_rfl
theorem q65_S {P : Program} {fm : FM} {lo : Lo} (hlo : LoOK lo) (hS : Sound P fm ⟨pf, fs65 lo, [], 0⟩) (hm : P.follows .mixedOrders = true) (htie : ∀ f, fm f = 147 → fnTr P fm pf f = some (q65_F.slots, q65_F.res, q65_F.code.er)) : Sound P fm ⟨pf, q65_f lo :: fs65 lo, [], 0⟩ :=
  fnI_sound hS hm [] (q65_f lo) rfl q65_F htie (by decide) rfl (Nat.le_of_ble_eq_true (by kernel_rfl)) (fun C hT Fr H0 hf => show LsOK Fr H0 C (⟨pf, fs65 lo, [], 1⟩ : Tabs) q65_c from ⟨trivial, trivial⟩) (fun x y h => (q65_e lo x).trans h)
def fs66 (lo : Lo) : List FnE := q65_f lo :: fs65 lo
def q66 (lo : Lo) (l : List Int) : Option (List Int) := vsortI (q65 lo) l
def q66_f (lo : Lo) : FnE := vsortE 147 (.cons (.i .i64) .nil) (q66 lo)
theorem q66_S {P : Program} {fm : FM} {lo : Lo} (hlo : LoOK lo) (hS : Sound P fm ⟨pf, fs66 lo, [], 0⟩) (hm : P.follows .mixedOrders = true) (hG : ∀ f, fm f = 147 → callable P f = true ∧ ∃ ρ : Go.Shelf.Ren, Go.Proofs.Lays.n189 P ρ ∧ ρ.f 189 = f) : Sound P fm ⟨pf, q66_f lo :: fs66 lo, [], 0⟩ :=
  vsortI_sound hS rfl (F0 := q65 lo) (List.mem_cons_self ..) hG
def fs67 (lo : Lo) : List FnE := q66_f lo :: fs66 lo
def q67 (lo : Lo) (l : List Int) : Option (List Int) := vcmpI l
def q67_f (lo : Lo) : FnE := vcompE 148
theorem q67_S {P : Program} {fm : FM} {lo : Lo} (hlo : LoOK lo) (hS : Sound P fm ⟨pf, fs67 lo, [], 0⟩) (hm : P.follows .mixedOrders = true) (hG : ∀ f, fm f = 148 → callable P f = true ∧ ∃ ρ : Go.Shelf.Ren, Go.Proofs.Lays2.n20 P ρ ∧ ρ.f 20 = f) : Sound P fm ⟨pf, q67_f lo :: fs67 lo, [], 0⟩ :=
  vcmp_sound hS rfl hG
def fs68 (lo : Lo) : List FnE := q67_f lo :: fs67 lo
def q68_L4_b : VCode :=
 (.seq (.reg [o 9 (.bin .lss (t 8) (t 7))])
 (.seq (.cond (t 9) .skip
 (.exit 0))
 (.seq (.blk 1 (.seq (.reg [o 10 (.iad 4 (t 6) (t 8)), o 11 (.load true 4 (t 10)), o 5 (.alloc [.i .i64 0, .e (cs [I]), .i .u32 0, .i .u32 0]), on (.store 4 (t 5) (t 11))])
 (.seq (.reg [o 12 (.fad 0 (t 5)), o 13 (.load false 1 (t 12)), o 14 (.bin .eql (t 13) (k 1)), o 15 (.mv (t 14)), og 16 15 true (.fad 1 (t 5)), og 17 15 true (.load false 1 (t 16)), og 18 15 true (.len (t 17)), og 19 15 true (.bin .eql (t 18) (k 1)), o 20 (.pick (t 15) (t 19) (kb false))])
 (.cond (t 20) (.reg [o 21 (.mv (t 3)), o 22 (.fad 1 (t 5)), o 23 (.load false 1 (t 22)), o 24 (.iad 1 (t 23) (k 0)), o 25 (.load false 1 (t 24)), o 26 (.bsl (cs [I]) 1 [(0, (t 25))]), o 27 (.app (cs [I]) 0 (t 21) (t 26)), o 3 (.mv (t 27))])
 .skip))))
 (.reg [o 28 (.bin .add (t 8) (k 1)), o 8 (.mv (t 28))]))))
def q68_L4_g : Sg := ⟨[3, 6, 7, 8], [.ref 0, .l (cs [I, .l (cs [I]), .i .u32, .i .u32]), .i .i64, .i .i64], [.sq (cs [I])], (cs [.l (cs [I, .l (cs [I]), .i .u32, .i .u32]), I, I, .l (cs [I])])⟩
def q68_L4_o : List Out1 := [⟨.exit 0, ⟨[3], [.ref 0], [.sq (cs [I])], (cs [.l (cs [I])])⟩⟩]
def q68_L4_s (lo : Lo) : (List (Int × (List Int) × Int × Int)) × Int × Int × (List Int) → Option (((List (Int × (List Int) × Int × Int)) × Int × Int × (List Int)) ⊕ (((List Int)))) := fun x => match x with
  | (v6, v7, v8, out3) => bif (decide (v8 < v7)) then (chk (0 ≤ v8 ∧ v8 < (v6.length : Int)) (bif (decide ((v6.getD v8.toNat ((0 : Int), [], (0 : Int), (0 : Int))).1 = (1 : Int))) then (bif (decide ((((v6.getD v8.toNat ((0 : Int), [], (0 : Int), (0 : Int))).2.1).length : Int) = (1 : Int))) then (chk (0 ≤ (0 : Int) ∧ (0 : Int) < (((v6.getD v8.toNat ((0 : Int), [], (0 : Int), (0 : Int))).2.1).length : Int)) (chk (out3.length + ([(((v6.getD v8.toNat ((0 : Int), [], (0 : Int), (0 : Int))).2.1).getD 0 (0 : Int))]).length ≤ maxEl) (some (.inl (v6, v7, (IntKind.wrap .i64 (v8 + (1 : Int))), (out3 ++ ([(((v6.getD v8.toNat ((0 : Int), [], (0 : Int), (0 : Int))).2.1).getD 0 (0 : Int))]))))))) else (some (.inl (v6, v7, (IntKind.wrap .i64 (v8 + (1 : Int))), out3)))) else (some (.inl (v6, v7, (IntKind.wrap .i64 (v8 + (1 : Int))), out3))))) else (some (.inr out3))
theorem q68_L4_e (lo : Lo) : ∀ x : (List (Int × (List Int) × Int × Int)) × Int × Int × (List Int), stepL (⟨pf, fs68 lo, [], 0⟩ : Tabs) [(3, none, false)] q68_L4_g q68_L4_o q68_L4_b x = q68_L4_s lo x := fun x => by kernel_rfl
def q68_L4 (lo : Lo) : (List (Int × (List Int) × Int × Int)) × Int × Int × (List Int) → Option (((List Int))) := lo.run (q68_L4_s lo)
def q68_L4_p (lo : Lo) : LpE := ⟨4, [(3, none, false)], q68_L4_g, q68_L4_o, q68_L4 lo⟩
theorem q68_L4_k {lo : Lo} (hlo : LoOK lo) (C : Ctx) (hT : TOK (⟨pf, fs68 lo, [], 0⟩ : Tabs) C) : LpSound (fun _ => False) [] 0 C (.loop q68_L4_b.er) (q68_L4_p lo) :=
  loop_sound (T := (⟨pf, fs68 lo, [], 0⟩ : Tabs)) hT frNo (show LsOK (fun _ => False) [] C (⟨pf, fs68 lo, [], 0⟩ : Tabs) q68_L4_b from ⟨trivial, ⟨⟨trivial, trivial⟩, ⟨⟨trivial, ⟨trivial, ⟨trivial, trivial⟩⟩⟩, trivial⟩⟩⟩) (fun x y h => loopO_congr (q68_L4_e lo) (hlo _ _ _ h))
def q68 (lo : Lo) (steps0 : List (Int × (List Int) × Int × Int)) : Option ((List Int)) :=
  Option.bind (q68_L4 lo (steps0, (steps0.length : Int), (0 : Int), [])) fun y180 => Option.bind (q66 lo y180) fun y236 => chk (y236.length = y180.length) (Option.bind (q67 lo y236) fun y237 => some y237)
def q68_c : VCode :=
 (.seq (.reg [o 2 (.mv (ke (cs [I])))])
 (.seq (.reg [o 3 (.mv (ke (cs [I])))])
 (.seq (.seq (.reg [o 6 (.mv (t 0)), o 7 (.len (t 6)), o 8 (.mv (k 0))])
 (.blk 0 (.loop 4 q68_L4_b)))
 (.seq (.reg [o 29 (.mv (t 3)), o 30 (.call 147 [(t 29)])])
 (.seq (.reg [o 31 (.mv (t 3)), o 32 (.call 148 [(t 31)]), o 2 (.mv (t 32))])
 (.fz [2] .ret))))))
def q68_F : VFn := ⟨true, 33, [.t 2], q68_c⟩
def q68_f (lo : Lo) : FnE := ⟨122, true, ⟨[0], [.l (cs [I, .l (cs [I]), .i .u32, .i .u32])], [], (cs [.l (cs [I, .l (cs [I]), .i .u32, .i .u32])])⟩, .l (cs [I]), [], (cs [.l (cs [I])]), (fun x => q68 lo x : (List (Int × (List Int) × Int × Int)) → Option ((List Int)))⟩
theorem q68_e (lo : Lo) : ∀ x : (List (Int × (List Int) × Int × Int)), evP (⟨pf, fs68 lo, [q68_L4_p lo], 0⟩ : Tabs) q68_F ⟨[0], [.l (cs [I, .l (cs [I]), .i .u32, .i .u32])], [], (cs [.l (cs [I, .l (cs [I]), .i .u32, .i .u32])])⟩ (.l (cs [I])) (cs [.l (cs [I])]) x = q68 lo x := fun x => by kernel_rfl
theorem q68_S {P : Program} {fm : FM} {lo : Lo} (hlo : LoOK lo) (hS : Sound P fm ⟨pf, fs68 lo, [], 0⟩) (hm : P.follows .mixedOrders = true) (htie : ∀ f, fm f = 122 → fnTr P fm pf f = some (q68_F.slots, q68_F.res, q68_F.code.er)) : Sound P fm ⟨pf, q68_f lo :: fs68 lo, [], 0⟩ :=
  fn_sound hS hm [q68_L4_p lo] (q68_f lo) rfl q68_F htie (by decide) rfl (Nat.le_of_ble_eq_true (by kernel_rfl)) (fun C hT => show LsOK (fun _ => False) [] C (⟨pf, fs68 lo, [q68_L4_p lo], 0⟩ : Tabs) q68_c from ⟨trivial, ⟨trivial, ⟨⟨trivial, (lsGet (by kernel_rfl) (q68_L4_k hlo C (tok_ls hT)))⟩, ⟨trivial, ⟨trivial, trivial⟩⟩⟩⟩⟩) (fun x y h => (q68_e lo x).trans h)
def fs69 (lo : Lo) : List FnE := q68_f lo :: fs68 lo
end Go.Abs.G12
namespace Go.Abs.G12
open Go Go.Abs
set_option maxRecDepth 100000
set_option linter.unusedVariables false
set_option maxHeartbeats 1000000
def q69_L14_b : VCode :=
 (.seq (.seq (.reg [o 37 (.mv (t 7)), o 38 (.mv (t 3)), o 39 (.len (t 38)), o 40 (.bin .lss (t 37) (t 39))])
 (.cond (t 40) .skip
 (.exit 2)))
 (.seq (.blk 3 (.reg [o 43 (.mv (t 6)), o 44 (.mv (t 43)), og 45 44 false (.mv (t 3)), og 46 44 false (.mv (t 7)), og 47 44 false (.iad 1 (t 45) (t 46)), og 48 44 false (.load false 1 (t 47)), og 49 44 false (.mv (t 5)), og 50 44 false (.bin .eql (t 48) (t 49)), o 51 (.pick (t 44) (kb true) (t 50)), o 6 (.mv (t 51))]))
 (.reg [o 41 (.mv (t 7)), o 42 (.bin .add (t 41) (k 1)), o 7 (.mv (t 42))])))
def q69_L14_g : Sg := ⟨[0, 3, 4, 5, 6, 7], [.l (cs [I, .l (cs [I]), .i .u32, .i .u32]), .ref 0, .i .i64, .i .i64, .b, .i .i64], [.sq (cs [I])], (cs [.l (cs [I, .l (cs [I]), .i .u32, .i .u32]), I, I, .b, I, .l (cs [I])])⟩
def q69_L14_o : List Out1 := [⟨.exit 2, ⟨[0, 3, 4, 5, 6], [.l (cs [I, .l (cs [I]), .i .u32, .i .u32]), .ref 0, .i .i64, .i .i64, .b], [.sq (cs [I])], (cs [.l (cs [I, .l (cs [I]), .i .u32, .i .u32]), I, I, .b, .l (cs [I])])⟩⟩]
def q69_L14_s (lo : Lo) : (List (Int × (List Int) × Int × Int)) × Int × Int × Bool × Int × (List Int) → Option (((List (Int × (List Int) × Int × Int)) × Int × Int × Bool × Int × (List Int)) ⊕ (((List (Int × (List Int) × Int × Int)) × Int × Int × Bool × (List Int)))) := fun x => match x with
  | (steps0, i4, n5, known6, k7, out3) => bif (decide (k7 < (out3.length : Int))) then (bif known6 then (some (.inl (steps0, i4, n5, true, (IntKind.wrap .i64 (k7 + (1 : Int))), out3))) else (chk (0 ≤ k7 ∧ k7 < (out3.length : Int)) (some (.inl (steps0, i4, n5, (decide (out3.getD k7.toNat (0 : Int) = n5)), (IntKind.wrap .i64 (k7 + (1 : Int))), out3))))) else (some (.inr (steps0, i4, n5, known6, out3)))
theorem q69_L14_e (lo : Lo) : ∀ x : (List (Int × (List Int) × Int × Int)) × Int × Int × Bool × Int × (List Int), stepL (⟨pf, fs69 lo, [], 0⟩ : Tabs) [] q69_L14_g q69_L14_o q69_L14_b x = q69_L14_s lo x := fun x => by kernel_rfl
def q69_L14 (lo : Lo) : (List (Int × (List Int) × Int × Int)) × Int × Int × Bool × Int × (List Int) → Option (((List (Int × (List Int) × Int × Int)) × Int × Int × Bool × (List Int))) := lo.run (q69_L14_s lo)
def q69_L14_p (lo : Lo) : LpE := ⟨14, [], q69_L14_g, q69_L14_o, q69_L14 lo⟩
theorem q69_L14_k {lo : Lo} (hlo : LoOK lo) (C : Ctx) (hT : TOK (⟨pf, fs69 lo, [], 0⟩ : Tabs) C) : LpSound (fun _ => False) [] 0 C (.loop q69_L14_b.er) (q69_L14_p lo) :=
  loop_sound (T := (⟨pf, fs69 lo, [], 0⟩ : Tabs)) hT frNo (show LsOK (fun _ => False) [] C (⟨pf, fs69 lo, [], 0⟩ : Tabs) q69_L14_b from ⟨⟨trivial, ⟨trivial, trivial⟩⟩, ⟨trivial, trivial⟩⟩) (fun x y h => loopO_congr (q69_L14_e lo) (hlo _ _ _ h))
def q69_L5_b : VCode :=
 (.seq (.seq (.reg [o 60 (.mv (t 8)), o 61 (.bin .gtr (t 60) (k 0)), o 62 (.mv (t 61)), og 63 62 true (.mv (t 3)), og 64 62 true (.mv (t 8)), og 65 62 true (.iad 1 (t 63) (t 64)), og 66 62 true (.load false 1 (t 65)), og 67 62 true (.mv (t 3)), og 68 62 true (.mv (t 8)), og 69 62 true (.bin .sub (t 68) (k 1)), og 70 62 true (.iad 1 (t 67) (t 69)), og 71 62 true (.load false 1 (t 70)), og 72 62 true (.bin .lss (t 66) (t 71)), o 73 (.pick (t 62) (t 72) (kb false))])
 (.cond (t 73) .skip
 (.exit 4)))
 (.seq (.blk 5 (.reg [o 76 (.mv (t 3)), o 77 (.mv (t 8)), o 78 (.mv (t 3)), o 79 (.mv (t 8)), o 80 (.bin .sub (t 79) (k 1)), o 81 (.mv (t 3)), o 82 (.mv (t 8)), o 83 (.bin .sub (t 82) (k 1)), o 84 (.iad 1 (t 81) (t 83)), o 85 (.load false 1 (t 84)), o 86 (.mv (t 3)), o 87 (.mv (t 8)), o 88 (.iad 1 (t 86) (t 87)), o 89 (.load false 1 (t 88)), o 90 (.iad 1 (t 76) (t 77)), on (.store 1 (t 90) (t 85)), o 91 (.iad 1 (t 78) (t 80)), on (.store 1 (t 91) (t 89))]))
 (.reg [o 74 (.mv (t 8)), o 75 (.bin .sub (t 74) (k 1)), o 8 (.mv (t 75))])))
def q69_L5_g : Sg := ⟨[0, 3, 4, 8], [.l (cs [I, .l (cs [I]), .i .u32, .i .u32]), .ref 0, .i .i64, .i .i64], [.sq (cs [I])], (cs [.l (cs [I, .l (cs [I]), .i .u32, .i .u32]), I, I, .l (cs [I])])⟩
def q69_L5_o : List Out1 := [⟨.exit 4, ⟨[0, 3, 4], [.l (cs [I, .l (cs [I]), .i .u32, .i .u32]), .ref 0, .i .i64], [.sq (cs [I])], (cs [.l (cs [I, .l (cs [I]), .i .u32, .i .u32]), I, .l (cs [I])])⟩⟩]
def q69_L5_s (lo : Lo) : (List (Int × (List Int) × Int × Int)) × Int × Int × (List Int) → Option (((List (Int × (List Int) × Int × Int)) × Int × Int × (List Int)) ⊕ (((List (Int × (List Int) × Int × Int)) × Int × (List Int)))) := fun x => match x with
  | (steps0, i4, k8, out3) => bif (decide ((0 : Int) < k8)) then (chk (0 ≤ k8 ∧ k8 < (out3.length : Int)) (chk (0 ≤ (IntKind.wrap .i64 (k8 - (1 : Int))) ∧ (IntKind.wrap .i64 (k8 - (1 : Int))) < (out3.length : Int)) (bif (decide (out3.getD k8.toNat (0 : Int) < out3.getD ((IntKind.wrap .i64 (k8 - (1 : Int))).toNat) (0 : Int))) then (chk (0 ≤ (IntKind.wrap .i64 (k8 - (1 : Int))) ∧ (IntKind.wrap .i64 (k8 - (1 : Int))) < (out3.length : Int)) (chk (0 ≤ k8 ∧ k8 < (out3.length : Int)) (chk (0 ≤ k8 ∧ k8 < (out3.length : Int)) (chk (0 ≤ (IntKind.wrap .i64 (k8 - (1 : Int))) ∧ (IntKind.wrap .i64 (k8 - (1 : Int))) < ((out3.set k8.toNat (out3.getD ((IntKind.wrap .i64 (k8 - (1 : Int))).toNat) (0 : Int))).length : Int)) (some (.inl (steps0, i4, (IntKind.wrap .i64 (k8 - (1 : Int))), ((out3.set k8.toNat (out3.getD ((IntKind.wrap .i64 (k8 - (1 : Int))).toNat) (0 : Int))).set ((IntKind.wrap .i64 (k8 - (1 : Int))).toNat) (out3.getD k8.toNat (0 : Int)))))))))) else (some (.inr (steps0, i4, out3)))))) else (some (.inr (steps0, i4, out3)))
theorem q69_L5_e (lo : Lo) : ∀ x : (List (Int × (List Int) × Int × Int)) × Int × Int × (List Int), stepL (⟨pf, fs69 lo, [q69_L14_p lo], 0⟩ : Tabs) [] q69_L5_g q69_L5_o q69_L5_b x = q69_L5_s lo x := fun x => by kernel_rfl
def q69_L5 (lo : Lo) : (List (Int × (List Int) × Int × Int)) × Int × Int × (List Int) → Option (((List (Int × (List Int) × Int × Int)) × Int × (List Int))) := lo.run (q69_L5_s lo)
def q69_L5_p (lo : Lo) : LpE := ⟨5, [], q69_L5_g, q69_L5_o, q69_L5 lo⟩
theorem q69_L5_k {lo : Lo} (hlo : LoOK lo) (C : Ctx) (hT : TOK (⟨pf, fs69 lo, [q69_L14_p lo], 0⟩ : Tabs) C) : LpSound (fun _ => False) [] 0 C (.loop q69_L5_b.er) (q69_L5_p lo) :=
  loop_sound (T := (⟨pf, fs69 lo, [q69_L14_p lo], 0⟩ : Tabs)) hT frNo (show LsOK (fun _ => False) [] C (⟨pf, fs69 lo, [q69_L14_p lo], 0⟩ : Tabs) q69_L5_b from ⟨⟨trivial, ⟨trivial, trivial⟩⟩, ⟨trivial, trivial⟩⟩) (fun x y h => loopO_congr (q69_L5_e lo) (hlo _ _ _ h))
def q69_L3_b : VCode :=
 (.seq (.seq (.reg [o 9 (.mv (t 4)), o 10 (.mv (t 0)), o 11 (.len (t 10)), o 12 (.bin .lss (t 9) (t 11))])
 (.cond (t 12) .skip
 (.exit 0)))
 (.seq (.blk 1 (.seq (.seq (.reg [o 15 (.mv (t 0)), o 16 (.mv (t 4)), o 17 (.iad 4 (t 15) (t 16)), o 18 (.fad 0 (t 17)), o 19 (.load false 1 (t 18)), o 20 (.bin .neq (t 19) (k 1)), o 21 (.mv (t 20)), og 22 21 false (.mv (t 0)), og 23 21 false (.mv (t 4)), og 24 21 false (.iad 4 (t 22) (t 23)), og 25 21 false (.fad 1 (t 24)), og 26 21 false (.load false 1 (t 25)), og 27 21 false (.len (t 26)), og 28 21 false (.bin .neq (t 27) (k 1)), o 29 (.pick (t 21) (kb true) (t 28))])
 (.cond (t 29) (.exit 1)
 .skip))
 (.seq (.reg [o 30 (.mv (t 0)), o 31 (.mv (t 4)), o 32 (.iad 4 (t 30) (t 31)), o 33 (.fad 1 (t 32)), o 34 (.load false 1 (t 33)), o 35 (.iad 1 (t 34) (k 0)), o 36 (.load false 1 (t 35)), o 5 (.mv (t 36))])
 (.seq (.reg [o 6 (.mv (kb false))])
 (.seq (.seq (.reg [o 7 (.mv (k 0))])
 (.blk 2 (.loop 14 q69_L14_b)))
 (.seq (.seq (.reg [o 52 (.mv (t 6))])
 (.cond (t 52) (.exit 1)
 .skip))
 (.seq (.reg [o 53 (.mv (t 3)), o 54 (.mv (t 5)), o 55 (.bsl (cs [I]) 1 [(0, (t 54))]), o 56 (.app (cs [I]) 0 (t 53) (t 55)), o 3 (.mv (t 56))])
 (.seq (.reg [o 57 (.mv (t 3)), o 58 (.len (t 57)), o 59 (.bin .sub (t 58) (k 1)), o 8 (.mv (t 59))])
 (.blk 4 (.loop 5 q69_L5_b))))))))))
 (.reg [o 13 (.mv (t 4)), o 14 (.bin .add (t 13) (k 1)), o 4 (.mv (t 14))])))
def q69_L3_g : Sg := ⟨[0, 3, 4], [.l (cs [I, .l (cs [I]), .i .u32, .i .u32]), .ref 0, .i .i64], [.sq (cs [I])], (cs [.l (cs [I, .l (cs [I]), .i .u32, .i .u32]), I, .l (cs [I])])⟩
def q69_L3_o : List Out1 := [⟨.exit 0, ⟨[3], [.ref 0], [.sq (cs [I])], (cs [.l (cs [I])])⟩⟩]
def q69_L3_s (lo : Lo) : (List (Int × (List Int) × Int × Int)) × Int × (List Int) → Option (((List (Int × (List Int) × Int × Int)) × Int × (List Int)) ⊕ (((List Int)))) := fun x => match x with
  | (steps0, i4, out3) => bif (decide (i4 < (steps0.length : Int))) then (chk (0 ≤ i4 ∧ i4 < (steps0.length : Int)) (bif (!decide ((steps0.getD i4.toNat ((0 : Int), [], (0 : Int), (0 : Int))).1 = (1 : Int))) then (some (.inl (steps0, (IntKind.wrap .i64 (i4 + (1 : Int))), out3))) else (chk (0 ≤ i4 ∧ i4 < (steps0.length : Int)) (bif (!decide ((((steps0.getD i4.toNat ((0 : Int), [], (0 : Int), (0 : Int))).2.1).length : Int) = (1 : Int))) then (some (.inl (steps0, (IntKind.wrap .i64 (i4 + (1 : Int))), out3))) else (chk (0 ≤ i4 ∧ i4 < (steps0.length : Int)) (chk (0 ≤ (0 : Int) ∧ (0 : Int) < (((steps0.getD i4.toNat ((0 : Int), [], (0 : Int), (0 : Int))).2.1).length : Int)) (Option.bind (q69_L14 lo (steps0, i4, (((steps0.getD i4.toNat ((0 : Int), [], (0 : Int), (0 : Int))).2.1).getD 0 (0 : Int)), false, (0 : Int), out3)) fun y239 => bif y239.2.2.2.1 then (some (.inl (y239.1, (IntKind.wrap .i64 (y239.2.1 + (1 : Int))), y239.2.2.2.2))) else (chk (y239.2.2.2.2.length + [y239.2.2.1].length ≤ maxEl) (Option.bind (q69_L5 lo (y239.1, y239.2.1, (IntKind.wrap .i64 (((y239.2.2.2.2 ++ [y239.2.2.1]).length : Int) - (1 : Int))), (y239.2.2.2.2 ++ [y239.2.2.1]))) fun y240 => some (.inl (y240.1, (IntKind.wrap .i64 (y240.2.1 + (1 : Int))), y240.2.2))))))))))) else (some (.inr out3))
theorem q69_L3_e (lo : Lo) : ∀ x : (List (Int × (List Int) × Int × Int)) × Int × (List Int), stepL (⟨pf, fs69 lo, [q69_L5_p lo, q69_L14_p lo], 0⟩ : Tabs) [(3, none, false)] q69_L3_g q69_L3_o q69_L3_b x = q69_L3_s lo x := fun x => by kernel_rfl
def q69_L3 (lo : Lo) : (List (Int × (List Int) × Int × Int)) × Int × (List Int) → Option (((List Int))) := lo.run (q69_L3_s lo)
def q69_L3_p (lo : Lo) : LpE := ⟨3, [(3, none, false)], q69_L3_g, q69_L3_o, q69_L3 lo⟩
theorem q69_L3_k {lo : Lo} (hlo : LoOK lo) (C : Ctx) (hT : TOK (⟨pf, fs69 lo, [q69_L5_p lo, q69_L14_p lo], 0⟩ : Tabs) C) : LpSound (fun _ => False) [] 0 C (.loop q69_L3_b.er) (q69_L3_p lo) :=
  loop_sound (T := (⟨pf, fs69 lo, [q69_L5_p lo, q69_L14_p lo], 0⟩ : Tabs)) hT frNo (show LsOK (fun _ => False) [] C (⟨pf, fs69 lo, [q69_L5_p lo, q69_L14_p lo], 0⟩ : Tabs) q69_L3_b from ⟨⟨trivial, ⟨trivial, trivial⟩⟩, ⟨⟨⟨trivial, ⟨trivial, trivial⟩⟩, ⟨trivial, ⟨trivial, ⟨⟨trivial, (lsGet (by kernel_rfl) (q69_L14_k hlo C (tok_ls hT)))⟩, ⟨⟨trivial, ⟨trivial, trivial⟩⟩, ⟨trivial, ⟨trivial, (lsGet (by kernel_rfl) (q69_L5_k hlo C (tok_ls hT)))⟩⟩⟩⟩⟩⟩⟩, trivial⟩⟩) (fun x y h => loopO_congr (q69_L3_e lo) (hlo _ _ _ h))
def q69 (lo : Lo) (steps0 : List (Int × (List Int) × Int × Int)) : Option ((List Int)) :=
  Option.bind (q69_L3 lo (steps0, (0 : Int), [])) fun y241 => some y241
def q69_c : VCode :=
 (.seq (.reg [o 2 (.mv (ke (cs [I])))])
 (.seq (.reg [o 3 (.mv (ke (cs [I])))])
 (.seq (.seq (.reg [o 4 (.mv (k 0))])
 (.blk 0 (.loop 3 q69_L3_b)))
 (.seq (.reg [o 92 (.mv (t 3)), o 2 (.mv (t 92))])
 (.fz [2] .ret)))))
def q69_F : VFn := ⟨true, 93, [.t 2], q69_c⟩
def q69_f (lo : Lo) : FnE := ⟨124, true, ⟨[0], [.l (cs [I, .l (cs [I]), .i .u32, .i .u32])], [], (cs [.l (cs [I, .l (cs [I]), .i .u32, .i .u32])])⟩, .l (cs [I]), [], (cs [.l (cs [I])]), (fun x => q69 lo x : (List (Int × (List Int) × Int × Int)) → Option ((List Int)))⟩
theorem q69_e (lo : Lo) : ∀ x : (List (Int × (List Int) × Int × Int)), evP (⟨pf, fs69 lo, [q69_L3_p lo, q69_L5_p lo, q69_L14_p lo], 0⟩ : Tabs) q69_F ⟨[0], [.l (cs [I, .l (cs [I]), .i .u32, .i .u32])], [], (cs [.l (cs [I, .l (cs [I]), .i .u32, .i .u32])])⟩ (.l (cs [I])) (cs [.l (cs [I])]) x = q69 lo x := fun x => by kernel_rfl
theorem q69_S {P : Program} {fm : FM} {lo : Lo} (hlo : LoOK lo) (hS : Sound P fm ⟨pf, fs69 lo, [], 0⟩) (hm : P.follows .mixedOrders = true) (htie : ∀ f, fm f = 124 → fnTr P fm pf f = some (q69_F.slots, q69_F.res, q69_F.code.er)) : Sound P fm ⟨pf, q69_f lo :: fs69 lo, [], 0⟩ :=
  fn_sound hS hm [q69_L3_p lo, q69_L5_p lo, q69_L14_p lo] (q69_f lo) rfl q69_F htie (by decide) rfl (Nat.le_of_ble_eq_true (by kernel_rfl)) (fun C hT => show LsOK (fun _ => False) [] C (⟨pf, fs69 lo, [q69_L3_p lo, q69_L5_p lo, q69_L14_p lo], 0⟩ : Tabs) q69_c from ⟨trivial, ⟨trivial, ⟨⟨trivial, (lsGet (by kernel_rfl) (q69_L3_k hlo C (tok_ls hT)))⟩, ⟨trivial, trivial⟩⟩⟩⟩) (fun x y h => (q69_e lo x).trans h)
def fs70 (lo : Lo) : List FnE := q69_f lo :: fs69 lo
def q70_L3_b : VCode :=
 (.seq (.seq (.reg [o 11 (.mv (t 5)), o 12 (.mv (t 0)), o 13 (.len (t 12)), o 14 (.bin .lss (t 11) (t 13))])
 (.cond (t 14) .skip
 (.exit 0)))
 (.seq (.blk 1 (.seq (.reg [o 17 (.mv (t 0)), o 18 (.mv (t 5)), o 19 (.iad 1 (t 17) (t 18)), o 20 (.load false 1 (t 19)), o 21 (.mv (t 1)), o 22 (.mv (t 5)), o 23 (.iad 1 (t 21) (t 22)), o 24 (.load false 1 (t 23)), o 25 (.bin .neq (t 20) (t 24))])
 (.cond (t 25) (.seq (.reg [o 4 (.mv (kb false))])
 (.fz [4] .ret))
 .skip)))
 (.reg [o 15 (.mv (t 5)), o 16 (.bin .add (t 15) (k 1)), o 5 (.mv (t 16))])))
def q70_L3_g : Sg := ⟨[0, 1, 5], [.l (cs [I]), .l (cs [I]), .i .i64], [], (cs [.l (cs [I]), .l (cs [I]), I])⟩
def q70_L3_o : List Out1 := [⟨.ret, ⟨[4], [.b], [], (cs [.b])⟩⟩, ⟨.exit 0, ⟨[], [], [], (cs [])⟩⟩]
def q70_L3_s (lo : Lo) : (List Int) × (List Int) × Int → Option (((List Int) × (List Int) × Int) ⊕ (Bool ⊕ Unit)) := fun x => match x with
  | (a0, b1, i5) => bif (decide (i5 < (a0.length : Int))) then (chk (0 ≤ i5 ∧ i5 < (a0.length : Int)) (chk (0 ≤ i5 ∧ i5 < (b1.length : Int)) (bif (!decide ((a0.getD i5.toNat (0 : Int)) = (b1.getD i5.toNat (0 : Int)))) then (some (.inr (.inl false))) else (some (.inl (a0, b1, (IntKind.wrap .i64 (i5 + (1 : Int))))))))) else (some (.inr (.inr ())))
theorem q70_L3_e (lo : Lo) : ∀ x : (List Int) × (List Int) × Int, stepL (⟨pf, fs70 lo, [], 0⟩ : Tabs) [] q70_L3_g q70_L3_o q70_L3_b x = q70_L3_s lo x := fun x => by kernel_rfl
def q70_L3 (lo : Lo) : (List Int) × (List Int) × Int → Option (Bool ⊕ Unit) := lo.run (q70_L3_s lo)
def q70_L3_p (lo : Lo) : LpE := ⟨3, [], q70_L3_g, q70_L3_o, q70_L3 lo⟩
theorem q70_L3_k {lo : Lo} (hlo : LoOK lo) (C : Ctx) (hT : TOK (⟨pf, fs70 lo, [], 0⟩ : Tabs) C) : LpSound (fun _ => False) [] 0 C (.loop q70_L3_b.er) (q70_L3_p lo) :=
  loop_sound (T := (⟨pf, fs70 lo, [], 0⟩ : Tabs)) hT frNo (show LsOK (fun _ => False) [] C (⟨pf, fs70 lo, [], 0⟩ : Tabs) q70_L3_b from ⟨⟨trivial, ⟨trivial, trivial⟩⟩, ⟨⟨trivial, ⟨⟨trivial, trivial⟩, trivial⟩⟩, trivial⟩⟩) (fun x y h => loopO_congr (q70_L3_e lo) (hlo _ _ _ h))
def q70 (lo : Lo) (a0 : List Int) (b1 : List Int) : Option Bool :=
  bif (!decide ((a0.length : Int) = (b1.length : Int))) then (some false) else (Option.bind (q70_L3 lo (a0, b1, (0 : Int))) fun y243 => alt2 y243 (fun y244 => some y244) (fun y245 => some true))
def q70_c : VCode :=
 (.seq (.reg [o 4 (.mv (kb false))])
 (.seq (.seq (.reg [o 6 (.mv (t 0)), o 7 (.len (t 6)), o 8 (.mv (t 1)), o 9 (.len (t 8)), o 10 (.bin .neq (t 7) (t 9))])
 (.cond (t 10) (.seq (.reg [o 4 (.mv (kb false))])
 (.fz [4] .ret))
 .skip))
 (.seq (.seq (.reg [o 5 (.mv (k 0))])
 (.blk 0 (.loop 3 q70_L3_b)))
 (.seq (.reg [o 4 (.mv (kb true))])
 (.fz [4] .ret)))))
def q70_F : VFn := ⟨true, 26, [.t 4], q70_c⟩
def q70_f (lo : Lo) : FnE := ⟨123, true, ⟨[0, 1], [.l (cs [I]), .l (cs [I])], [], (cs [.l (cs [I]), .l (cs [I])])⟩, .b, [], (cs [.b]), (fun x => q70 lo x.1 x.2 : (List Int) × (List Int) → Option Bool)⟩
theorem q70_e (lo : Lo) : ∀ x : (List Int) × (List Int), evP (⟨pf, fs70 lo, [q70_L3_p lo], 0⟩ : Tabs) q70_F ⟨[0, 1], [.l (cs [I]), .l (cs [I])], [], (cs [.l (cs [I]), .l (cs [I])])⟩ (.b) (cs [.b]) x = q70 lo x.1 x.2 := fun x => by kernel_rfl
theorem q70_S {P : Program} {fm : FM} {lo : Lo} (hlo : LoOK lo) (hS : Sound P fm ⟨pf, fs70 lo, [], 0⟩) (hm : P.follows .mixedOrders = true) (htie : ∀ f, fm f = 123 → fnTr P fm pf f = some (q70_F.slots, q70_F.res, q70_F.code.er)) : Sound P fm ⟨pf, q70_f lo :: fs70 lo, [], 0⟩ :=
  fn_sound hS hm [q70_L3_p lo] (q70_f lo) rfl q70_F htie (by decide) rfl (Nat.le_of_ble_eq_true (by kernel_rfl)) (fun C hT => show LsOK (fun _ => False) [] C (⟨pf, fs70 lo, [q70_L3_p lo], 0⟩ : Tabs) q70_c from ⟨trivial, ⟨⟨trivial, ⟨⟨trivial, trivial⟩, trivial⟩⟩, ⟨⟨trivial, (lsGet (by kernel_rfl) (q70_L3_k hlo C (tok_ls hT)))⟩, ⟨trivial, trivial⟩⟩⟩⟩) (fun x y h => (q70_e lo x).trans h)
def fs71 (lo : Lo) : List FnE := q70_f lo :: fs70 lo
def q71_L3_b : VCode :=
 (.seq (.reg [o 51 (.bin .lss (t 50) (t 49))])
 (.seq (.cond (t 51) .skip
 (.exit 0))
 (.seq (.blk 1 (.seq (.reg [o 52 (.iad 1 (t 48) (t 50)), o 53 (.load false 1 (t 52)), o 13 (.mv (t 53))])
 (.seq (.seq (.reg [o 54 (.mv (t 13)), o 55 (.bin .lss (t 54) (k 0)), o 56 (.mv (t 55)), og 57 56 false (.mv (t 13)), og 58 56 false (.mv (t 6)), og 59 56 false (.len (t 58)), og 60 56 false (.bin .geq (t 57) (t 59)), o 61 (.pick (t 56) (kb true) (t 60))])
 (.cond (t 61) (.seq (.reg [o 4 (.mv (kb false))])
 (.fz [4] .ret))
 .skip))
 (.reg [o 62 (.mv (t 11)), o 63 (.mv (t 6)), o 64 (.mv (t 13)), o 65 (.iad 2 (t 63) (t 64)), o 66 (.load true 2 (t 65)), o 67 (.bsl (cs [.i .u32, .i .u32]) 1 [(0, (t 66))]), o 68 (.app (cs [.i .u32, .i .u32]) 0 (t 62) (t 67)), o 11 (.mv (t 68))]))))
 (.reg [o 69 (.bin .add (t 50) (k 1)), o 50 (.mv (t 69))]))))
def q71_L3_g : Sg := ⟨[1, 6, 11, 48, 49, 50], [.l (cs [I, .l (cs [I]), .i .u32, .i .u32]), .l (cs [.i .u32, .i .u32]), .ref 0, .l (cs [I]), .i .i64, .i .i64], [.sq (cs [.i .u32, .i .u32])], (cs [.l (cs [I, .l (cs [I]), .i .u32, .i .u32]), .l (cs [.i .u32, .i .u32]), .l (cs [I]), I, I, .l (cs [.i .u32, .i .u32])])⟩
def q71_L3_o : List Out1 := [⟨.ret, ⟨[4], [.b], [], (cs [.b])⟩⟩, ⟨.exit 0, ⟨[1, 11], [.l (cs [I, .l (cs [I]), .i .u32, .i .u32]), .ref 0], [.sq (cs [.i .u32, .i .u32])], (cs [.l (cs [I, .l (cs [I]), .i .u32, .i .u32]), .l (cs [.i .u32, .i .u32])])⟩⟩]
def q71_L3_s (lo : Lo) : (List (Int × (List Int) × Int × Int)) × (List (Int × Int)) × (List Int) × Int × Int × (List (Int × Int)) → Option (((List (Int × (List Int) × Int × Int)) × (List (Int × Int)) × (List Int) × Int × Int × (List (Int × Int))) ⊕ (Bool ⊕ ((List (Int × (List Int) × Int × Int)) × (List (Int × Int))))) := fun x => match x with
  | (steps1, fds6, v48, v49, v50, some11) => bif (decide (v50 < v49)) then (chk (0 ≤ v50 ∧ v50 < (v48.length : Int)) (bif (decide ((v48.getD v50.toNat (0 : Int)) < (0 : Int))) then (some (.inr (.inl false))) else (bif (decide ((fds6.length : Int) ≤ (v48.getD v50.toNat (0 : Int)))) then (some (.inr (.inl false))) else (chk (0 ≤ (v48.getD v50.toNat (0 : Int)) ∧ (v48.getD v50.toNat (0 : Int)) < (fds6.length : Int)) (chk (some11.length + ([(fds6.getD ((v48.getD v50.toNat (0 : Int)).toNat) ((0 : Int), (0 : Int)))]).length ≤ maxEl) (some (.inl (steps1, fds6, v48, v49, (IntKind.wrap .i64 (v50 + (1 : Int))), (some11 ++ ([(fds6.getD ((v48.getD v50.toNat (0 : Int)).toNat) ((0 : Int), (0 : Int)))])))))))))) else (some (.inr (.inr (steps1, some11))))
theorem q71_L3_e (lo : Lo) : ∀ x : (List (Int × (List Int) × Int × Int)) × (List (Int × Int)) × (List Int) × Int × Int × (List (Int × Int)), stepL (⟨pf, fs71 lo, [], 0⟩ : Tabs) [(11, none, false)] q71_L3_g q71_L3_o q71_L3_b x = q71_L3_s lo x := fun x => by kernel_rfl
def q71_L3 (lo : Lo) : (List (Int × (List Int) × Int × Int)) × (List (Int × Int)) × (List Int) × Int × Int × (List (Int × Int)) → Option (Bool ⊕ ((List (Int × (List Int) × Int × Int)) × (List (Int × Int)))) := lo.run (q71_L3_s lo)
def q71_L3_p (lo : Lo) : LpE := ⟨3, [(11, none, false)], q71_L3_g, q71_L3_o, q71_L3 lo⟩
theorem q71_L3_k {lo : Lo} (hlo : LoOK lo) (C : Ctx) (hT : TOK (⟨pf, fs71 lo, [], 0⟩ : Tabs) C) : LpSound (fun _ => False) [] 0 C (.loop q71_L3_b.er) (q71_L3_p lo) :=
  loop_sound (T := (⟨pf, fs71 lo, [], 0⟩ : Tabs)) hT frNo (show LsOK (fun _ => False) [] C (⟨pf, fs71 lo, [], 0⟩ : Tabs) q71_L3_b from ⟨trivial, ⟨⟨trivial, trivial⟩, ⟨⟨trivial, ⟨⟨trivial, ⟨⟨trivial, trivial⟩, trivial⟩⟩, trivial⟩⟩, trivial⟩⟩⟩) (fun x y h => loopO_congr (q71_L3_e lo) (hlo _ _ _ h))
def q71 (lo : Lo) (d0_0 : Int) (d0_1 : List (Int × Int)) (steps1 : List (Int × (List Int) × Int × Int)) : Option Bool :=
  Option.bind (q2 lo d0_0 d0_1) fun y174 => Option.bind (q42 lo) fun y175 => bif (!y175) then (Option.bind (q42 lo) fun y176 => some y176) else (bif (!y174.2.2) then (Option.bind (q42 lo) fun y177 => some y177) else (Option.bind (q43 lo steps1) fun y178 => bif (!y178) then (Option.bind (q42 lo) fun y179 => some y179) else (Option.bind (q68 lo steps1) fun y238 => Option.bind (q69 lo steps1) fun y242 => Option.bind (q70 lo y238 y242) fun y246 => bif (!y246) then (some false) else (Option.bind (q9 lo y174.1 y174.2.1 steps1) fun y247 => bif (!decide (y247.2 = (0 : Int))) then (some true) else (Option.bind (q71_L3 lo (steps1, y174.2.1, y238, (y238.length : Int), (0 : Int), [])) fun y248 => alt2 y248 (fun y249 => some y249) (fun y250 => chk (0 ≤ (IntKind.wrap .i64 ((y250.1.length : Int) - (1 : Int))) ∧ (IntKind.wrap .i64 ((y250.1.length : Int) - (1 : Int))) < (y250.1.length : Int)) (Option.bind (q46 lo y250.2 ((y250.1.getD ((IntKind.wrap .i64 ((y250.1.length : Int) - (1 : Int))).toNat) ((0 : Int), [], (0 : Int), (0 : Int))).2.2.1) ((y250.1.getD ((IntKind.wrap .i64 ((y250.1.length : Int) - (1 : Int))).toNat) ((0 : Int), [], (0 : Int), (0 : Int))).2.2.2)) fun y251 => some y251)))))))
def q71_c : VCode :=
 (.seq (.reg [o 2 (.box (t 0)), o 4 (.mv (kb false))])
 (.seq (.reg [o 15 (.load true 2 (t 2)), o 16 (.call 108 [(t 15)]), o 14 (.mv (t 16)), o 17 (.ext (t 14) 0), o 18 (.ext (t 14) 1), o 19 (.ext (t 14) 2), o 5 (.mv (t 17)), o 6 (.mv (t 18)), o 7 (.mv (t 19))])
 (.seq (.seq (.reg [o 20 (.call 109 []), o 21 (.not (t 20)), o 22 (.mv (t 21)), og 23 22 false (.mv (t 7)), og 24 22 false (.not (t 23)), o 25 (.pick (t 22) (kb true) (t 24)), o 26 (.mv (t 25)), og 27 26 false (.mv (t 1)), og 28 26 false (.call 110 [(t 27)]), og 29 26 false (.not (t 28)), o 30 (.pick (t 26) (kb true) (t 29))])
 (.cond (t 30) (.seq (.reg [o 31 (.call 109 []), o 4 (.mv (t 31))])
 (.fz [4] .ret))
 .skip))
 (.seq (.reg [o 32 (.mv (t 1)), o 33 (.call 122 [(t 32)]), o 8 (.mv (t 33))])
 (.seq (.seq (.reg [o 34 (.mv (t 8)), o 35 (.mv (t 1)), o 36 (.call 124 [(t 35)]), o 37 (.call 123 [(t 34), (t 36)]), o 38 (.not (t 37))])
 (.cond (t 38) (.seq (.reg [o 4 (.mv (kb false))])
 (.fz [4] .ret))
 .skip))
 (.seq (.seq (.reg [o 40 (.mv (t 5)), o 41 (.mv (t 6)), o 42 (.mv (t 1)), o 43 (.call 111 [(t 40), (t 41), (t 42)]), o 39 (.mv (t 43)), o 44 (.ext (t 39) 0), o 45 (.ext (t 39) 1), o 9 (.mv (t 44)), o 10 (.mv (t 45))])
 (.seq (.reg [o 46 (.mv (t 10)), o 47 (.bin .neq (t 46) (k 0))])
 (.cond (t 47) (.seq (.reg [o 4 (.mv (kb true))])
 (.fz [4] .ret))
 .skip)))
 (.seq (.reg [o 11 (.mv (ke (cs [.i .u32, .i .u32])))])
 (.seq (.seq (.reg [o 48 (.mv (t 8)), o 49 (.len (t 48)), o 50 (.mv (k 0))])
 (.blk 0 (.loop 3 q71_L3_b)))
 (.seq (.reg [o 70 (.mv (t 11)), o 71 (.mv (t 1)), o 72 (.mv (t 1)), o 73 (.len (t 72)), o 74 (.bin .sub (t 73) (k 1)), o 75 (.iad 4 (t 71) (t 74)), o 76 (.fad 2 (t 75)), o 77 (.load true 2 (t 76)), o 78 (.call 117 [(t 70), (t 77)]), o 4 (.mv (t 78))])
 (.fz [4] .ret))))))))))
def q71_F : VFn := ⟨true, 79, [.t 4], q71_c⟩
def q71_f (lo : Lo) : FnE := ⟨105, true, ⟨[0, 1], [.ag [.i .u8, .l (cs [.i .u8, .i .u8])], .l (cs [I, .l (cs [I]), .i .u32, .i .u32])], [], (cs [.i .u8, .l (cs [.i .u8, .i .u8]), .l (cs [I, .l (cs [I]), .i .u32, .i .u32])])⟩, .b, [], (cs [.b]), (fun x => q71 lo x.1 x.2.1 x.2.2 : Int × (List (Int × Int)) × (List (Int × (List Int) × Int × Int)) → Option Bool)⟩
theorem q71_e (lo : Lo) : ∀ x : Int × (List (Int × Int)) × (List (Int × (List Int) × Int × Int)), evP (⟨pf, fs71 lo, [q71_L3_p lo], 0⟩ : Tabs) q71_F ⟨[0, 1], [.ag [.i .u8, .l (cs [.i .u8, .i .u8])], .l (cs [I, .l (cs [I]), .i .u32, .i .u32])], [], (cs [.i .u8, .l (cs [.i .u8, .i .u8]), .l (cs [I, .l (cs [I]), .i .u32, .i .u32])])⟩ (.b) (cs [.b]) x = q71 lo x.1 x.2.1 x.2.2 := fun x => by kernel_rfl
theorem q71_S {P : Program} {fm : FM} {lo : Lo} (hlo : LoOK lo) (hS : Sound P fm ⟨pf, fs71 lo, [], 0⟩) (hm : P.follows .mixedOrders = true) (htie : ∀ f, fm f = 105 → fnTr P fm pf f = some (q71_F.slots, q71_F.res, q71_F.code.er)) : Sound P fm ⟨pf, q71_f lo :: fs71 lo, [], 0⟩ :=
  fn_sound hS hm [q71_L3_p lo] (q71_f lo) rfl q71_F htie (by decide) rfl (Nat.le_of_ble_eq_true (by kernel_rfl)) (fun C hT => show LsOK (fun _ => False) [] C (⟨pf, fs71 lo, [q71_L3_p lo], 0⟩ : Tabs) q71_c from ⟨trivial, ⟨trivial, ⟨⟨trivial, ⟨⟨trivial, trivial⟩, trivial⟩⟩, ⟨trivial, ⟨⟨trivial, ⟨⟨trivial, trivial⟩, trivial⟩⟩, ⟨⟨trivial, ⟨trivial, ⟨⟨trivial, trivial⟩, trivial⟩⟩⟩, ⟨trivial, ⟨⟨trivial, (lsGet (by kernel_rfl) (q71_L3_k hlo C (tok_ls hT)))⟩, ⟨trivial, trivial⟩⟩⟩⟩⟩⟩⟩⟩⟩) (fun x y h => (q71_e lo x).trans h)
def fs72 (lo : Lo) : List FnE := q71_f lo :: fs71 lo
end Go.Abs.G12
