/- Functions of the program as functions of data (written by program). No condition. -/
import Derived.Test.YtgecckncfjmhmaaB
set_option linter.unusedVariables false
set_option linter.unusedSimpArgs false
set_option linter.unusedSectionVars false
namespace Go.Abs.G52
open Go Go.Abs
set_option maxRecDepth 100000
set_option linter.unusedVariables false
set_option maxHeartbeats 1000000
abbrev pf : Nat → Bool := fun g => !(List.any ([149, 592, 151, 601, 164, 188, 605, 613, 200, 196, 323, 324, 327, 271, 301, 311, 312, 313, 315, 316, 318, 319, 322] : List Nat) (Nat.beq g))
def fs0 (_ : Lo) : List FnE := []
def q0 (lo : Lo) (s0 : ByteArray) : Option Bool :=
  some (decide ((200 : Int) < (s0.size : Int)))
def q0_c : VCode :=
 (.seq (.reg [o 2 (.mv (kb false))])
 (.seq (.reg [o 3 (.mv (t 0)), o 4 (.lenS (t 3)), o 5 (.bin .gtr (t 4) (k 200)), o 2 (.mv (t 5))])
 (.fz [2] .ret)))
def q0_F : VFn := ⟨true, 6, [.t 2], q0_c⟩
def q0_f (lo : Lo) : FnE := ⟨602, true, ⟨[0], [.s], [], (cs [.s])⟩, .b, [], (cs [.b]), (fun x => q0 lo x : ByteArray → Option Bool)⟩
theorem q0_e (lo : Lo) : ∀ x : ByteArray, evP (⟨pf, fs0 lo, [], 0⟩ : Tabs) q0_F ⟨[0], [.s], [], (cs [.s])⟩ (.b) (cs [.b]) x = q0 lo x := fun x => by kernel_rfl
theorem q0_S {P : Program} {fm : FM} {lo : Lo} (hlo : LoOK lo) (hS : Sound P fm ⟨pf, fs0 lo, [], 0⟩) (hm : P.follows .mixedOrders = true) (htie : ∀ f, fm f = 602 → fnTr P fm pf f = some (q0_F.slots, q0_F.res, q0_F.code.er)) : Sound P fm ⟨pf, q0_f lo :: fs0 lo, [], 0⟩ :=
  fn_sound hS hm [] (q0_f lo) rfl q0_F htie (by decide) rfl (Nat.le_of_ble_eq_true (by kernel_rfl)) (fun C hT => show LsOK (fun _ => False) [] C (⟨pf, fs0 lo, [], 0⟩ : Tabs) q0_c from ⟨trivial, ⟨trivial, trivial⟩⟩) (fun x y h => (q0_e lo x).trans h)
def fs1 (lo : Lo) : List FnE := q0_f lo :: fs0 lo
def q1_L3_b : VCode :=
 (.seq (.reg [o 9 (.bin .lss (t 8) (t 7))])
 (.seq (.cond (t 9) .skip
 (.exit 0))
 (.seq (.blk 1 (.seq (.reg [o 10 (.mv (t 8)), o 5 (.mv (t 10))])
 (.seq (.reg [o 11 (.mv (t 1)), o 12 (.mv (t 0)), o 13 (.mv (t 5)), o 14 (.iad 1 (t 12) (t 13)), o 15 (.load false 1 (t 14)), o 16 (.dyn (t 11) [(t 15)])])
 (.cond (t 16) (.seq (.reg [o 17 (.mv (t 5)), o 4 (.mv (t 17))])
 .ret)
 .skip))))
 (.reg [o 18 (.bin .add (t 8) (k 1)), o 8 (.mv (t 18))]))))
def q1_L3_g : Sg := ⟨[0, 1, 7, 8], [.l (cs [.s]), .clo 602 [], .i .i64, .i .i64], [], (cs [.l (cs [.s]), I, I])⟩
def q1_L3_o : List Out1 := [⟨.ret, ⟨[4], [.i .i64], [], (cs [I])⟩⟩, ⟨.exit 0, ⟨[], [], [], (cs [])⟩⟩]
def q1_L3_s (lo : Lo) : (List ByteArray) × Int × Int → Option (((List ByteArray) × Int × Int) ⊕ (Int ⊕ Unit)) := fun x => match x with
  | (s0, v7, v8) => bif (decide (v8 < v7)) then (chk (0 ≤ v8 ∧ v8 < (s0.length : Int)) (Option.bind (q0 lo (s0.getD v8.toNat (ByteArray.mk #[]))) fun y0 => bif y0 then (some (.inr (.inl v8))) else (some (.inl (s0, v7, (IntKind.wrap .i64 (v8 + (1 : Int)))))))) else (some (.inr (.inr ())))
theorem q1_L3_e (lo : Lo) : ∀ x : (List ByteArray) × Int × Int, stepL (⟨pf, fs1 lo, [], 0⟩ : Tabs) [] q1_L3_g q1_L3_o q1_L3_b x = q1_L3_s lo x := fun x => by kernel_rfl
def q1_L3 (lo : Lo) : (List ByteArray) × Int × Int → Option (Int ⊕ Unit) := lo.run (q1_L3_s lo)
def q1_L3_p (lo : Lo) : LpE := ⟨3, [], q1_L3_g, q1_L3_o, q1_L3 lo⟩
theorem q1_L3_k {lo : Lo} (hlo : LoOK lo) (C : Ctx) (hT : TOK (⟨pf, fs1 lo, [], 0⟩ : Tabs) C) {Fr : Nat → Prop} {H0 : Heap} (hf : FrOK Fr H0) : LpSound Fr H0 0 C (.loop q1_L3_b.er) (q1_L3_p lo) :=
  loop_sound (T := (⟨pf, fs1 lo, [], 0⟩ : Tabs)) hT hf (show LsOK Fr H0 C (⟨pf, fs1 lo, [], 0⟩ : Tabs) q1_L3_b from ⟨trivial, ⟨⟨trivial, trivial⟩, ⟨⟨trivial, ⟨trivial, ⟨⟨trivial, trivial⟩, trivial⟩⟩⟩, trivial⟩⟩⟩) (fun x y h => loopO_congr (q1_L3_e lo) (hlo _ _ _ h))
def q1 (lo : Lo) (s0 : List ByteArray) : Option Int :=
  Option.bind (q1_L3 lo (s0, (s0.length : Int), (0 : Int))) fun y1 => alt2 y1 (fun y2 => some y2) (fun y3 => some (-1 : Int))
def q1_c : VCode :=
 (.seq (.reg [o 4 (.mv (k 0))])
 (.seq (.seq (.reg [o 6 (.mv (t 0)), o 7 (.len (t 6)), o 8 (.mv (k 0))])
 (.blk 0 (.loop 3 q1_L3_b)))
 (.seq (.reg [o 4 (.mv (k (-1)))])
 .ret)))
def q1_F : VFn := ⟨true, 19, [.t 4], q1_c⟩
def q1_f (lo : Lo) : FnE := ⟨613, false, ⟨[0, 1], [.l (cs [.s]), .clo 602 []], [], (cs [.l (cs [.s])])⟩, .i .i64, [], (cs [I]), (fun x => q1 lo x : (List ByteArray) → Option Int)⟩
theorem q1_e (lo : Lo) : ∀ x : (List ByteArray), evI (⟨pf, fs1 lo, [q1_L3_p lo], 0⟩ : Tabs) q1_F ⟨[0, 1], [.l (cs [.s]), .clo 602 []], [], (cs [.l (cs [.s])])⟩ (.i .i64) [] (cs [I]) x = q1 lo x := fun x => by kernel_rfl
theorem q1_S {P : Program} {fm : FM} {lo : Lo} (hlo : LoOK lo) (hS : Sound P fm ⟨pf, fs1 lo, [], 0⟩) (hm : P.follows .mixedOrders = true) (htie : ∀ f, fm f = 613 → fnTr P fm pf f = some (q1_F.slots, q1_F.res, q1_F.code.er)) : Sound P fm ⟨pf, q1_f lo :: fs1 lo, [], 0⟩ :=
  fnI_sound hS hm [q1_L3_p lo] (q1_f lo) rfl q1_F htie (by decide) rfl (Nat.le_of_ble_eq_true (by kernel_rfl)) (fun C hT Fr H0 hf => show LsOK Fr H0 C (⟨pf, fs1 lo, [q1_L3_p lo], 0⟩ : Tabs) q1_c from ⟨trivial, ⟨⟨trivial, (lsGet (by kernel_rfl) (q1_L3_k hlo C (tok_ls hT) hf))⟩, ⟨trivial, trivial⟩⟩⟩) (fun x y h => (q1_e lo x).trans h)
def fs2 (lo : Lo) : List FnE := q1_f lo :: fs1 lo
def q2 (lo : Lo) (s0 : List ByteArray) : Option Bool :=
  Option.bind (q1 lo s0) fun y4 => some (decide ((0 : Int) ≤ y4))
def q2_c : VCode :=
 (.seq (.reg [o 4 (.mv (kb false))])
 (.seq (.reg [o 5 (.mv (t 0)), o 6 (.mv (t 1)), o 7 (.call 613 [(t 5), (t 6)]), o 8 (.bin .geq (t 7) (k 0)), o 4 (.mv (t 8))])
 .ret))
def q2_F : VFn := ⟨true, 9, [.t 4], q2_c⟩
def q2_f (lo : Lo) : FnE := ⟨601, false, ⟨[0, 1], [.l (cs [.s]), .clo 602 []], [], (cs [.l (cs [.s])])⟩, .b, [], (cs [.b]), (fun x => q2 lo x : (List ByteArray) → Option Bool)⟩
theorem q2_e (lo : Lo) : ∀ x : (List ByteArray), evI (⟨pf, fs2 lo, [], 0⟩ : Tabs) q2_F ⟨[0, 1], [.l (cs [.s]), .clo 602 []], [], (cs [.l (cs [.s])])⟩ (.b) [] (cs [.b]) x = q2 lo x := fun x => by kernel_rfl
theorem q2_S {P : Program} {fm : FM} {lo : Lo} (hlo : LoOK lo) (hS : Sound P fm ⟨pf, fs2 lo, [], 0⟩) (hm : P.follows .mixedOrders = true) (htie : ∀ f, fm f = 601 → fnTr P fm pf f = some (q2_F.slots, q2_F.res, q2_F.code.er)) : Sound P fm ⟨pf, q2_f lo :: fs2 lo, [], 0⟩ :=
  fnI_sound hS hm [] (q2_f lo) rfl q2_F htie (by decide) rfl (Nat.le_of_ble_eq_true (by kernel_rfl)) (fun C hT Fr H0 hf => show LsOK Fr H0 C (⟨pf, fs2 lo, [], 0⟩ : Tabs) q2_c from ⟨trivial, ⟨trivial, trivial⟩⟩) (fun x y h => (q2_e lo x).trans h)
def fs3 (lo : Lo) : List FnE := q2_f lo :: fs2 lo
def q3 (lo : Lo) (l0 : List ByteArray) : Option Bool :=
  Option.bind (q2 lo l0) fun y5 => some y5
def q3_c : VCode :=
 (.seq (.reg [o 2 (.mv (kb false))])
 (.seq (.reg [o 3 (.mv (t 0)), o 4 (.call 601 [(t 3), (.c (.f 602))]), o 2 (.mv (t 4))])
 (.fz [2] .ret)))
def q3_F : VFn := ⟨true, 5, [.t 2], q3_c⟩
def q3_f (lo : Lo) : FnE := ⟨590, true, ⟨[0], [.l (cs [.s])], [], (cs [.l (cs [.s])])⟩, .b, [], (cs [.b]), (fun x => q3 lo x : (List ByteArray) → Option Bool)⟩
theorem q3_e (lo : Lo) : ∀ x : (List ByteArray), evP (⟨pf, fs3 lo, [], 0⟩ : Tabs) q3_F ⟨[0], [.l (cs [.s])], [], (cs [.l (cs [.s])])⟩ (.b) (cs [.b]) x = q3 lo x := fun x => by kernel_rfl
theorem q3_S {P : Program} {fm : FM} {lo : Lo} (hlo : LoOK lo) (hS : Sound P fm ⟨pf, fs3 lo, [], 0⟩) (hm : P.follows .mixedOrders = true) (htie : ∀ f, fm f = 590 → fnTr P fm pf f = some (q3_F.slots, q3_F.res, q3_F.code.er)) : Sound P fm ⟨pf, q3_f lo :: fs3 lo, [], 0⟩ :=
  fn_sound hS hm [] (q3_f lo) rfl q3_F htie (by decide) rfl (Nat.le_of_ble_eq_true (by kernel_rfl)) (fun C hT => show LsOK (fun _ => False) [] C (⟨pf, fs3 lo, [], 0⟩ : Tabs) q3_c from ⟨trivial, ⟨trivial, trivial⟩⟩) (fun x y h => (q3_e lo x).trans h)
def fs4 (lo : Lo) : List FnE := q3_f lo :: fs3 lo
def q4_L20_b : VCode :=
 (.seq (.reg [o 16 (.bin .lss (t 15) (t 14))])
 (.seq (.cond (t 16) .skip
 (.exit 0))
 (.seq (.blk 1 (.seq (.reg [o 17 (.mv (t 15)), o 6 (.mv (t 17))])
 (.reg [o 18 (.mv (t 5)), o 19 (.mv (t 6)), o 20 (.mv (t 1)), o 21 (.lenS (t 20)), o 22 (.bin .add (t 21) (k 1)), o 23 (.mksl (cs [I]) 0 (t 22) (t 22)), o 24 (.iad 1 (t 18) (t 19)), on (.store 1 (t 24) (t 23))])))
 (.reg [o 25 (.bin .add (t 15) (k 1)), o 15 (.mv (t 25))]))))
def q4_L20_g : Sg := ⟨[0, 1, 5, 14, 15], [.s, .s, .ref 0, .i .i64, .i .i64], [.fm (cs [I])], (cs [.s, .s, I, I, .l (cs [.l (cs [I])])])⟩
def q4_L20_o : List Out1 := [⟨.exit 0, ⟨[0, 1, 5], [.s, .s, .ref 0], [.fm (cs [I])], (cs [.s, .s, .l (cs [.l (cs [I])])])⟩⟩]
def q4_L20_s (lo : Lo) : ByteArray × ByteArray × Int × Int × (List ((List Int))) → Option ((ByteArray × ByteArray × Int × Int × (List ((List Int)))) ⊕ ((ByteArray × ByteArray × (List ((List Int)))))) := fun x => match x with
  | (a0, b1, v14, v15, d5) => bif (decide (v15 < v14)) then (chk (0 ≤ (IntKind.wrap .i64 ((b1.size : Int) + (1 : Int))) ∧ (IntKind.wrap .i64 ((b1.size : Int) + (1 : Int))) ≤ (IntKind.wrap .i64 ((b1.size : Int) + (1 : Int))) ∧ (IntKind.wrap .i64 ((b1.size : Int) + (1 : Int))) ≤ (maxEl : Nat)) (chk (0 ≤ v15 ∧ v15 < (d5.length : Int)) (some (.inl (a0, b1, v14, (IntKind.wrap .i64 (v15 + (1 : Int))), (d5.set v15.toNat (List.replicate (IntKind.wrap .i64 ((b1.size : Int) + (1 : Int))).toNat (0 : Int)))))))) else (some (.inr (a0, b1, d5)))
theorem q4_L20_e (lo : Lo) : ∀ x : ByteArray × ByteArray × Int × Int × (List ((List Int))), stepL (⟨pf, fs4 lo, [], 0⟩ : Tabs) [] q4_L20_g q4_L20_o q4_L20_b x = q4_L20_s lo x := fun x => by kernel_rfl
def q4_L20 (lo : Lo) : ByteArray × ByteArray × Int × Int × (List ((List Int))) → Option ((ByteArray × ByteArray × (List ((List Int))))) := lo.run (q4_L20_s lo)
def q4_L20_p (lo : Lo) : LpE := ⟨20, [], q4_L20_g, q4_L20_o, q4_L20 lo⟩
theorem q4_L20_k {lo : Lo} (hlo : LoOK lo) (C : Ctx) (hT : TOK (⟨pf, fs4 lo, [], 0⟩ : Tabs) C) : LpSound (fun _ => False) [] 0 C (.loop q4_L20_b.er) (q4_L20_p lo) :=
  loop_sound (T := (⟨pf, fs4 lo, [], 0⟩ : Tabs)) hT frNo (show LsOK (fun _ => False) [] C (⟨pf, fs4 lo, [], 0⟩ : Tabs) q4_L20_b from ⟨trivial, ⟨⟨trivial, trivial⟩, ⟨⟨trivial, trivial⟩, trivial⟩⟩⟩) (fun x y h => loopO_congr (q4_L20_e lo) (hlo _ _ _ h))
def q4_L5_b : VCode :=
 (.seq (.seq (.reg [o 34 (.mv (t 8)), o 35 (.bin .geq (t 34) (k 0))])
 (.cond (t 35) .skip
 (.exit 4)))
 (.seq (.blk 5 (.blk 6 (.seq (.reg [o 72 (.mv (t 7)), o 73 (.mv (t 0)), o 74 (.lenS (t 73)), o 75 (.bin .eql (t 72) (t 74)), o 71 (.mv (t 75))])
 (.cond (t 71) (.reg [o 76 (.mv (t 5)), o 77 (.mv (t 7)), o 78 (.iad 1 (t 76) (t 77)), o 79 (.load false 1 (t 78)), o 80 (.mv (t 8)), o 81 (.mv (t 1)), o 82 (.lenS (t 81)), o 83 (.mv (t 8)), o 84 (.bin .sub (t 82) (t 83)), o 85 (.iad 1 (t 79) (t 80)), on (.store 1 (t 85) (t 84))])
 (.seq (.reg [o 87 (.mv (t 8)), o 88 (.mv (t 1)), o 89 (.lenS (t 88)), o 90 (.bin .eql (t 87) (t 89)), o 86 (.mv (t 90))])
 (.cond (t 86) (.reg [o 91 (.mv (t 5)), o 92 (.mv (t 7)), o 93 (.iad 1 (t 91) (t 92)), o 94 (.load false 1 (t 93)), o 95 (.mv (t 8)), o 96 (.mv (t 0)), o 97 (.lenS (t 96)), o 98 (.mv (t 7)), o 99 (.bin .sub (t 97) (t 98)), o 100 (.iad 1 (t 94) (t 95)), on (.store 1 (t 100) (t 99))])
 (.seq (.reg [o 102 (.mv (t 0)), o 103 (.mv (t 7)), o 104 (.idx (t 102) (t 103)), o 105 (.mv (t 1)), o 106 (.mv (t 8)), o 107 (.idx (t 105) (t 106)), o 108 (.bin .eql (t 104) (t 107)), o 101 (.mv (t 108))])
 (.cond (t 101) (.reg [o 109 (.mv (t 5)), o 110 (.mv (t 7)), o 111 (.iad 1 (t 109) (t 110)), o 112 (.load false 1 (t 111)), o 113 (.mv (t 8)), o 114 (.mv (t 5)), o 115 (.mv (t 7)), o 116 (.bin .add (t 115) (k 1)), o 117 (.iad 1 (t 114) (t 116)), o 118 (.load false 1 (t 117)), o 119 (.mv (t 8)), o 120 (.bin .add (t 119) (k 1)), o 121 (.iad 1 (t 118) (t 120)), o 122 (.load false 1 (t 121)), o 123 (.iad 1 (t 112) (t 113)), on (.store 1 (t 123) (t 122))])
 (.reg [o 38 (.mv (t 5)), o 39 (.mv (t 7)), o 40 (.iad 1 (t 38) (t 39)), o 41 (.load false 1 (t 40)), o 42 (.mv (t 8)), o 43 (.mv (t 5)), o 44 (.mv (t 7)), o 45 (.bin .add (t 44) (k 1)), o 46 (.iad 1 (t 43) (t 45)), o 47 (.load false 1 (t 46)), o 48 (.mv (t 8)), o 49 (.bin .add (t 48) (k 1)), o 50 (.iad 1 (t 47) (t 49)), o 51 (.load false 1 (t 50)), o 52 (.mv (t 5)), o 53 (.mv (t 7)), o 54 (.bin .add (t 53) (k 1)), o 55 (.iad 1 (t 52) (t 54)), o 56 (.load false 1 (t 55)), o 57 (.mv (t 8)), o 58 (.iad 1 (t 56) (t 57)), o 59 (.load false 1 (t 58)), o 60 (.mv (t 5)), o 61 (.mv (t 7)), o 62 (.iad 1 (t 60) (t 61)), o 63 (.load false 1 (t 62)), o 64 (.mv (t 8)), o 65 (.bin .add (t 64) (k 1)), o 66 (.iad 1 (t 63) (t 65)), o 67 (.load false 1 (t 66)), o 68 (.mm false [(t 51), (t 59), (t 67)]), o 69 (.bin .add (k 1) (t 68)), o 70 (.iad 1 (t 41) (t 42)), on (.store 1 (t 70) (t 69))])))))))))
 (.reg [o 36 (.mv (t 8)), o 37 (.bin .sub (t 36) (k 1)), o 8 (.mv (t 37))])))
def q4_L5_g : Sg := ⟨[0, 1, 5, 7, 8], [.s, .s, .ref 0, .i .i64, .i .i64], [.fm (cs [I])], (cs [.s, .s, I, I, .l (cs [.l (cs [I])])])⟩
def q4_L5_o : List Out1 := [⟨.exit 4, ⟨[0, 1, 5, 7], [.s, .s, .ref 0, .i .i64], [.fm (cs [I])], (cs [.s, .s, I, .l (cs [.l (cs [I])])])⟩⟩]
def q4_L5_s (lo : Lo) : ByteArray × ByteArray × Int × Int × (List ((List Int))) → Option ((ByteArray × ByteArray × Int × Int × (List ((List Int)))) ⊕ ((ByteArray × ByteArray × Int × (List ((List Int)))))) := fun x => match x with
  | (a0, b1, i7, j8, d5) => bif (decide ((0 : Int) ≤ j8)) then (bif (decide (i7 = (a0.size : Int))) then (chk (0 ≤ i7 ∧ i7 < (d5.length : Int)) (chk (0 ≤ j8 ∧ j8 < (((d5.getD i7.toNat []).length : Nat) : Int)) (some (.inl (a0, b1, i7, (IntKind.wrap .i64 (j8 - (1 : Int))), (d5.set i7.toNat ((d5.getD i7.toNat []).set j8.toNat (IntKind.wrap .i64 ((b1.size : Int) - j8))))))))) else (bif (decide (j8 = (b1.size : Int))) then (chk (0 ≤ i7 ∧ i7 < (d5.length : Int)) (chk (0 ≤ j8 ∧ j8 < (((d5.getD i7.toNat []).length : Nat) : Int)) (some (.inl (a0, b1, i7, (IntKind.wrap .i64 (j8 - (1 : Int))), (d5.set i7.toNat ((d5.getD i7.toNat []).set j8.toNat (IntKind.wrap .i64 ((a0.size : Int) - i7))))))))) else (chk (0 ≤ i7 ∧ i7 < (a0.size : Int)) (chk (0 ≤ j8 ∧ j8 < (b1.size : Int)) (bif (decide ((byteI a0 i7) = (byteI b1 j8))) then (chk (0 ≤ i7 ∧ i7 < (d5.length : Int)) (chk (0 ≤ (IntKind.wrap .i64 (i7 + (1 : Int))) ∧ (IntKind.wrap .i64 (i7 + (1 : Int))) < (d5.length : Int)) (chk (0 ≤ (IntKind.wrap .i64 (j8 + (1 : Int))) ∧ (IntKind.wrap .i64 (j8 + (1 : Int))) < (((d5.getD ((IntKind.wrap .i64 (i7 + (1 : Int))).toNat) []).length : Nat) : Int)) (chk (0 ≤ j8 ∧ j8 < (((d5.getD i7.toNat []).length : Nat) : Int)) (some (.inl (a0, b1, i7, (IntKind.wrap .i64 (j8 - (1 : Int))), (d5.set i7.toNat ((d5.getD i7.toNat []).set j8.toNat ((d5.getD ((IntKind.wrap .i64 (i7 + (1 : Int))).toNat) []).getD ((IntKind.wrap .i64 (j8 + (1 : Int))).toNat) (0 : Int))))))))))) else (chk (0 ≤ i7 ∧ i7 < (d5.length : Int)) (chk (0 ≤ (IntKind.wrap .i64 (i7 + (1 : Int))) ∧ (IntKind.wrap .i64 (i7 + (1 : Int))) < (d5.length : Int)) (chk (0 ≤ (IntKind.wrap .i64 (j8 + (1 : Int))) ∧ (IntKind.wrap .i64 (j8 + (1 : Int))) < (((d5.getD ((IntKind.wrap .i64 (i7 + (1 : Int))).toNat) []).length : Nat) : Int)) (chk (0 ≤ (IntKind.wrap .i64 (i7 + (1 : Int))) ∧ (IntKind.wrap .i64 (i7 + (1 : Int))) < (d5.length : Int)) (chk (0 ≤ j8 ∧ j8 < (((d5.getD ((IntKind.wrap .i64 (i7 + (1 : Int))).toNat) []).length : Nat) : Int)) (chk (0 ≤ i7 ∧ i7 < (d5.length : Int)) (chk (0 ≤ (IntKind.wrap .i64 (j8 + (1 : Int))) ∧ (IntKind.wrap .i64 (j8 + (1 : Int))) < (((d5.getD i7.toNat []).length : Nat) : Int)) (chk (0 ≤ j8 ∧ j8 < (((d5.getD i7.toNat []).length : Nat) : Int)) (some (.inl (a0, b1, i7, (IntKind.wrap .i64 (j8 - (1 : Int))), (d5.set i7.toNat ((d5.getD i7.toNat []).set j8.toNat (IntKind.wrap .i64 ((1 : Int) + (min (min ((d5.getD ((IntKind.wrap .i64 (i7 + (1 : Int))).toNat) []).getD ((IntKind.wrap .i64 (j8 + (1 : Int))).toNat) (0 : Int)) ((d5.getD ((IntKind.wrap .i64 (i7 + (1 : Int))).toNat) []).getD j8.toNat (0 : Int))) ((d5.getD i7.toNat []).getD ((IntKind.wrap .i64 (j8 + (1 : Int))).toNat) (0 : Int))))))))))))))))))))))) else (some (.inr (a0, b1, i7, d5)))
theorem q4_L5_e (lo : Lo) : ∀ x : ByteArray × ByteArray × Int × Int × (List ((List Int))), stepL (⟨pf, fs4 lo, [q4_L20_p lo], 0⟩ : Tabs) [] q4_L5_g q4_L5_o q4_L5_b x = q4_L5_s lo x := fun x => by kernel_rfl
def q4_L5 (lo : Lo) : ByteArray × ByteArray × Int × Int × (List ((List Int))) → Option ((ByteArray × ByteArray × Int × (List ((List Int))))) := lo.run (q4_L5_s lo)
def q4_L5_p (lo : Lo) : LpE := ⟨5, [], q4_L5_g, q4_L5_o, q4_L5 lo⟩
theorem q4_L5_k {lo : Lo} (hlo : LoOK lo) (C : Ctx) (hT : TOK (⟨pf, fs4 lo, [q4_L20_p lo], 0⟩ : Tabs) C) : LpSound (fun _ => False) [] 0 C (.loop q4_L5_b.er) (q4_L5_p lo) :=
  loop_sound (T := (⟨pf, fs4 lo, [q4_L20_p lo], 0⟩ : Tabs)) hT frNo (show LsOK (fun _ => False) [] C (⟨pf, fs4 lo, [q4_L20_p lo], 0⟩ : Tabs) q4_L5_b from ⟨⟨trivial, ⟨trivial, trivial⟩⟩, ⟨⟨trivial, ⟨trivial, ⟨trivial, ⟨trivial, ⟨trivial, ⟨trivial, trivial⟩⟩⟩⟩⟩⟩, trivial⟩⟩) (fun x y h => loopO_congr (q4_L5_e lo) (hlo _ _ _ h))
def q4_L3_b : VCode :=
 (.seq (.seq (.reg [o 28 (.mv (t 7)), o 29 (.bin .geq (t 28) (k 0))])
 (.cond (t 29) .skip
 (.exit 2)))
 (.seq (.blk 3 (.seq (.reg [o 32 (.mv (t 1)), o 33 (.lenS (t 32)), o 8 (.mv (t 33))])
 (.blk 4 (.loop 5 q4_L5_b))))
 (.reg [o 30 (.mv (t 7)), o 31 (.bin .sub (t 30) (k 1)), o 7 (.mv (t 31))])))
def q4_L3_g : Sg := ⟨[0, 1, 5, 7], [.s, .s, .ref 0, .i .i64], [.fm (cs [I])], (cs [.s, .s, I, .l (cs [.l (cs [I])])])⟩
def q4_L3_o : List Out1 := [⟨.exit 2, ⟨[5], [.ref 0], [.fm (cs [I])], (cs [.l (cs [.l (cs [I])])])⟩⟩]
def q4_L3_s (lo : Lo) : ByteArray × ByteArray × Int × (List ((List Int))) → Option ((ByteArray × ByteArray × Int × (List ((List Int)))) ⊕ (((List ((List Int)))))) := fun x => match x with
  | (a0, b1, i7, d5) => bif (decide ((0 : Int) ≤ i7)) then (Option.bind (q4_L5 lo (a0, b1, i7, (b1.size : Int), d5)) fun y8 => some (.inl (y8.1, y8.2.1, (IntKind.wrap .i64 (y8.2.2.1 - (1 : Int))), y8.2.2.2))) else (some (.inr d5))
theorem q4_L3_e (lo : Lo) : ∀ x : ByteArray × ByteArray × Int × (List ((List Int))), stepL (⟨pf, fs4 lo, [q4_L5_p lo, q4_L20_p lo], 0⟩ : Tabs) [] q4_L3_g q4_L3_o q4_L3_b x = q4_L3_s lo x := fun x => by kernel_rfl
def q4_L3 (lo : Lo) : ByteArray × ByteArray × Int × (List ((List Int))) → Option (((List ((List Int))))) := lo.run (q4_L3_s lo)
def q4_L3_p (lo : Lo) : LpE := ⟨3, [], q4_L3_g, q4_L3_o, q4_L3 lo⟩
theorem q4_L3_k {lo : Lo} (hlo : LoOK lo) (C : Ctx) (hT : TOK (⟨pf, fs4 lo, [q4_L5_p lo, q4_L20_p lo], 0⟩ : Tabs) C) : LpSound (fun _ => False) [] 0 C (.loop q4_L3_b.er) (q4_L3_p lo) :=
  loop_sound (T := (⟨pf, fs4 lo, [q4_L5_p lo, q4_L20_p lo], 0⟩ : Tabs)) hT frNo (show LsOK (fun _ => False) [] C (⟨pf, fs4 lo, [q4_L5_p lo, q4_L20_p lo], 0⟩ : Tabs) q4_L3_b from ⟨⟨trivial, ⟨trivial, trivial⟩⟩, ⟨⟨trivial, (lsGet (by kernel_rfl) (q4_L5_k hlo C (tok_ls hT)))⟩, trivial⟩⟩) (fun x y h => loopO_congr (q4_L3_e lo) (hlo _ _ _ h))
def q4 (lo : Lo) (a0 : ByteArray) (b1 : ByteArray) : Option ((List ((List Int)))) :=
  chk (0 ≤ (IntKind.wrap .i64 ((a0.size : Int) + (1 : Int))) ∧ (IntKind.wrap .i64 ((a0.size : Int) + (1 : Int))) ≤ (IntKind.wrap .i64 ((a0.size : Int) + (1 : Int))) ∧ (IntKind.wrap .i64 ((a0.size : Int) + (1 : Int))) ≤ (maxEl : Nat)) (Option.bind (q4_L20 lo (a0, b1, ((List.replicate (IntKind.wrap .i64 ((a0.size : Int) + (1 : Int))).toNat ([] : List Int)).length : Int), (0 : Int), (List.replicate (IntKind.wrap .i64 ((a0.size : Int) + (1 : Int))).toNat ([] : List Int)))) fun y7 => Option.bind (q4_L3 lo (y7.1, y7.2.1, (y7.1.size : Int), y7.2.2)) fun y9 => some y9)
def q4_c : VCode :=
 (.seq (.reg [o 4 (.mv (ke (cs [.l (cs [I])])))])
 (.seq (.reg [o 9 (.mv (t 0)), o 10 (.lenS (t 9)), o 11 (.bin .add (t 10) (k 1)), o 12 (.mksl (cs [.l (cs [I])]) 2 (t 11) (t 11)), o 5 (.mv (t 12))])
 (.seq (.seq (.reg [o 13 (.mv (t 5)), o 14 (.len (t 13)), o 15 (.mv (k 0))])
 (.blk 0 (.loop 20 q4_L20_b)))
 (.seq (.seq (.reg [o 26 (.mv (t 0)), o 27 (.lenS (t 26)), o 7 (.mv (t 27))])
 (.blk 2 (.loop 3 q4_L3_b)))
 (.seq (.reg [o 124 (.mv (t 5)), o 4 (.mv (t 124))])
 (.fz [4] .ret))))))
def q4_F : VFn := ⟨true, 125, [.t 4], q4_c⟩
def q4_f (lo : Lo) : FnE := ⟨591, true, ⟨[0, 1], [.s, .s], [], (cs [.s, .s])⟩, .l (cs [.l (cs [I])]), [], (cs [.l (cs [.l (cs [I])])]), (fun x => q4 lo x.1 x.2 : ByteArray × ByteArray → Option ((List ((List Int)))))⟩
theorem q4_e (lo : Lo) : ∀ x : ByteArray × ByteArray, evP (⟨pf, fs4 lo, [q4_L3_p lo, q4_L5_p lo, q4_L20_p lo], 0⟩ : Tabs) q4_F ⟨[0, 1], [.s, .s], [], (cs [.s, .s])⟩ (.l (cs [.l (cs [I])])) (cs [.l (cs [.l (cs [I])])]) x = q4 lo x.1 x.2 := fun x => by kernel_rfl
theorem q4_S {P : Program} {fm : FM} {lo : Lo} (hlo : LoOK lo) (hS : Sound P fm ⟨pf, fs4 lo, [], 0⟩) (hm : P.follows .mixedOrders = true) (htie : ∀ f, fm f = 591 → fnTr P fm pf f = some (q4_F.slots, q4_F.res, q4_F.code.er)) : Sound P fm ⟨pf, q4_f lo :: fs4 lo, [], 0⟩ :=
  fn_sound hS hm [q4_L3_p lo, q4_L5_p lo, q4_L20_p lo] (q4_f lo) rfl q4_F htie (by decide) rfl (Nat.le_of_ble_eq_true (by kernel_rfl)) (fun C hT => show LsOK (fun _ => False) [] C (⟨pf, fs4 lo, [q4_L3_p lo, q4_L5_p lo, q4_L20_p lo], 0⟩ : Tabs) q4_c from ⟨trivial, ⟨trivial, ⟨⟨trivial, (lsGet (by kernel_rfl) (q4_L20_k hlo C (tok_ls hT)))⟩, ⟨⟨trivial, (lsGet (by kernel_rfl) (q4_L3_k hlo C (tok_ls hT)))⟩, ⟨trivial, trivial⟩⟩⟩⟩⟩) (fun x y h => (q4_e lo x).trans h)
def fs5 (lo : Lo) : List FnE := q4_f lo :: fs4 lo
def q5 (lo : Lo) (a0 : ByteArray) (b1 : ByteArray) : Option (Int × Int) :=
  Option.bind (q3 lo ([a0, b1])) fun y6 => bif y6 then (some ((0 : Int), (3 : Int))) else (Option.bind (q4 lo a0 b1) fun y10 => chk (0 ≤ (0 : Int) ∧ (0 : Int) < (y10.length : Int)) (chk (0 ≤ (0 : Int) ∧ (0 : Int) < ((y10.getD 0 []).length : Int)) (some (((y10.getD 0 []).getD 0 (0 : Int)), (0 : Int)))))
def q5_c : VCode :=
 (.seq (.reg [o 4 (.mv (k 0)), o 5 (.mv (k 0))])
 (.seq (.seq (.reg [o 6 (.mv (t 0)), o 7 (.mv (t 1)), o 8 (.bsl (cs [.s]) 2 [(0, (t 6)), (1, (t 7))]), o 9 (.call 590 [(t 8)])])
 (.cond (t 9) (.seq (.reg [o 4 (.mv (k 0)), o 5 (.mv (k 3))])
 (.fz [4, 5] .ret))
 .skip))
 (.seq (.reg [o 10 (.mv (t 0)), o 11 (.mv (t 1)), o 12 (.call 591 [(t 10), (t 11)]), o 13 (.iad 1 (t 12) (k 0)), o 14 (.load false 1 (t 13)), o 15 (.iad 1 (t 14) (k 0)), o 16 (.load false 1 (t 15)), o 4 (.mv (t 16)), o 5 (.mv (k 0))])
 (.fz [4, 5] .ret))))
def q5_F : VFn := ⟨true, 17, [.t 4, .t 5], q5_c⟩
def q5_f (lo : Lo) : FnE := ⟨571, true, ⟨[0, 1], [.s, .s], [], (cs [.s, .s])⟩, .tp [.i .i64, .i .i64], [], (cs [I, I]), (fun x => q5 lo x.1 x.2 : ByteArray × ByteArray → Option (Int × Int))⟩
theorem q5_e (lo : Lo) : ∀ x : ByteArray × ByteArray, evP (⟨pf, fs5 lo, [], 0⟩ : Tabs) q5_F ⟨[0, 1], [.s, .s], [], (cs [.s, .s])⟩ (.tp [.i .i64, .i .i64]) (cs [I, I]) x = q5 lo x.1 x.2 := fun x => by kernel_rfl
theorem q5_S {P : Program} {fm : FM} {lo : Lo} (hlo : LoOK lo) (hS : Sound P fm ⟨pf, fs5 lo, [], 0⟩) (hm : P.follows .mixedOrders = true) (htie : ∀ f, fm f = 571 → fnTr P fm pf f = some (q5_F.slots, q5_F.res, q5_F.code.er)) : Sound P fm ⟨pf, q5_f lo :: fs5 lo, [], 0⟩ :=
  fn_sound hS hm [] (q5_f lo) rfl q5_F htie (by decide) rfl (Nat.le_of_ble_eq_true (by kernel_rfl)) (fun C hT => show LsOK (fun _ => False) [] C (⟨pf, fs5 lo, [], 0⟩ : Tabs) q5_c from ⟨trivial, ⟨⟨trivial, ⟨⟨trivial, trivial⟩, trivial⟩⟩, ⟨trivial, trivial⟩⟩⟩) (fun x y h => (q5_e lo x).trans h)
def fs6 (lo : Lo) : List FnE := q5_f lo :: fs5 lo
def q6 (lo : Lo) (s : ByteArray) (n : Int) : Option ByteArray := bif decide (0 ≤ n) && decide (n ≤ 1048576) && Nat.ble s.size 1048576 then some (repeatF s n) else none
def q6_f (lo : Lo) : FnE := vrepE 594
theorem q6_S {P : Program} {fm : FM} {lo : Lo} (hlo : LoOK lo) (hS : Sound P fm ⟨pf, fs6 lo, [], 0⟩) (hm : P.follows .mixedOrders = true) (hG : ∀ f, fm f = 594 → callable P f = true ∧ ∃ ρ : Go.Shelf.Ren, Go.Proofs.Lays.n105 P ρ ∧ Go.Proofs.Builder.Extra P ρ ∧ ρ.f 105 = f) : Sound P fm ⟨pf, q6_f lo :: fs6 lo, [], 0⟩ :=
  nat_sound hS (e := vrepE 594) rfl (fun f h => by obtain ⟨k1, ρ, k2, k3, k4⟩ := hG f h; exact vrep_fok k2 k3 k4 k1)
def fs7 (lo : Lo) : List FnE := q6_f lo :: fs6 lo
def q7_J9_b : VCode :=
 (.seq (.seq (.reg [o 13 (.mv (t 0)), o 14 (.bin .geq (t 13) (ki .u64 256))])
 (.cond (t 14) (.seq (.reg [o 15 (.mv (t 0)), o 16 (.bin .shr (t 15) (ki .u64 8)), o 0 (.mv (t 16))])
 (.reg [o 17 (.mv (t 2)), o 18 (.bin .add (t 17) (k 8)), o 2 (.mv (t 18))]))
 .skip))
 (.seq (.reg [o 19 (.mv (t 2)), o 20 (.mv (t 0)), o 21 (.conv .u8 (t 20)), o 22 (.idx (ks (⟨#[0, 1, 2, 2, 3, 3, 3, 3, 4, 4, 4, 4, 4, 4, 4, 4, 5, 5, 5, 5, 5, 5, 5, 5, 5, 5, 5, 5, 5, 5, 5, 5, 6, 6, 6, 6, 6, 6, 6, 6, 6, 6, 6, 6, 6, 6, 6, 6, 6, 6, 6, 6, 6, 6, 6, 6, 6, 6, 6, 6, 6, 6, 6, 6, 7, 7, 7, 7, 7, 7, 7, 7, 7, 7, 7, 7, 7, 7, 7, 7, 7, 7, 7, 7, 7, 7, 7, 7, 7, 7, 7, 7, 7, 7, 7, 7, 7, 7, 7, 7, 7, 7, 7, 7, 7, 7, 7, 7, 7, 7, 7, 7, 7, 7, 7, 7, 7, 7, 7, 7, 7, 7, 7, 7, 7, 7, 7, 7, 8, 8, 8, 8, 8, 8, 8, 8, 8, 8, 8, 8, 8, 8, 8, 8, 8, 8, 8, 8, 8, 8, 8, 8, 8, 8, 8, 8, 8, 8, 8, 8, 8, 8, 8, 8, 8, 8, 8, 8, 8, 8, 8, 8, 8, 8, 8, 8, 8, 8, 8, 8, 8, 8, 8, 8, 8, 8, 8, 8, 8, 8, 8, 8, 8, 8, 8, 8, 8, 8, 8, 8, 8, 8, 8, 8, 8, 8, 8, 8, 8, 8, 8, 8, 8, 8, 8, 8, 8, 8, 8, 8, 8, 8, 8, 8, 8, 8, 8, 8, 8, 8, 8, 8, 8, 8, 8, 8, 8, 8, 8, 8, 8, 8, 8, 8, 8, 8, 8, 8, 8, 8, 8, 8, 8, 8, 8, 8]⟩)) (t 21)), o 23 (.conv .i64 (t 22)), o 24 (.bin .add (t 19) (t 23)), o 2 (.mv (t 24))])
 (.fz [2] .ret)))
def q7_J9_g : Sg := ⟨[0, 2], [.i .u64, .i .i64], [], (cs [.i .u64, I])⟩
def q7_J9_o : List Out1 := [⟨.ret, ⟨[2], [.i .i64], [], (cs [I])⟩⟩]
def q7_J9 (lo : Lo) : Int × Int → Option Int := fun x => match x with
  | (x0, n2) => bif (decide ((256 : Int) ≤ x0)) then (chk (0 ≤ (8 : Int)) (chk (0 ≤ (IntKind.wrap .u8 (x0.fdiv (2 ^ (min (8 : Int).toNat (IntKind.bits .u64))))) ∧ (IntKind.wrap .u8 (x0.fdiv (2 ^ (min (8 : Int).toNat (IntKind.bits .u64))))) < ((ByteArray.mk #[0, 1, 2, 2, 3, 3, 3, 3, 4, 4, 4, 4, 4, 4, 4, 4, 5, 5, 5, 5, 5, 5, 5, 5, 5, 5, 5, 5, 5, 5, 5, 5, 6, 6, 6, 6, 6, 6, 6, 6, 6, 6, 6, 6, 6, 6, 6, 6, 6, 6, 6, 6, 6, 6, 6, 6, 6, 6, 6, 6, 6, 6, 6, 6, 7, 7, 7, 7, 7, 7, 7, 7, 7, 7, 7, 7, 7, 7, 7, 7, 7, 7, 7, 7, 7, 7, 7, 7, 7, 7, 7, 7, 7, 7, 7, 7, 7, 7, 7, 7, 7, 7, 7, 7, 7, 7, 7, 7, 7, 7, 7, 7, 7, 7, 7, 7, 7, 7, 7, 7, 7, 7, 7, 7, 7, 7, 7, 7, 8, 8, 8, 8, 8, 8, 8, 8, 8, 8, 8, 8, 8, 8, 8, 8, 8, 8, 8, 8, 8, 8, 8, 8, 8, 8, 8, 8, 8, 8, 8, 8, 8, 8, 8, 8, 8, 8, 8, 8, 8, 8, 8, 8, 8, 8, 8, 8, 8, 8, 8, 8, 8, 8, 8, 8, 8, 8, 8, 8, 8, 8, 8, 8, 8, 8, 8, 8, 8, 8, 8, 8, 8, 8, 8, 8, 8, 8, 8, 8, 8, 8, 8, 8, 8, 8, 8, 8, 8, 8, 8, 8, 8, 8, 8, 8, 8, 8, 8, 8, 8, 8, 8, 8, 8, 8, 8, 8, 8, 8, 8, 8, 8, 8, 8, 8, 8, 8, 8, 8, 8, 8, 8, 8, 8, 8, 8, 8]).size : Int)) (some (IntKind.wrap .i64 ((IntKind.wrap .i64 (n2 + (8 : Int))) + (IntKind.wrap .i64 (byteI (ByteArray.mk #[0, 1, 2, 2, 3, 3, 3, 3, 4, 4, 4, 4, 4, 4, 4, 4, 5, 5, 5, 5, 5, 5, 5, 5, 5, 5, 5, 5, 5, 5, 5, 5, 6, 6, 6, 6, 6, 6, 6, 6, 6, 6, 6, 6, 6, 6, 6, 6, 6, 6, 6, 6, 6, 6, 6, 6, 6, 6, 6, 6, 6, 6, 6, 6, 7, 7, 7, 7, 7, 7, 7, 7, 7, 7, 7, 7, 7, 7, 7, 7, 7, 7, 7, 7, 7, 7, 7, 7, 7, 7, 7, 7, 7, 7, 7, 7, 7, 7, 7, 7, 7, 7, 7, 7, 7, 7, 7, 7, 7, 7, 7, 7, 7, 7, 7, 7, 7, 7, 7, 7, 7, 7, 7, 7, 7, 7, 7, 7, 8, 8, 8, 8, 8, 8, 8, 8, 8, 8, 8, 8, 8, 8, 8, 8, 8, 8, 8, 8, 8, 8, 8, 8, 8, 8, 8, 8, 8, 8, 8, 8, 8, 8, 8, 8, 8, 8, 8, 8, 8, 8, 8, 8, 8, 8, 8, 8, 8, 8, 8, 8, 8, 8, 8, 8, 8, 8, 8, 8, 8, 8, 8, 8, 8, 8, 8, 8, 8, 8, 8, 8, 8, 8, 8, 8, 8, 8, 8, 8, 8, 8, 8, 8, 8, 8, 8, 8, 8, 8, 8, 8, 8, 8, 8, 8, 8, 8, 8, 8, 8, 8, 8, 8, 8, 8, 8, 8, 8, 8, 8, 8, 8, 8, 8, 8, 8, 8, 8, 8, 8, 8, 8, 8, 8, 8, 8, 8]) (IntKind.wrap .u8 (x0.fdiv (2 ^ (min (8 : Int).toNat (IntKind.bits .u64)))))))))))) else (chk (0 ≤ (IntKind.wrap .u8 x0) ∧ (IntKind.wrap .u8 x0) < ((ByteArray.mk #[0, 1, 2, 2, 3, 3, 3, 3, 4, 4, 4, 4, 4, 4, 4, 4, 5, 5, 5, 5, 5, 5, 5, 5, 5, 5, 5, 5, 5, 5, 5, 5, 6, 6, 6, 6, 6, 6, 6, 6, 6, 6, 6, 6, 6, 6, 6, 6, 6, 6, 6, 6, 6, 6, 6, 6, 6, 6, 6, 6, 6, 6, 6, 6, 7, 7, 7, 7, 7, 7, 7, 7, 7, 7, 7, 7, 7, 7, 7, 7, 7, 7, 7, 7, 7, 7, 7, 7, 7, 7, 7, 7, 7, 7, 7, 7, 7, 7, 7, 7, 7, 7, 7, 7, 7, 7, 7, 7, 7, 7, 7, 7, 7, 7, 7, 7, 7, 7, 7, 7, 7, 7, 7, 7, 7, 7, 7, 7, 8, 8, 8, 8, 8, 8, 8, 8, 8, 8, 8, 8, 8, 8, 8, 8, 8, 8, 8, 8, 8, 8, 8, 8, 8, 8, 8, 8, 8, 8, 8, 8, 8, 8, 8, 8, 8, 8, 8, 8, 8, 8, 8, 8, 8, 8, 8, 8, 8, 8, 8, 8, 8, 8, 8, 8, 8, 8, 8, 8, 8, 8, 8, 8, 8, 8, 8, 8, 8, 8, 8, 8, 8, 8, 8, 8, 8, 8, 8, 8, 8, 8, 8, 8, 8, 8, 8, 8, 8, 8, 8, 8, 8, 8, 8, 8, 8, 8, 8, 8, 8, 8, 8, 8, 8, 8, 8, 8, 8, 8, 8, 8, 8, 8, 8, 8, 8, 8, 8, 8, 8, 8, 8, 8, 8, 8, 8, 8]).size : Int)) (some (IntKind.wrap .i64 (n2 + (IntKind.wrap .i64 (byteI (ByteArray.mk #[0, 1, 2, 2, 3, 3, 3, 3, 4, 4, 4, 4, 4, 4, 4, 4, 5, 5, 5, 5, 5, 5, 5, 5, 5, 5, 5, 5, 5, 5, 5, 5, 6, 6, 6, 6, 6, 6, 6, 6, 6, 6, 6, 6, 6, 6, 6, 6, 6, 6, 6, 6, 6, 6, 6, 6, 6, 6, 6, 6, 6, 6, 6, 6, 7, 7, 7, 7, 7, 7, 7, 7, 7, 7, 7, 7, 7, 7, 7, 7, 7, 7, 7, 7, 7, 7, 7, 7, 7, 7, 7, 7, 7, 7, 7, 7, 7, 7, 7, 7, 7, 7, 7, 7, 7, 7, 7, 7, 7, 7, 7, 7, 7, 7, 7, 7, 7, 7, 7, 7, 7, 7, 7, 7, 7, 7, 7, 7, 8, 8, 8, 8, 8, 8, 8, 8, 8, 8, 8, 8, 8, 8, 8, 8, 8, 8, 8, 8, 8, 8, 8, 8, 8, 8, 8, 8, 8, 8, 8, 8, 8, 8, 8, 8, 8, 8, 8, 8, 8, 8, 8, 8, 8, 8, 8, 8, 8, 8, 8, 8, 8, 8, 8, 8, 8, 8, 8, 8, 8, 8, 8, 8, 8, 8, 8, 8, 8, 8, 8, 8, 8, 8, 8, 8, 8, 8, 8, 8, 8, 8, 8, 8, 8, 8, 8, 8, 8, 8, 8, 8, 8, 8, 8, 8, 8, 8, 8, 8, 8, 8, 8, 8, 8, 8, 8, 8, 8, 8, 8, 8, 8, 8, 8, 8, 8, 8, 8, 8, 8, 8, 8, 8, 8, 8, 8, 8]) (IntKind.wrap .u8 x0)))))))
theorem q7_J9_e (lo : Lo) : ∀ x : Int × Int, stepJ (⟨pf, fs7 lo, [], 0⟩ : Tabs) q7_J9_g q7_J9_o q7_J9_b x = q7_J9 lo x := fun x => by kernel_rfl
def q7_J9_p (lo : Lo) : LpE := ⟨9, [], q7_J9_g, q7_J9_o, q7_J9 lo⟩
theorem q7_J9_k {lo : Lo} (hlo : LoOK lo) (C : Ctx) (hT : TOK (⟨pf, fs7 lo, [], 0⟩ : Tabs) C) : LpSound (fun _ => False) [] 0 C q7_J9_b.er (q7_J9_p lo) :=
  jn_sound (T := (⟨pf, fs7 lo, [], 0⟩ : Tabs)) hT frNo (show LsOK (fun _ => False) [] C (⟨pf, fs7 lo, [], 0⟩ : Tabs) q7_J9_b from ⟨⟨trivial, ⟨⟨trivial, trivial⟩, trivial⟩⟩, ⟨trivial, trivial⟩⟩) (fun x y h => (q7_J9_e lo x).trans h)
def q7 (lo : Lo) (x0 : Int) : Option Int :=
  bif (decide ((4294967296 : Int) ≤ x0)) then (chk (0 ≤ (32 : Int)) (bif (decide ((65536 : Int) ≤ (x0.fdiv (2 ^ (min (32 : Int).toNat (IntKind.bits .u64)))))) then (chk (0 ≤ (16 : Int)) (Option.bind (q7_J9 lo (((x0.fdiv (2 ^ (min (32 : Int).toNat (IntKind.bits .u64)))).fdiv (2 ^ (min (16 : Int).toNat (IntKind.bits .u64)))), (IntKind.wrap .i64 ((32 : Int) + (16 : Int))))) fun y15 => some y15)) else (Option.bind (q7_J9 lo ((x0.fdiv (2 ^ (min (32 : Int).toNat (IntKind.bits .u64)))), (32 : Int))) fun y16 => some y16))) else (bif (decide ((65536 : Int) ≤ x0)) then (chk (0 ≤ (16 : Int)) (Option.bind (q7_J9 lo ((x0.fdiv (2 ^ (min (16 : Int).toNat (IntKind.bits .u64)))), (IntKind.wrap .i64 ((0 : Int) + (16 : Int))))) fun y17 => some y17)) else (Option.bind (q7_J9 lo (x0, (0 : Int))) fun y18 => some y18))
def q7_c : VCode :=
 (.seq (.reg [o 2 (.mv (k 0))])
 (.seq (.seq (.reg [o 3 (.mv (t 0)), o 4 (.bin .geq (t 3) (ki .u64 4294967296))])
 (.cond (t 4) (.seq (.reg [o 5 (.mv (t 0)), o 6 (.bin .shr (t 5) (ki .u64 32)), o 0 (.mv (t 6))])
 (.reg [o 2 (.mv (k 32))]))
 .skip))
 (.seq (.seq (.reg [o 7 (.mv (t 0)), o 8 (.bin .geq (t 7) (ki .u64 65536))])
 (.cond (t 8) (.seq (.reg [o 9 (.mv (t 0)), o 10 (.bin .shr (t 9) (ki .u64 16)), o 0 (.mv (t 10))])
 (.reg [o 11 (.mv (t 2)), o 12 (.bin .add (t 11) (k 16)), o 2 (.mv (t 12))]))
 .skip))
 (.jn 9 q7_J9_b))))
def q7_F : VFn := ⟨true, 25, [.t 2], q7_c⟩
def q7_f (lo : Lo) : FnE := ⟨187, true, ⟨[0], [.i .u64], [], (cs [.i .u64])⟩, .i .i64, [], (cs [I]), (fun x => q7 lo x : Int → Option Int)⟩
theorem q7_e (lo : Lo) : ∀ x : Int, evP (⟨pf, fs7 lo, [q7_J9_p lo], 0⟩ : Tabs) q7_F ⟨[0], [.i .u64], [], (cs [.i .u64])⟩ (.i .i64) (cs [I]) x = q7 lo x := fun x => by kernel_rfl
theorem q7_S {P : Program} {fm : FM} {lo : Lo} (hlo : LoOK lo) (hS : Sound P fm ⟨pf, fs7 lo, [], 0⟩) (hm : P.follows .mixedOrders = true) (htie : ∀ f, fm f = 187 → fnTr P fm pf f = some (q7_F.slots, q7_F.res, q7_F.code.er)) : Sound P fm ⟨pf, q7_f lo :: fs7 lo, [], 0⟩ :=
  fn_sound hS hm [q7_J9_p lo] (q7_f lo) rfl q7_F htie (by decide) rfl (Nat.le_of_ble_eq_true (by kernel_rfl)) (fun C hT => show LsOK (fun _ => False) [] C (⟨pf, fs7 lo, [q7_J9_p lo], 0⟩ : Tabs) q7_c from ⟨trivial, ⟨⟨trivial, ⟨⟨trivial, trivial⟩, trivial⟩⟩, ⟨⟨trivial, ⟨⟨trivial, trivial⟩, trivial⟩⟩, (lsGet (by kernel_rfl) (q7_J9_k hlo C (tok_ls hT)))⟩⟩⟩) (fun x y h => (q7_e lo x).trans h)
def fs8 (lo : Lo) : List FnE := q7_f lo :: fs7 lo
def q8 (lo : Lo) (x0 : Int) : Option Int :=
  Option.bind (q7 lo x0) fun y19 => some y19
def q8_c : VCode :=
 (.seq (.reg [o 2 (.mv (k 0))])
 (.seq (.cond (kb false) (.seq (.reg [o 3 (.mv (t 0)), o 4 (.conv .u32 (t 3)), o 5 (.call 186 [(t 4)]), o 2 (.mv (t 5))])
 (.fz [2] .ret))
 .skip)
 (.seq (.reg [o 6 (.mv (t 0)), o 7 (.call 187 [(t 6)]), o 2 (.mv (t 7))])
 (.fz [2] .ret))))
def q8_F : VFn := ⟨true, 8, [.t 2], q8_c⟩
def q8_f (lo : Lo) : FnE := ⟨163, true, ⟨[0], [.i .u64], [], (cs [.i .u64])⟩, .i .i64, [], (cs [I]), (fun x => q8 lo x : Int → Option Int)⟩
theorem q8_e (lo : Lo) : ∀ x : Int, evP (⟨pf, fs8 lo, [], 0⟩ : Tabs) q8_F ⟨[0], [.i .u64], [], (cs [.i .u64])⟩ (.i .i64) (cs [I]) x = q8 lo x := fun x => by kernel_rfl
theorem q8_S {P : Program} {fm : FM} {lo : Lo} (hlo : LoOK lo) (hS : Sound P fm ⟨pf, fs8 lo, [], 0⟩) (hm : P.follows .mixedOrders = true) (htie : ∀ f, fm f = 163 → fnTr P fm pf f = some (q8_F.slots, q8_F.res, q8_F.code.er)) : Sound P fm ⟨pf, q8_f lo :: fs8 lo, [], 0⟩ :=
  fn_sound hS hm [] (q8_f lo) rfl q8_F htie (by decide) rfl (Nat.le_of_ble_eq_true (by kernel_rfl)) (fun C hT => show LsOK (fun _ => False) [] C (⟨pf, fs8 lo, [], 0⟩ : Tabs) q8_c from ⟨trivial, ⟨⟨⟨trivial, trivial⟩, trivial⟩, ⟨trivial, trivial⟩⟩⟩) (fun x y h => (q8_e lo x).trans h)
def fs9 (lo : Lo) : List FnE := q8_f lo :: fs8 lo
def q9 (lo : Lo) (x0 : ByteArray) : Option Bool :=
  some (!decide (x0 = x0))
def q9_c : VCode :=
 (.seq (.reg [o 2 (.mv (kb false))])
 (.seq (.reg [o 3 (.mv (t 0)), o 4 (.mv (t 0)), o 5 (.bin .neq (t 3) (t 4)), o 2 (.mv (t 5))])
 (.fz [2] .ret)))
def q9_F : VFn := ⟨true, 6, [.t 2], q9_c⟩
def q9_f (lo : Lo) : FnE := ⟨325, true, ⟨[0], [.s], [], (cs [.s])⟩, .b, [], (cs [.b]), (fun x => q9 lo x : ByteArray → Option Bool)⟩
theorem q9_e (lo : Lo) : ∀ x : ByteArray, evP (⟨pf, fs9 lo, [], 0⟩ : Tabs) q9_F ⟨[0], [.s], [], (cs [.s])⟩ (.b) (cs [.b]) x = q9 lo x := fun x => by kernel_rfl
theorem q9_S {P : Program} {fm : FM} {lo : Lo} (hlo : LoOK lo) (hS : Sound P fm ⟨pf, fs9 lo, [], 0⟩) (hm : P.follows .mixedOrders = true) (htie : ∀ f, fm f = 325 → fnTr P fm pf f = some (q9_F.slots, q9_F.res, q9_F.code.er)) : Sound P fm ⟨pf, q9_f lo :: fs9 lo, [], 0⟩ :=
  fn_sound hS hm [] (q9_f lo) rfl q9_F htie (by decide) rfl (Nat.le_of_ble_eq_true (by kernel_rfl)) (fun C hT => show LsOK (fun _ => False) [] C (⟨pf, fs9 lo, [], 0⟩ : Tabs) q9_c from ⟨trivial, ⟨trivial, trivial⟩⟩) (fun x y h => (q9_e lo x).trans h)
def fs10 (lo : Lo) : List FnE := q9_f lo :: fs9 lo
def q10 (lo : Lo) (x0 : ByteArray) (y1 : ByteArray) : Option Bool :=
  Option.bind (q9 lo x0) fun y21 => bif y21 then (Option.bind (q9 lo y1) fun y22 => bif (!y22) then (some true) else (some (Op.bytesLess x0.toList y1.toList))) else (some (Op.bytesLess x0.toList y1.toList))
def q10_c : VCode :=
 (.seq (.reg [o 4 (.mv (kb false))])
 (.seq (.reg [o 5 (.mv (t 0)), o 6 (.call 325 [(t 5)]), o 7 (.mv (t 6)), og 8 7 true (.mv (t 1)), og 9 7 true (.call 325 [(t 8)]), og 10 7 true (.not (t 9)), o 11 (.pick (t 7) (t 10) (kb false)), o 12 (.mv (t 11)), og 13 12 false (.mv (t 0)), og 14 12 false (.mv (t 1)), og 15 12 false (.bin .lss (t 13) (t 14)), o 16 (.pick (t 12) (kb true) (t 15)), o 4 (.mv (t 16))])
 (.fz [4] .ret)))
def q10_F : VFn := ⟨true, 17, [.t 4], q10_c⟩
def q10_f (lo : Lo) : FnE := ⟨317, true, ⟨[0, 1], [.s, .s], [], (cs [.s, .s])⟩, .b, [], (cs [.b]), (fun x => q10 lo x.1 x.2 : ByteArray × ByteArray → Option Bool)⟩
theorem q10_e (lo : Lo) : ∀ x : ByteArray × ByteArray, evP (⟨pf, fs10 lo, [], 0⟩ : Tabs) q10_F ⟨[0, 1], [.s, .s], [], (cs [.s, .s])⟩ (.b) (cs [.b]) x = q10 lo x.1 x.2 := fun x => by kernel_rfl
theorem q10_S {P : Program} {fm : FM} {lo : Lo} (hlo : LoOK lo) (hS : Sound P fm ⟨pf, fs10 lo, [], 0⟩) (hm : P.follows .mixedOrders = true) (htie : ∀ f, fm f = 317 → fnTr P fm pf f = some (q10_F.slots, q10_F.res, q10_F.code.er)) : Sound P fm ⟨pf, q10_f lo :: fs10 lo, [], 0⟩ :=
  fn_sound hS hm [] (q10_f lo) rfl q10_F htie (by decide) rfl (Nat.le_of_ble_eq_true (by kernel_rfl)) (fun C hT => show LsOK (fun _ => False) [] C (⟨pf, fs10 lo, [], 0⟩ : Tabs) q10_c from ⟨trivial, ⟨trivial, trivial⟩⟩) (fun x y h => (q10_e lo x).trans h)
def fs11 (lo : Lo) : List FnE := q10_f lo :: fs10 lo
def q11_L3_b : VCode :=
 (.seq (.seq (.reg [o 16 (.mv (t 7)), o 17 (.mv (t 1)), o 18 (.bin .gtr (t 16) (t 17)), o 19 (.mv (t 18)), og 20 19 true (.mv (t 0)), og 21 19 true (.mv (t 7)), og 22 19 true (.iad 1 (t 20) (t 21)), og 23 19 true (.load false 1 (t 22)), og 24 19 true (.mv (t 0)), og 25 19 true (.mv (t 7)), og 26 19 true (.bin .sub (t 25) (k 1)), og 27 19 true (.iad 1 (t 24) (t 26)), og 28 19 true (.load false 1 (t 27)), og 29 19 true (.call 317 [(t 23), (t 28)]), o 30 (.pick (t 19) (t 29) (kb false))])
 (.cond (t 30) .skip
 (.exit 2)))
 (.seq (.blk 3 (.reg [o 33 (.mv (t 0)), o 34 (.mv (t 7)), o 35 (.mv (t 0)), o 36 (.mv (t 7)), o 37 (.bin .sub (t 36) (k 1)), o 38 (.mv (t 0)), o 39 (.mv (t 7)), o 40 (.bin .sub (t 39) (k 1)), o 41 (.iad 1 (t 38) (t 40)), o 42 (.load false 1 (t 41)), o 43 (.mv (t 0)), o 44 (.mv (t 7)), o 45 (.iad 1 (t 43) (t 44)), o 46 (.load false 1 (t 45)), o 47 (.iad 1 (t 33) (t 34)), on (.store 1 (t 47) (t 42)), o 48 (.iad 1 (t 35) (t 37)), on (.store 1 (t 48) (t 46))]))
 (.reg [o 31 (.mv (t 7)), o 32 (.bin .sub (t 31) (k 1)), o 7 (.mv (t 32))])))
def q11_L3_g : Sg := ⟨[0, 1, 2, 6, 7], [.ref 0, .i .i64, .i .i64, .i .i64, .i .i64], [.sq (cs [.s])], (cs [I, I, I, I, .l (cs [.s])])⟩
def q11_L3_o : List Out1 := [⟨.exit 2, ⟨[0, 1, 2, 6], [.ref 0, .i .i64, .i .i64, .i .i64], [.sq (cs [.s])], (cs [I, I, I, .l (cs [.s])])⟩⟩]
def q11_L3_s (lo : Lo) : Int × Int × Int × Int × (List ByteArray) → Option ((Int × Int × Int × Int × (List ByteArray)) ⊕ ((Int × Int × Int × (List ByteArray)))) := fun x => match x with
  | (a1, b2, i6, j7, data0) => bif (decide (a1 < j7)) then (chk (0 ≤ j7 ∧ j7 < (data0.length : Int)) (chk (0 ≤ (IntKind.wrap .i64 (j7 - (1 : Int))) ∧ (IntKind.wrap .i64 (j7 - (1 : Int))) < (data0.length : Int)) (Option.bind (q10 lo (data0.getD j7.toNat (ByteArray.mk #[])) (data0.getD ((IntKind.wrap .i64 (j7 - (1 : Int))).toNat) (ByteArray.mk #[]))) fun y23 => bif y23 then (chk (0 ≤ (IntKind.wrap .i64 (j7 - (1 : Int))) ∧ (IntKind.wrap .i64 (j7 - (1 : Int))) < (data0.length : Int)) (chk (0 ≤ j7 ∧ j7 < (data0.length : Int)) (chk (0 ≤ j7 ∧ j7 < (data0.length : Int)) (chk (0 ≤ (IntKind.wrap .i64 (j7 - (1 : Int))) ∧ (IntKind.wrap .i64 (j7 - (1 : Int))) < ((data0.set j7.toNat (data0.getD ((IntKind.wrap .i64 (j7 - (1 : Int))).toNat) (ByteArray.mk #[]))).length : Int)) (some (.inl (a1, b2, i6, (IntKind.wrap .i64 (j7 - (1 : Int))), ((data0.set j7.toNat (data0.getD ((IntKind.wrap .i64 (j7 - (1 : Int))).toNat) (ByteArray.mk #[]))).set ((IntKind.wrap .i64 (j7 - (1 : Int))).toNat) (data0.getD j7.toNat (ByteArray.mk #[])))))))))) else (some (.inr (a1, b2, i6, data0)))))) else (some (.inr (a1, b2, i6, data0)))
theorem q11_L3_e (lo : Lo) : ∀ x : Int × Int × Int × Int × (List ByteArray), stepL (⟨pf, fs11 lo, [], 1⟩ : Tabs) [] q11_L3_g q11_L3_o q11_L3_b x = q11_L3_s lo x := fun x => by kernel_rfl
def q11_L3 (lo : Lo) : Int × Int × Int × Int × (List ByteArray) → Option ((Int × Int × Int × (List ByteArray))) := lo.run (q11_L3_s lo)
def q11_L3_p (lo : Lo) : LpE := ⟨3, [], q11_L3_g, q11_L3_o, q11_L3 lo⟩
theorem q11_L3_k {lo : Lo} (hlo : LoOK lo) (C : Ctx) (hT : TOK (⟨pf, fs11 lo, [], 1⟩ : Tabs) C) {Fr : Nat → Prop} {H0 : Heap} (hf : FrOK Fr H0) : LpSound Fr H0 1 C (.loop q11_L3_b.er) (q11_L3_p lo) :=
  loop_sound (T := (⟨pf, fs11 lo, [], 1⟩ : Tabs)) hT hf (show LsOK Fr H0 C (⟨pf, fs11 lo, [], 1⟩ : Tabs) q11_L3_b from ⟨⟨trivial, ⟨trivial, trivial⟩⟩, ⟨trivial, trivial⟩⟩) (fun x y h => loopO_congr (q11_L3_e lo) (hlo _ _ _ h))
def q11_L1_b : VCode :=
 (.seq (.seq (.reg [o 10 (.mv (t 6)), o 11 (.mv (t 2)), o 12 (.bin .lss (t 10) (t 11))])
 (.cond (t 12) .skip
 (.exit 0)))
 (.seq (.blk 1 (.seq (.reg [o 15 (.mv (t 6)), o 7 (.mv (t 15))])
 (.blk 2 (.loop 3 q11_L3_b))))
 (.reg [o 13 (.mv (t 6)), o 14 (.bin .add (t 13) (k 1)), o 6 (.mv (t 14))])))
def q11_L1_g : Sg := ⟨[0, 1, 2, 6], [.ref 0, .i .i64, .i .i64, .i .i64], [.sq (cs [.s])], (cs [I, I, I, .l (cs [.s])])⟩
def q11_L1_o : List Out1 := [⟨.exit 0, ⟨[], [], [.sq (cs [.s])], (cs [.l (cs [.s])])⟩⟩]
def q11_L1_s (lo : Lo) : Int × Int × Int × (List ByteArray) → Option ((Int × Int × Int × (List ByteArray)) ⊕ (((List ByteArray)))) := fun x => match x with
  | (a1, b2, i6, data0) => bif (decide (i6 < b2)) then (Option.bind (q11_L3 lo (a1, b2, i6, i6, data0)) fun y24 => some (.inl (y24.1, y24.2.1, (IntKind.wrap .i64 (y24.2.2.1 + (1 : Int))), y24.2.2.2))) else (some (.inr data0))
theorem q11_L1_e (lo : Lo) : ∀ x : Int × Int × Int × (List ByteArray), stepL (⟨pf, fs11 lo, [q11_L3_p lo], 1⟩ : Tabs) [] q11_L1_g q11_L1_o q11_L1_b x = q11_L1_s lo x := fun x => by kernel_rfl
def q11_L1 (lo : Lo) : Int × Int × Int × (List ByteArray) → Option (((List ByteArray))) := lo.run (q11_L1_s lo)
def q11_L1_p (lo : Lo) : LpE := ⟨1, [], q11_L1_g, q11_L1_o, q11_L1 lo⟩
theorem q11_L1_k {lo : Lo} (hlo : LoOK lo) (C : Ctx) (hT : TOK (⟨pf, fs11 lo, [q11_L3_p lo], 1⟩ : Tabs) C) {Fr : Nat → Prop} {H0 : Heap} (hf : FrOK Fr H0) : LpSound Fr H0 1 C (.loop q11_L1_b.er) (q11_L1_p lo) :=
  loop_sound (T := (⟨pf, fs11 lo, [q11_L3_p lo], 1⟩ : Tabs)) hT hf (show LsOK Fr H0 C (⟨pf, fs11 lo, [q11_L3_p lo], 1⟩ : Tabs) q11_L1_b from ⟨⟨trivial, ⟨trivial, trivial⟩⟩, ⟨⟨trivial, (lsGet (by kernel_rfl) (q11_L3_k hlo C (tok_ls hT) hf))⟩, trivial⟩⟩) (fun x y h => loopO_congr (q11_L1_e lo) (hlo _ _ _ h))
def q11 (lo : Lo) (a1 : Int) (b2 : Int) (data0 : List ByteArray) : Option ((List ByteArray)) :=
  Option.bind (q11_L1 lo (a1, b2, (IntKind.wrap .i64 (a1 + (1 : Int))), data0)) fun y25 => some y25
def q11_c : VCode :=
 (.seq (.reg [o 8 (.mv (t 1)), o 9 (.bin .add (t 8) (k 1)), o 6 (.mv (t 9))])
 (.blk 0 (.loop 1 q11_L1_b)))
def q11_F : VFn := ⟨true, 49, [], q11_c⟩
def q11_f (lo : Lo) : FnE := ⟨311, false, ⟨[0, 1, 2], [.ref 0, .i .i64, .i .i64], [.sq (cs [.s])], (cs [I, I, .l (cs [.s])])⟩, .tp [], [.sq (cs [.s])], (cs [.l (cs [.s])]), (fun x => q11 lo x.1 x.2.1 x.2.2 : Int × Int × (List ByteArray) → Option ((List ByteArray)))⟩
theorem q11_e (lo : Lo) : ∀ x : Int × Int × (List ByteArray), evI (⟨pf, fs11 lo, [q11_L1_p lo, q11_L3_p lo], 1⟩ : Tabs) q11_F ⟨[0, 1, 2], [.ref 0, .i .i64, .i .i64], [.sq (cs [.s])], (cs [I, I, .l (cs [.s])])⟩ (.tp []) [.sq (cs [.s])] (cs [.l (cs [.s])]) x = q11 lo x.1 x.2.1 x.2.2 := fun x => by kernel_rfl
theorem q11_S {P : Program} {fm : FM} {lo : Lo} (hlo : LoOK lo) (hS : Sound P fm ⟨pf, fs11 lo, [], 0⟩) (hm : P.follows .mixedOrders = true) (htie : ∀ f, fm f = 311 → fnTr P fm pf f = some (q11_F.slots, q11_F.res, q11_F.code.er)) : Sound P fm ⟨pf, q11_f lo :: fs11 lo, [], 0⟩ :=
  fnI_sound hS hm [q11_L1_p lo, q11_L3_p lo] (q11_f lo) rfl q11_F htie (by decide) rfl (Nat.le_of_ble_eq_true (by kernel_rfl)) (fun C hT Fr H0 hf => show LsOK Fr H0 C (⟨pf, fs11 lo, [q11_L1_p lo, q11_L3_p lo], 1⟩ : Tabs) q11_c from ⟨trivial, (lsGet (by kernel_rfl) (q11_L1_k hlo C (tok_ls hT) hf))⟩) (fun x y h => (q11_e lo x).trans h)
def fs12 (lo : Lo) : List FnE := q11_f lo :: fs11 lo
def q12 (lo : Lo) (x0 : Int) (x1 : Int) (x2 : List ByteArray) : Option ((List ByteArray)) := none
def q12_f (lo : Lo) : FnE := ⟨312, false, ⟨[0, 1, 2], [.ref 0, .i .i64, .i .i64], [.sq (cs [.s])], (cs [I, I, .l (cs [.s])])⟩, .tp [], [.sq (cs [.s])], (cs [.l (cs [.s])]), (fun x => q12 lo x.1 x.2.1 x.2.2 : Int × Int × (List ByteArray) → Option ((List ByteArray)))⟩
theorem q12_S {P : Program} {fm : FM} {lo : Lo} (hlo : LoOK lo) (hS : Sound P fm ⟨pf, fs12 lo, [], 0⟩) (hm : P.follows .mixedOrders = true) (hN : True) : Sound P fm ⟨pf, q12_f lo :: fs12 lo, [], 0⟩ :=
  none_sound hS (q12_f lo) (fun _ => rfl)
def fs13 (lo : Lo) : List FnE := q12_f lo :: fs12 lo
def q13 (lo : Lo) (x0 : Int) (x1 : Int) (x2 : List ByteArray) : Option ((List ByteArray)) := none
def q13_f (lo : Lo) : FnE := ⟨313, false, ⟨[0, 1, 2], [.ref 0, .i .i64, .i .i64], [.sq (cs [.s])], (cs [I, I, .l (cs [.s])])⟩, .tp [], [.sq (cs [.s])], (cs [.l (cs [.s])]), (fun x => q13 lo x.1 x.2.1 x.2.2 : Int × Int × (List ByteArray) → Option ((List ByteArray)))⟩
theorem q13_S {P : Program} {fm : FM} {lo : Lo} (hlo : LoOK lo) (hS : Sound P fm ⟨pf, fs13 lo, [], 0⟩) (hm : P.follows .mixedOrders = true) (hN : True) : Sound P fm ⟨pf, q13_f lo :: fs13 lo, [], 0⟩ :=
  none_sound hS (q13_f lo) (fun _ => rfl)
def fs14 (lo : Lo) : List FnE := q13_f lo :: fs13 lo
def q14 (lo : Lo) (x0 : List ByteArray) (x1 : Int) (x2 : Int) : Option (Int × Int) := none
def q14_f (lo : Lo) : FnE := ⟨314, true, ⟨[0, 1, 2], [.l (cs [.s]), .i .i64, .i .i64], [], (cs [.l (cs [.s]), I, I])⟩, .tp [.i .i64, .i .i64], [], (cs [I, I]), (fun x => q14 lo x.1 x.2.1 x.2.2 : (List ByteArray) × Int × Int → Option (Int × Int))⟩
theorem q14_S {P : Program} {fm : FM} {lo : Lo} (hlo : LoOK lo) (hS : Sound P fm ⟨pf, fs14 lo, [], 0⟩) (hm : P.follows .mixedOrders = true) (hN : True) : Sound P fm ⟨pf, q14_f lo :: fs14 lo, [], 0⟩ :=
  none_sound hS (q14_f lo) (fun _ => rfl)
def fs15 (lo : Lo) : List FnE := q14_f lo :: fs14 lo
def q15 (lo : Lo) (x0 : Int) (x1 : Int) (x2 : List ByteArray) : Option ((List ByteArray)) := none
def q15_f (lo : Lo) : FnE := ⟨315, false, ⟨[0, 1, 2], [.ref 0, .i .i64, .i .i64], [.sq (cs [.s])], (cs [I, I, .l (cs [.s])])⟩, .tp [], [.sq (cs [.s])], (cs [.l (cs [.s])]), (fun x => q15 lo x.1 x.2.1 x.2.2 : Int × Int × (List ByteArray) → Option ((List ByteArray)))⟩
theorem q15_S {P : Program} {fm : FM} {lo : Lo} (hlo : LoOK lo) (hS : Sound P fm ⟨pf, fs15 lo, [], 0⟩) (hm : P.follows .mixedOrders = true) (hN : True) : Sound P fm ⟨pf, q15_f lo :: fs15 lo, [], 0⟩ :=
  none_sound hS (q15_f lo) (fun _ => rfl)
def fs16 (lo : Lo) : List FnE := q15_f lo :: fs15 lo
def q16 (lo : Lo) (x0 : Int) (x1 : Int) (x2 : List ByteArray) : Option (Bool × (List ByteArray)) := none
def q16_f (lo : Lo) : FnE := ⟨316, false, ⟨[0, 1, 2], [.ref 0, .i .i64, .i .i64], [.sq (cs [.s])], (cs [I, I, .l (cs [.s])])⟩, .b, [.sq (cs [.s])], (cs [.b, .l (cs [.s])]), (fun x => q16 lo x.1 x.2.1 x.2.2 : Int × Int × (List ByteArray) → Option (Bool × (List ByteArray)))⟩
theorem q16_S {P : Program} {fm : FM} {lo : Lo} (hlo : LoOK lo) (hS : Sound P fm ⟨pf, fs16 lo, [], 0⟩) (hm : P.follows .mixedOrders = true) (hN : True) : Sound P fm ⟨pf, q16_f lo :: fs16 lo, [], 0⟩ :=
  none_sound hS (q16_f lo) (fun _ => rfl)
def fs17 (lo : Lo) : List FnE := q16_f lo :: fs16 lo
def q17 (lo : Lo) (x0 : Int) (x1 : Int) (x2 : Int) (x3 : List ByteArray) : Option (Int × (List ByteArray)) := none
def q17_f (lo : Lo) : FnE := ⟨318, false, ⟨[0, 1, 2, 3], [.ref 0, .i .i64, .i .i64, .i .i64], [.sq (cs [.s])], (cs [I, I, I, .l (cs [.s])])⟩, .i .i64, [.sq (cs [.s])], (cs [I, .l (cs [.s])]), (fun x => q17 lo x.1 x.2.1 x.2.2.1 x.2.2.2 : Int × Int × Int × (List ByteArray) → Option (Int × (List ByteArray)))⟩
theorem q17_S {P : Program} {fm : FM} {lo : Lo} (hlo : LoOK lo) (hS : Sound P fm ⟨pf, fs17 lo, [], 0⟩) (hm : P.follows .mixedOrders = true) (hN : True) : Sound P fm ⟨pf, q17_f lo :: fs17 lo, [], 0⟩ :=
  none_sound hS (q17_f lo) (fun _ => rfl)
def fs18 (lo : Lo) : List FnE := q17_f lo :: fs17 lo
def q18 (lo : Lo) (x0 : Int) (x1 : Int) (x2 : Int) (x3 : List ByteArray) : Option (Int × Bool × (List ByteArray)) := none
def q18_f (lo : Lo) : FnE := ⟨319, false, ⟨[0, 1, 2, 3], [.ref 0, .i .i64, .i .i64, .i .i64], [.sq (cs [.s])], (cs [I, I, I, .l (cs [.s])])⟩, .tp [.i .i64, .b], [.sq (cs [.s])], (cs [I, .b, .l (cs [.s])]), (fun x => q18 lo x.1 x.2.1 x.2.2.1 x.2.2.2 : Int × Int × Int × (List ByteArray) → Option (Int × Bool × (List ByteArray)))⟩
theorem q18_S {P : Program} {fm : FM} {lo : Lo} (hlo : LoOK lo) (hS : Sound P fm ⟨pf, fs18 lo, [], 0⟩) (hm : P.follows .mixedOrders = true) (hN : True) : Sound P fm ⟨pf, q18_f lo :: fs18 lo, [], 0⟩ :=
  none_sound hS (q18_f lo) (fun _ => rfl)
def fs19 (lo : Lo) : List FnE := q18_f lo :: fs18 lo
end Go.Abs.G52
namespace Go.Abs.G52
open Go Go.Abs
set_option maxRecDepth 100000
set_option linter.unusedVariables false
set_option maxHeartbeats 1000000
def q19_q (F : Int × Int × Int × (List ByteArray) → Option ((List ByteArray))) : FnE := ⟨301, false, ⟨[0, 1, 2, 3], [.ref 0, .i .i64, .i .i64, .i .i64], [.sq (cs [.s])], (cs [I, I, I, .l (cs [.s])])⟩, .tp [], [.sq (cs [.s])], (cs [.l (cs [.s])]), F⟩
def q19_J20_b : VCode :=
 (.seq (.seq (.reg [o 73 (.mv (t 1)), o 74 (.bin .gtr (t 73) (k 0)), o 75 (.mv (t 74)), og 76 75 true (.mv (t 0)), og 77 75 true (.mv (t 1)), og 78 75 true (.bin .sub (t 77) (k 1)), og 79 75 true (.iad 1 (t 76) (t 78)), og 80 75 true (.load false 1 (t 79)), og 81 75 true (.mv (t 0)), og 82 75 true (.mv (t 11)), og 83 75 true (.iad 1 (t 81) (t 82)), og 84 75 true (.load false 1 (t 83)), og 85 75 true (.call 317 [(t 80), (t 84)]), og 86 75 true (.not (t 85)), o 87 (.pick (t 75) (t 86) (kb false))])
 (.cond (t 87) (.seq (.reg [o 88 (.mv (t 0)), o 89 (.mv (t 1)), o 90 (.mv (t 2)), o 91 (.mv (t 11)), o 92 (.call 318 [(t 88), (t 89), (t 90), (t 91)]), o 13 (.mv (t 92))])
 (.seq (.reg [o 93 (.mv (t 13)), o 1 (.mv (t 93))])
 (.exit 1)))
 .skip))
 (.seq (.reg [o 95 (.mv (t 0)), o 96 (.mv (t 1)), o 97 (.mv (t 2)), o 98 (.mv (t 11)), o 99 (.call 319 [(t 95), (t 96), (t 97), (t 98)]), o 94 (.mv (t 99)), o 100 (.ext (t 94) 0), o 101 (.ext (t 94) 1), o 14 (.mv (t 100)), o 15 (.mv (t 101))])
 (.seq (.reg [o 102 (.mv (t 15)), o 9 (.mv (t 102))])
 (.seq (.reg [o 103 (.mv (t 14)), o 104 (.mv (t 1)), o 105 (.bin .sub (t 103) (t 104)), o 106 (.mv (t 2)), o 107 (.mv (t 14)), o 108 (.bin .sub (t 106) (t 107)), o 16 (.mv (t 105)), o 17 (.mv (t 108))])
 (.seq (.reg [o 109 (.mv (t 10)), o 110 (.bin .quo (t 109) (k 8)), o 18 (.mv (t 110))])
 (.seq (.reg [o 111 (.mv (t 16)), o 112 (.mv (t 17)), o 113 (.bin .lss (t 111) (t 112))])
 (.cond (t 113) (.seq (.reg [o 114 (.mv (t 16)), o 115 (.mv (t 18)), o 116 (.bin .geq (t 114) (t 115)), o 8 (.mv (t 116))])
 (.seq (.reg [o 117 (.mv (t 0)), o 118 (.mv (t 1)), o 119 (.mv (t 14)), o 120 (.mv (t 3)), o 121 (.call 301 [(t 117), (t 118), (t 119), (t 120)])])
 (.reg [o 122 (.mv (t 14)), o 123 (.bin .add (t 122) (k 1)), o 1 (.mv (t 123))])))
 (.seq (.reg [o 124 (.mv (t 17)), o 125 (.mv (t 18)), o 126 (.bin .geq (t 124) (t 125)), o 8 (.mv (t 126))])
 (.seq (.reg [o 127 (.mv (t 0)), o 128 (.mv (t 14)), o 129 (.bin .add (t 128) (k 1)), o 130 (.mv (t 2)), o 131 (.mv (t 3)), o 132 (.call 301 [(t 127), (t 129), (t 130), (t 131)])])
 (.reg [o 133 (.mv (t 14)), o 2 (.mv (t 133))]))))))))))
def q19_J20_g : Sg := ⟨[0, 1, 2, 3, 8, 9, 10, 11], [.ref 0, .i .i64, .i .i64, .i .i64, .b, .b, .i .i64, .i .i64], [.sq (cs [.s])], (cs [I, I, I, .b, .b, I, I, .l (cs [.s])])⟩
def q19_J20_o : List Out1 := [⟨.exit 1, ⟨[0, 1, 2, 3, 8, 9], [.ref 0, .i .i64, .i .i64, .i .i64, .b, .b], [.sq (cs [.s])], (cs [I, I, I, .b, .b, .l (cs [.s])])⟩⟩, ⟨.nor, ⟨[0, 1, 2, 3, 8, 9], [.ref 0, .i .i64, .i .i64, .i .i64, .b, .b], [.sq (cs [.s])], (cs [I, I, I, .b, .b, .l (cs [.s])])⟩⟩]
def q19_J20 (lo : Lo) (rec : Int × Int × Int × (List ByteArray) → Option ((List ByteArray))) : Int × Int × Int × Bool × Bool × Int × Int × (List ByteArray) → Option ((Int × Int × Int × Bool × Bool × (List ByteArray)) ⊕ (Int × Int × Int × Bool × Bool × (List ByteArray))) := fun x => match x with
  | (a1, b2, limit3, wasBalanced8, wasPartitioned9, length10, pivot11, data0) => bif (decide ((0 : Int) < a1)) then (chk (0 ≤ (IntKind.wrap .i64 (a1 - (1 : Int))) ∧ (IntKind.wrap .i64 (a1 - (1 : Int))) < (data0.length : Int)) (chk (0 ≤ pivot11 ∧ pivot11 < (data0.length : Int)) (Option.bind (q10 lo (data0.getD ((IntKind.wrap .i64 (a1 - (1 : Int))).toNat) (ByteArray.mk #[])) (data0.getD pivot11.toNat (ByteArray.mk #[]))) fun y32 => bif (!y32) then (Option.bind (q17 lo a1 b2 pivot11 data0) fun y33 => chk (y33.2.length = data0.length) (some (.inl (y33.1, b2, limit3, wasBalanced8, wasPartitioned9, y33.2)))) else (Option.bind (q18 lo a1 b2 pivot11 data0) fun y34 => chk (y34.2.2.length = data0.length) (chk ((8 : Int) ≠ 0) (bif (decide ((IntKind.wrap .i64 (y34.1 - a1)) < (IntKind.wrap .i64 (b2 - y34.1)))) then (Option.bind (rec (a1, y34.1, limit3, y34.2.2)) fun y35 => chk (y35.length = y34.2.2.length) (some (.inr ((IntKind.wrap .i64 (y34.1 + (1 : Int))), b2, limit3, (decide ((IntKind.wrap .i64 (length10.tdiv (8 : Int))) ≤ (IntKind.wrap .i64 (y34.1 - a1)))), y34.2.1, y35)))) else (Option.bind (rec ((IntKind.wrap .i64 (y34.1 + (1 : Int))), b2, limit3, y34.2.2)) fun y36 => chk (y36.length = y34.2.2.length) (some (.inr (a1, y34.1, limit3, (decide ((IntKind.wrap .i64 (length10.tdiv (8 : Int))) ≤ (IntKind.wrap .i64 (b2 - y34.1)))), y34.2.1, y36)))))))))) else (Option.bind (q18 lo a1 b2 pivot11 data0) fun y37 => chk (y37.2.2.length = data0.length) (chk ((8 : Int) ≠ 0) (bif (decide ((IntKind.wrap .i64 (y37.1 - a1)) < (IntKind.wrap .i64 (b2 - y37.1)))) then (Option.bind (rec (a1, y37.1, limit3, y37.2.2)) fun y38 => chk (y38.length = y37.2.2.length) (some (.inr ((IntKind.wrap .i64 (y37.1 + (1 : Int))), b2, limit3, (decide ((IntKind.wrap .i64 (length10.tdiv (8 : Int))) ≤ (IntKind.wrap .i64 (y37.1 - a1)))), y37.2.1, y38)))) else (Option.bind (rec ((IntKind.wrap .i64 (y37.1 + (1 : Int))), b2, limit3, y37.2.2)) fun y39 => chk (y39.length = y37.2.2.length) (some (.inr (a1, y37.1, limit3, (decide ((IntKind.wrap .i64 (length10.tdiv (8 : Int))) ≤ (IntKind.wrap .i64 (b2 - y37.1)))), y37.2.1, y39)))))))
theorem q19_J20_e (lo : Lo) (rec : Int × Int × Int × (List ByteArray) → Option ((List ByteArray))) : ∀ x : Int × Int × Int × Bool × Bool × Int × Int × (List ByteArray), stepJ (⟨pf, q19_q rec :: fs19 lo, [], 1⟩ : Tabs) q19_J20_g q19_J20_o q19_J20_b x = q19_J20 lo rec x := fun x => by kernel_rfl
def q19_J20_p (lo : Lo) (rec : Int × Int × Int × (List ByteArray) → Option ((List ByteArray))) : LpE := ⟨20, [], q19_J20_g, q19_J20_o, q19_J20 lo rec⟩
theorem q19_J20_k {lo : Lo} (hlo : LoOK lo) (rec : Int × Int × Int × (List ByteArray) → Option ((List ByteArray))) (C : Ctx) (hT : TOK (⟨pf, q19_q rec :: fs19 lo, [], 1⟩ : Tabs) C) {Fr : Nat → Prop} {H0 : Heap} (hf : FrOK Fr H0) : LpSound Fr H0 1 C q19_J20_b.er (q19_J20_p lo rec) :=
  jn_sound (T := (⟨pf, q19_q rec :: fs19 lo, [], 1⟩ : Tabs)) hT hf (show LsOK Fr H0 C (⟨pf, q19_q rec :: fs19 lo, [], 1⟩ : Tabs) q19_J20_b from ⟨⟨trivial, ⟨⟨trivial, ⟨trivial, trivial⟩⟩, trivial⟩⟩, ⟨trivial, ⟨trivial, ⟨trivial, ⟨trivial, ⟨trivial, ⟨⟨trivial, ⟨trivial, trivial⟩⟩, ⟨trivial, ⟨trivial, trivial⟩⟩⟩⟩⟩⟩⟩⟩⟩) (fun x y h => (q19_J20_e lo rec x).trans h)
def q19_J25_b : VCode :=
 (.seq (.seq (.reg [o 61 (.mv (t 8)), o 62 (.mv (t 61)), og 63 62 true (.mv (t 9)), o 64 (.pick (t 62) (t 63) (kb false)), o 65 (.mv (t 64)), og 66 65 true (.mv (t 12)), og 67 65 true (.bin .eql (t 66) (k 1)), o 68 (.pick (t 65) (t 67) (kb false))])
 (.cond (t 68) (.seq (.reg [o 69 (.mv (t 0)), o 70 (.mv (t 1)), o 71 (.mv (t 2)), o 72 (.call 316 [(t 69), (t 70), (t 71)])])
 (.cond (t 72) .ret
 .skip))
 .skip))
 (.jn 20 q19_J20_b))
def q19_J25_g : Sg := ⟨[0, 1, 2, 3, 8, 9, 10, 11, 12], [.ref 0, .i .i64, .i .i64, .i .i64, .b, .b, .i .i64, .i .i64, .i .i64], [.sq (cs [.s])], (cs [I, I, I, .b, .b, I, I, I, .l (cs [.s])])⟩
def q19_J25_o : List Out1 := [⟨.ret, ⟨[], [], [.sq (cs [.s])], (cs [.l (cs [.s])])⟩⟩, ⟨.exit 1, ⟨[0, 1, 2, 3, 8, 9], [.ref 0, .i .i64, .i .i64, .i .i64, .b, .b], [.sq (cs [.s])], (cs [I, I, I, .b, .b, .l (cs [.s])])⟩⟩, ⟨.nor, ⟨[0, 1, 2, 3, 8, 9], [.ref 0, .i .i64, .i .i64, .i .i64, .b, .b], [.sq (cs [.s])], (cs [I, I, I, .b, .b, .l (cs [.s])])⟩⟩]
def q19_J25 (lo : Lo) (rec : Int × Int × Int × (List ByteArray) → Option ((List ByteArray))) : Int × Int × Int × Bool × Bool × Int × Int × Int × (List ByteArray) → Option (((List ByteArray)) ⊕ (Int × Int × Int × Bool × Bool × (List ByteArray)) ⊕ (Int × Int × Int × Bool × Bool × (List ByteArray))) := fun x => match x with
  | (a1, b2, limit3, wasBalanced8, wasPartitioned9, length10, pivot11, hint12, data0) => bif wasBalanced8 then (bif wasPartitioned9 then (bif (decide (hint12 = (1 : Int))) then (Option.bind (q16 lo a1 b2 data0) fun y31 => chk (y31.2.length = data0.length) (bif y31.1 then (some (.inl y31.2)) else (Option.bind (q19_J20 lo rec (a1, b2, limit3, wasBalanced8, wasPartitioned9, length10, pivot11, y31.2)) fun y40 => alt2 y40 (fun y41 => some (.inr (.inl (y41.1, y41.2.1, y41.2.2.1, y41.2.2.2.1, y41.2.2.2.2.1, y41.2.2.2.2.2)))) (fun y42 => some (.inr (.inr (y42.1, y42.2.1, y42.2.2.1, y42.2.2.2.1, y42.2.2.2.2.1, y42.2.2.2.2.2))))))) else (Option.bind (q19_J20 lo rec (a1, b2, limit3, wasBalanced8, wasPartitioned9, length10, pivot11, data0)) fun y43 => alt2 y43 (fun y44 => some (.inr (.inl (y44.1, y44.2.1, y44.2.2.1, y44.2.2.2.1, y44.2.2.2.2.1, y44.2.2.2.2.2)))) (fun y45 => some (.inr (.inr (y45.1, y45.2.1, y45.2.2.1, y45.2.2.2.1, y45.2.2.2.2.1, y45.2.2.2.2.2)))))) else (Option.bind (q19_J20 lo rec (a1, b2, limit3, wasBalanced8, wasPartitioned9, length10, pivot11, data0)) fun y46 => alt2 y46 (fun y47 => some (.inr (.inl (y47.1, y47.2.1, y47.2.2.1, y47.2.2.2.1, y47.2.2.2.2.1, y47.2.2.2.2.2)))) (fun y48 => some (.inr (.inr (y48.1, y48.2.1, y48.2.2.1, y48.2.2.2.1, y48.2.2.2.2.1, y48.2.2.2.2.2)))))) else (Option.bind (q19_J20 lo rec (a1, b2, limit3, wasBalanced8, wasPartitioned9, length10, pivot11, data0)) fun y49 => alt2 y49 (fun y50 => some (.inr (.inl (y50.1, y50.2.1, y50.2.2.1, y50.2.2.2.1, y50.2.2.2.2.1, y50.2.2.2.2.2)))) (fun y51 => some (.inr (.inr (y51.1, y51.2.1, y51.2.2.1, y51.2.2.2.1, y51.2.2.2.2.1, y51.2.2.2.2.2)))))
theorem q19_J25_e (lo : Lo) (rec : Int × Int × Int × (List ByteArray) → Option ((List ByteArray))) : ∀ x : Int × Int × Int × Bool × Bool × Int × Int × Int × (List ByteArray), stepJ (⟨pf, q19_q rec :: fs19 lo, [q19_J20_p lo rec], 1⟩ : Tabs) q19_J25_g q19_J25_o q19_J25_b x = q19_J25 lo rec x := fun x => by kernel_rfl
def q19_J25_p (lo : Lo) (rec : Int × Int × Int × (List ByteArray) → Option ((List ByteArray))) : LpE := ⟨25, [], q19_J25_g, q19_J25_o, q19_J25 lo rec⟩
theorem q19_J25_k {lo : Lo} (hlo : LoOK lo) (rec : Int × Int × Int × (List ByteArray) → Option ((List ByteArray))) (C : Ctx) (hT : TOK (⟨pf, q19_q rec :: fs19 lo, [q19_J20_p lo rec], 1⟩ : Tabs) C) {Fr : Nat → Prop} {H0 : Heap} (hf : FrOK Fr H0) : LpSound Fr H0 1 C q19_J25_b.er (q19_J25_p lo rec) :=
  jn_sound (T := (⟨pf, q19_q rec :: fs19 lo, [q19_J20_p lo rec], 1⟩ : Tabs)) hT hf (show LsOK Fr H0 C (⟨pf, q19_q rec :: fs19 lo, [q19_J20_p lo rec], 1⟩ : Tabs) q19_J25_b from ⟨⟨trivial, ⟨⟨trivial, ⟨trivial, trivial⟩⟩, trivial⟩⟩, (lsGet (by kernel_rfl) (q19_J20_k hlo rec C (tok_ls hT) hf))⟩) (fun x y h => (q19_J25_e lo rec x).trans h)
def q19_J30_b : VCode :=
 (.seq (.reg [o 43 (.mv (t 0)), o 44 (.mv (t 1)), o 45 (.mv (t 2)), o 46 (.call 314 [(t 43), (t 44), (t 45)]), o 42 (.mv (t 46)), o 47 (.ext (t 42) 0), o 48 (.ext (t 42) 1), o 11 (.mv (t 47)), o 12 (.mv (t 48))])
 (.seq (.seq (.reg [o 49 (.mv (t 12)), o 50 (.bin .eql (t 49) (k 2))])
 (.cond (t 50) (.seq (.reg [o 51 (.mv (t 0)), o 52 (.mv (t 1)), o 53 (.mv (t 2)), o 54 (.call 315 [(t 51), (t 52), (t 53)])])
 (.seq (.reg [o 55 (.mv (t 2)), o 56 (.bin .sub (t 55) (k 1)), o 57 (.mv (t 11)), o 58 (.mv (t 1)), o 59 (.bin .sub (t 57) (t 58)), o 60 (.bin .sub (t 56) (t 59)), o 11 (.mv (t 60))])
 (.reg [o 12 (.mv (k 1))])))
 .skip))
 (.jn 25 q19_J25_b)))
def q19_J30_g : Sg := ⟨[0, 1, 2, 3, 8, 9, 10], [.ref 0, .i .i64, .i .i64, .i .i64, .b, .b, .i .i64], [.sq (cs [.s])], (cs [I, I, I, .b, .b, I, .l (cs [.s])])⟩
def q19_J30_o : List Out1 := [⟨.ret, ⟨[], [], [.sq (cs [.s])], (cs [.l (cs [.s])])⟩⟩, ⟨.exit 1, ⟨[0, 1, 2, 3, 8, 9], [.ref 0, .i .i64, .i .i64, .i .i64, .b, .b], [.sq (cs [.s])], (cs [I, I, I, .b, .b, .l (cs [.s])])⟩⟩, ⟨.nor, ⟨[0, 1, 2, 3, 8, 9], [.ref 0, .i .i64, .i .i64, .i .i64, .b, .b], [.sq (cs [.s])], (cs [I, I, I, .b, .b, .l (cs [.s])])⟩⟩]
def q19_J30 (lo : Lo) (rec : Int × Int × Int × (List ByteArray) → Option ((List ByteArray))) : Int × Int × Int × Bool × Bool × Int × (List ByteArray) → Option (((List ByteArray)) ⊕ (Int × Int × Int × Bool × Bool × (List ByteArray)) ⊕ (Int × Int × Int × Bool × Bool × (List ByteArray))) := fun x => match x with
  | (a1, b2, limit3, wasBalanced8, wasPartitioned9, length10, data0) => Option.bind (q14 lo data0 a1 b2) fun y29 => bif (decide (y29.2 = (2 : Int))) then (Option.bind (q15 lo a1 b2 data0) fun y30 => chk (y30.length = data0.length) (Option.bind (q19_J25 lo rec (a1, b2, limit3, wasBalanced8, wasPartitioned9, length10, (IntKind.wrap .i64 ((IntKind.wrap .i64 (b2 - (1 : Int))) - (IntKind.wrap .i64 (y29.1 - a1)))), (1 : Int), y30)) fun y52 => alt2 y52 (fun y53 => some (.inl y53)) (fun y54 => alt2 y54 (fun y55 => some (.inr (.inl (y55.1, y55.2.1, y55.2.2.1, y55.2.2.2.1, y55.2.2.2.2.1, y55.2.2.2.2.2)))) (fun y56 => some (.inr (.inr (y56.1, y56.2.1, y56.2.2.1, y56.2.2.2.1, y56.2.2.2.2.1, y56.2.2.2.2.2))))))) else (Option.bind (q19_J25 lo rec (a1, b2, limit3, wasBalanced8, wasPartitioned9, length10, y29.1, y29.2, data0)) fun y57 => alt2 y57 (fun y58 => some (.inl y58)) (fun y59 => alt2 y59 (fun y60 => some (.inr (.inl (y60.1, y60.2.1, y60.2.2.1, y60.2.2.2.1, y60.2.2.2.2.1, y60.2.2.2.2.2)))) (fun y61 => some (.inr (.inr (y61.1, y61.2.1, y61.2.2.1, y61.2.2.2.1, y61.2.2.2.2.1, y61.2.2.2.2.2))))))
theorem q19_J30_e (lo : Lo) (rec : Int × Int × Int × (List ByteArray) → Option ((List ByteArray))) : ∀ x : Int × Int × Int × Bool × Bool × Int × (List ByteArray), stepJ (⟨pf, q19_q rec :: fs19 lo, [q19_J25_p lo rec, q19_J20_p lo rec], 1⟩ : Tabs) q19_J30_g q19_J30_o q19_J30_b x = q19_J30 lo rec x := fun x => by kernel_rfl
def q19_J30_p (lo : Lo) (rec : Int × Int × Int × (List ByteArray) → Option ((List ByteArray))) : LpE := ⟨30, [], q19_J30_g, q19_J30_o, q19_J30 lo rec⟩
theorem q19_J30_k {lo : Lo} (hlo : LoOK lo) (rec : Int × Int × Int × (List ByteArray) → Option ((List ByteArray))) (C : Ctx) (hT : TOK (⟨pf, q19_q rec :: fs19 lo, [q19_J25_p lo rec, q19_J20_p lo rec], 1⟩ : Tabs) C) {Fr : Nat → Prop} {H0 : Heap} (hf : FrOK Fr H0) : LpSound Fr H0 1 C q19_J30_b.er (q19_J30_p lo rec) :=
  jn_sound (T := (⟨pf, q19_q rec :: fs19 lo, [q19_J25_p lo rec, q19_J20_p lo rec], 1⟩ : Tabs)) hT hf (show LsOK Fr H0 C (⟨pf, q19_q rec :: fs19 lo, [q19_J25_p lo rec, q19_J20_p lo rec], 1⟩ : Tabs) q19_J30_b from ⟨trivial, ⟨⟨trivial, ⟨⟨trivial, ⟨trivial, trivial⟩⟩, trivial⟩⟩, (lsGet (by kernel_rfl) (q19_J25_k hlo rec C (tok_ls hT) hf))⟩⟩) (fun x y h => (q19_J30_e lo rec x).trans h)
def q19_L1_b : VCode :=
 (.blk 1 (.seq (.reg [o 19 (.mv (t 2)), o 20 (.mv (t 1)), o 21 (.bin .sub (t 19) (t 20)), o 10 (.mv (t 21))])
 (.seq (.seq (.reg [o 22 (.mv (t 10)), o 23 (.bin .leq (t 22) (k 12))])
 (.cond (t 23) (.seq (.reg [o 24 (.mv (t 0)), o 25 (.mv (t 1)), o 26 (.mv (t 2)), o 27 (.call 311 [(t 24), (t 25), (t 26)])])
 .ret)
 .skip))
 (.seq (.seq (.reg [o 28 (.mv (t 3)), o 29 (.bin .eql (t 28) (k 0))])
 (.cond (t 29) (.seq (.reg [o 30 (.mv (t 0)), o 31 (.mv (t 1)), o 32 (.mv (t 2)), o 33 (.call 312 [(t 30), (t 31), (t 32)])])
 .ret)
 .skip))
 (.seq (.seq (.reg [o 34 (.mv (t 8)), o 35 (.not (t 34))])
 (.cond (t 35) (.seq (.reg [o 36 (.mv (t 0)), o 37 (.mv (t 1)), o 38 (.mv (t 2)), o 39 (.call 313 [(t 36), (t 37), (t 38)])])
 (.reg [o 40 (.mv (t 3)), o 41 (.bin .sub (t 40) (k 1)), o 3 (.mv (t 41))]))
 .skip))
 (.jn 30 q19_J30_b))))))
def q19_L1_g : Sg := ⟨[0, 1, 2, 3, 8, 9], [.ref 0, .i .i64, .i .i64, .i .i64, .b, .b], [.sq (cs [.s])], (cs [I, I, I, .b, .b, .l (cs [.s])])⟩
def q19_L1_o : List Out1 := [⟨.ret, ⟨[], [], [.sq (cs [.s])], (cs [.l (cs [.s])])⟩⟩]
def q19_L1_s (lo : Lo) (rec : Int × Int × Int × (List ByteArray) → Option ((List ByteArray))) : Int × Int × Int × Bool × Bool × (List ByteArray) → Option ((Int × Int × Int × Bool × Bool × (List ByteArray)) ⊕ (((List ByteArray)))) := fun x => match x with
  | (a1, b2, limit3, wasBalanced8, wasPartitioned9, data0) => bif (decide ((IntKind.wrap .i64 (b2 - a1)) ≤ (12 : Int))) then (Option.bind (q11 lo a1 b2 data0) fun y26 => chk (y26.length = data0.length) (some (.inr y26))) else (bif (decide (limit3 = (0 : Int))) then (Option.bind (q12 lo a1 b2 data0) fun y27 => chk (y27.length = data0.length) (some (.inr y27))) else (bif (!wasBalanced8) then (Option.bind (q13 lo a1 b2 data0) fun y28 => chk (y28.length = data0.length) (Option.bind (q19_J30 lo rec (a1, b2, (IntKind.wrap .i64 (limit3 - (1 : Int))), wasBalanced8, wasPartitioned9, (IntKind.wrap .i64 (b2 - a1)), y28)) fun y62 => alt2 y62 (fun y63 => some (.inr y63)) (fun y64 => alt2 y64 (fun y65 => some (.inl (y65.1, y65.2.1, y65.2.2.1, y65.2.2.2.1, y65.2.2.2.2.1, y65.2.2.2.2.2))) (fun y66 => some (.inl (y66.1, y66.2.1, y66.2.2.1, y66.2.2.2.1, y66.2.2.2.2.1, y66.2.2.2.2.2)))))) else (Option.bind (q19_J30 lo rec (a1, b2, limit3, wasBalanced8, wasPartitioned9, (IntKind.wrap .i64 (b2 - a1)), data0)) fun y67 => alt2 y67 (fun y68 => some (.inr y68)) (fun y69 => alt2 y69 (fun y70 => some (.inl (y70.1, y70.2.1, y70.2.2.1, y70.2.2.2.1, y70.2.2.2.2.1, y70.2.2.2.2.2))) (fun y71 => some (.inl (y71.1, y71.2.1, y71.2.2.1, y71.2.2.2.1, y71.2.2.2.2.1, y71.2.2.2.2.2)))))))
theorem q19_L1_e (lo : Lo) (rec : Int × Int × Int × (List ByteArray) → Option ((List ByteArray))) : ∀ x : Int × Int × Int × Bool × Bool × (List ByteArray), stepL (⟨pf, q19_q rec :: fs19 lo, [q19_J30_p lo rec, q19_J25_p lo rec, q19_J20_p lo rec], 1⟩ : Tabs) [] q19_L1_g q19_L1_o q19_L1_b x = q19_L1_s lo rec x := fun x => by kernel_rfl
def q19_L1 (lo : Lo) (rec : Int × Int × Int × (List ByteArray) → Option ((List ByteArray))) : Int × Int × Int × Bool × Bool × (List ByteArray) → Option (((List ByteArray))) := lo.run (q19_L1_s lo rec)
def q19_L1_p (lo : Lo) (rec : Int × Int × Int × (List ByteArray) → Option ((List ByteArray))) : LpE := ⟨1, [], q19_L1_g, q19_L1_o, q19_L1 lo rec⟩
theorem q19_L1_k {lo : Lo} (hlo : LoOK lo) (rec : Int × Int × Int × (List ByteArray) → Option ((List ByteArray))) (C : Ctx) (hT : TOK (⟨pf, q19_q rec :: fs19 lo, [q19_J30_p lo rec, q19_J25_p lo rec, q19_J20_p lo rec], 1⟩ : Tabs) C) {Fr : Nat → Prop} {H0 : Heap} (hf : FrOK Fr H0) : LpSound Fr H0 1 C (.loop q19_L1_b.er) (q19_L1_p lo rec) :=
  loop_sound (T := (⟨pf, q19_q rec :: fs19 lo, [q19_J30_p lo rec, q19_J25_p lo rec, q19_J20_p lo rec], 1⟩ : Tabs)) hT hf (show LsOK Fr H0 C (⟨pf, q19_q rec :: fs19 lo, [q19_J30_p lo rec, q19_J25_p lo rec, q19_J20_p lo rec], 1⟩ : Tabs) q19_L1_b from ⟨trivial, ⟨⟨trivial, ⟨⟨trivial, trivial⟩, trivial⟩⟩, ⟨⟨trivial, ⟨⟨trivial, trivial⟩, trivial⟩⟩, ⟨⟨trivial, ⟨⟨trivial, trivial⟩, trivial⟩⟩, (lsGet (by kernel_rfl) (q19_J30_k hlo rec C (tok_ls hT) hf))⟩⟩⟩⟩) (fun x y h => loopO_congr (q19_L1_e lo rec) (hlo _ _ _ h))
def q19_r (lo : Lo) (rec : Int × Int × Int × (List ByteArray) → Option ((List ByteArray))) (a1 : Int) (b2 : Int) (limit3 : Int) (data0 : List ByteArray) : Option ((List ByteArray)) :=
  Option.bind (q19_L1 lo rec (a1, b2, limit3, true, true, data0)) fun y72 => some y72
def q19_n (lo : Lo) : Nat → Int × Int × Int × (List ByteArray) → Option ((List ByteArray))
  | 0, _ => none
  | n + 1, x => q19_r lo (q19_n lo n) x.1 x.2.1 x.2.2.1 x.2.2.2
def q19 (lo : Lo) (a1 : Int) (b2 : Int) (limit3 : Int) (data0 : List ByteArray) : Option ((List ByteArray)) := lo.run (fixS (q19_n lo)) (0, (a1, b2, limit3, data0))
def q19_c : VCode :=
 (.seq (.reg [o 8 (.mv (kb true))])
 (.seq (.reg [o 9 (.mv (kb true))])
 (.blk 0 (.loop 1 q19_L1_b))))
def q19_F : VFn := ⟨true, 134, [], q19_c⟩
def q19_f (lo : Lo) : FnE := ⟨301, false, ⟨[0, 1, 2, 3], [.ref 0, .i .i64, .i .i64, .i .i64], [.sq (cs [.s])], (cs [I, I, I, .l (cs [.s])])⟩, .tp [], [.sq (cs [.s])], (cs [.l (cs [.s])]), (fun x => q19 lo x.1 x.2.1 x.2.2.1 x.2.2.2 : Int × Int × Int × (List ByteArray) → Option ((List ByteArray)))⟩
theorem q19_e (lo : Lo) (rec : Int × Int × Int × (List ByteArray) → Option ((List ByteArray))) : ∀ x : Int × Int × Int × (List ByteArray), evI (⟨pf, q19_q rec :: fs19 lo, [q19_L1_p lo rec, q19_J30_p lo rec, q19_J25_p lo rec, q19_J20_p lo rec], 1⟩ : Tabs) q19_F ⟨[0, 1, 2, 3], [.ref 0, .i .i64, .i .i64, .i .i64], [.sq (cs [.s])], (cs [I, I, I, .l (cs [.s])])⟩ (.tp []) [.sq (cs [.s])] (cs [.l (cs [.s])]) x = q19_r lo rec x.1 x.2.1 x.2.2.1 x.2.2.2 := fun x => by kernel_rfl
theorem q19_S {P : Program} {fm : FM} {lo : Lo} (hlo : LoOK lo) (hS : Sound P fm ⟨pf, fs19 lo, [], 0⟩) (hm : P.follows .mixedOrders = true) (htie : ∀ f, fm f = 301 → fnTr P fm pf f = some (q19_F.slots, q19_F.res, q19_F.code.er)) : Sound P fm ⟨pf, q19_f lo :: fs19 lo, [], 0⟩ :=
  fnI_rec hS hm (q19_f lo) rfl (q19_n lo) (fun n => (fun (rec : Int × Int × Int × (List ByteArray) → Option ((List ByteArray))) => ([q19_L1_p lo rec, q19_J30_p lo rec, q19_J25_p lo rec, q19_J20_p lo rec] : List LpE)) (q19_n lo n)) q19_F htie (by decide) rfl (Nat.le_of_ble_eq_true (by kernel_rfl)) (fun _ => rfl) (fun x y h => fix_lim (hlo _ _ _ h))
    (fun n C hT Fr H0 hf => (fun (rec : Int × Int × Int × (List ByteArray) → Option ((List ByteArray))) (hT : TOK (⟨pf, q19_q rec :: fs19 lo, [q19_L1_p lo rec, q19_J30_p lo rec, q19_J25_p lo rec, q19_J20_p lo rec], 1⟩ : Tabs) C) => show LsOK Fr H0 C (⟨pf, q19_q rec :: fs19 lo, [q19_L1_p lo rec, q19_J30_p lo rec, q19_J25_p lo rec, q19_J20_p lo rec], 1⟩ : Tabs) q19_c from ⟨trivial, ⟨trivial, (lsGet (by kernel_rfl) (q19_L1_k hlo rec C (tok_ls hT) hf))⟩⟩) (q19_n lo n) hT) (fun n x y h => (q19_e lo (q19_n lo n) x).trans h)
def fs20 (lo : Lo) : List FnE := q19_f lo :: fs19 lo
def q20 (lo : Lo) (x0 : List ByteArray) : Option ((List ByteArray)) :=
  Option.bind (q8 lo (IntKind.wrap .u64 (x0.length : Int))) fun y20 => Option.bind (q19 lo (0 : Int) (x0.length : Int) y20 x0) fun y73 => chk (y73.length = x0.length) (some y73)
def q20_c : VCode :=
 (.seq (.reg [o 3 (.mv (t 0)), o 4 (.len (t 3)), o 2 (.mv (t 4))])
 (.reg [o 5 (.mv (t 0)), o 6 (.mv (t 2)), o 7 (.mv (t 2)), o 8 (.conv .u64 (t 7)), o 9 (.call 163 [(t 8)]), o 10 (.call 301 [(t 5), (k 0), (t 6), (t 9)])]))
def q20_F : VFn := ⟨true, 11, [], q20_c⟩
def q20_f (lo : Lo) : FnE := ⟨271, false, ⟨[0], [.ref 0], [.sq (cs [.s])], (cs [.l (cs [.s])])⟩, .tp [], [.sq (cs [.s])], (cs [.l (cs [.s])]), (fun x => q20 lo x : (List ByteArray) → Option ((List ByteArray)))⟩
theorem q20_e (lo : Lo) : ∀ x : (List ByteArray), evI (⟨pf, fs20 lo, [], 1⟩ : Tabs) q20_F ⟨[0], [.ref 0], [.sq (cs [.s])], (cs [.l (cs [.s])])⟩ (.tp []) [.sq (cs [.s])] (cs [.l (cs [.s])]) x = q20 lo x := fun x => by kernel_rfl
theorem q20_S {P : Program} {fm : FM} {lo : Lo} (hlo : LoOK lo) (hS : Sound P fm ⟨pf, fs20 lo, [], 0⟩) (hm : P.follows .mixedOrders = true) (htie : ∀ f, fm f = 271 → fnTr P fm pf f = some (q20_F.slots, q20_F.res, q20_F.code.er)) : Sound P fm ⟨pf, q20_f lo :: fs20 lo, [], 0⟩ :=
  fnI_sound hS hm [] (q20_f lo) rfl q20_F htie (by decide) rfl (Nat.le_of_ble_eq_true (by kernel_rfl)) (fun C hT Fr H0 hf => show LsOK Fr H0 C (⟨pf, fs20 lo, [], 1⟩ : Tabs) q20_c from ⟨trivial, trivial⟩) (fun x y h => (q20_e lo x).trans h)
def fs21 (lo : Lo) : List FnE := q20_f lo :: fs20 lo
def q21 (lo : Lo) (l : List ByteArray) : Option (List ByteArray) := vsortS (q20 lo) l
def q21_f (lo : Lo) : FnE := vsortE 271 (.cons (.s) .nil) (q21 lo)
theorem q21_S {P : Program} {fm : FM} {lo : Lo} (hlo : LoOK lo) (hS : Sound P fm ⟨pf, fs21 lo, [], 0⟩) (hm : P.follows .mixedOrders = true) (hG : ∀ f, fm f = 271 → callable P f = true ∧ ∃ ρ : Go.Shelf.Ren, Go.Proofs.Lays.n190 P ρ ∧ ρ.f 190 = f) : Sound P fm ⟨pf, q21_f lo :: fs21 lo, [], 0⟩ :=
  vsortS_sound hS rfl (F0 := q20 lo) (List.mem_cons_self ..) hG
def fs22 (lo : Lo) : List FnE := q21_f lo :: fs21 lo
def q22_L4_b : VCode :=
 (.seq (.reg [o 33 (.bin .lss (t 32) (t 31))])
 (.seq (.cond (t 33) .skip
 (.exit 0))
 (.seq (.blk 1 (.seq (.reg [o 34 (.mv (t 32)), o 9 (.mv (t 34))])
 (.reg [o 35 (.mv (t 8)), o 36 (.mv (t 7)), o 37 (.mv (t 9)), o 38 (.mv (t 9)), o 39 (.mv (t 1)), o 40 (.bin .add (t 38) (t 39)), o 41 (.slcS (t 36) (some (t 37)) (some (t 40))), o 42 (.bsl (cs [.s]) 1 [(0, (t 41))]), o 43 (.app (cs [.s]) 0 (t 35) (t 42)), o 8 (.mv (t 43))])))
 (.reg [o 44 (.bin .add (t 32) (k 1)), o 32 (.mv (t 44))]))))
def q22_L4_g : Sg := ⟨[1, 7, 8, 31, 32], [.i .i64, .s, .ref 0, .i .i64, .i .i64], [.sq (cs [.s])], (cs [I, .s, I, I, .l (cs [.s])])⟩
def q22_L4_o : List Out1 := [⟨.exit 0, ⟨[8], [.ref 0], [.sq (cs [.s])], (cs [.l (cs [.s])])⟩⟩]
def q22_L4_s (lo : Lo) : Int × ByteArray × Int × Int × (List ByteArray) → Option ((Int × ByteArray × Int × Int × (List ByteArray)) ⊕ (((List ByteArray)))) := fun x => match x with
  | (q1, wide7, v31, v32, out8) => bif (decide (v32 < v31)) then (chk (0 ≤ v32 ∧ v32 ≤ (IntKind.wrap .i64 (v32 + q1)) ∧ (IntKind.wrap .i64 (v32 + q1)) ≤ (wide7.size : Int)) (chk (out8.length + ([(wide7.extract v32.toNat (IntKind.wrap .i64 (v32 + q1)).toNat)]).length ≤ maxEl) (some (.inl (q1, wide7, v31, (IntKind.wrap .i64 (v32 + (1 : Int))), (out8 ++ ([(wide7.extract v32.toNat (IntKind.wrap .i64 (v32 + q1)).toNat)]))))))) else (some (.inr out8))
theorem q22_L4_e (lo : Lo) : ∀ x : Int × ByteArray × Int × Int × (List ByteArray), stepL (⟨pf, fs22 lo, [], 0⟩ : Tabs) [(8, none, false)] q22_L4_g q22_L4_o q22_L4_b x = q22_L4_s lo x := fun x => by kernel_rfl
def q22_L4 (lo : Lo) : Int × ByteArray × Int × Int × (List ByteArray) → Option (((List ByteArray))) := lo.run (q22_L4_s lo)
def q22_L4_p (lo : Lo) : LpE := ⟨4, [(8, none, false)], q22_L4_g, q22_L4_o, q22_L4 lo⟩
theorem q22_L4_k {lo : Lo} (hlo : LoOK lo) (C : Ctx) (hT : TOK (⟨pf, fs22 lo, [], 0⟩ : Tabs) C) : LpSound (fun _ => False) [] 0 C (.loop q22_L4_b.er) (q22_L4_p lo) :=
  loop_sound (T := (⟨pf, fs22 lo, [], 0⟩ : Tabs)) hT frNo (show LsOK (fun _ => False) [] C (⟨pf, fs22 lo, [], 0⟩ : Tabs) q22_L4_b from ⟨trivial, ⟨⟨trivial, trivial⟩, ⟨⟨trivial, trivial⟩, trivial⟩⟩⟩) (fun x y h => loopO_congr (q22_L4_e lo) (hlo _ _ _ h))
def q22 (lo : Lo) (s0 : ByteArray) (q1 : Int) : Option ((List ByteArray) × Int) :=
  Option.bind (q3 lo [s0]) fun y12 => bif y12 then (some ([], (3 : Int))) else (bif (decide (q1 < (1 : Int))) then (some ([], (7 : Int))) else (bif (decide ((4 : Int) < q1)) then (some ([], (7 : Int))) else (Option.bind (q6 lo (ByteArray.mk #[1]) (IntKind.wrap .i64 (q1 - (1 : Int)))) fun y13 => chk (Nat.ble (y13.size + s0.size) 9223372036854775807 = true) (chk (Nat.ble ((y13 ++ s0).size + y13.size) 9223372036854775807 = true) (Option.bind (q22_L4 lo (q1, ((y13 ++ s0) ++ y13), (IntKind.wrap .i64 ((IntKind.wrap .i64 ((s0.size : Int) + q1)) - (1 : Int))), (0 : Int), [])) fun y14 => Option.bind (q21 lo y14) fun y74 => chk (y74.length = y14.length) (some (y74, (0 : Int))))))))
def q22_c : VCode :=
 (.seq (.reg [o 4 (.mv (ke (cs [.s]))), o 5 (.mv (k 0))])
 (.seq (.seq (.reg [o 10 (.mv (t 0)), o 11 (.bsl (cs [.s]) 1 [(0, (t 10))]), o 12 (.call 590 [(t 11)])])
 (.cond (t 12) (.seq (.reg [o 4 (.mv (ke (cs [.s]))), o 5 (.mv (k 3))])
 (.fz [4, 5] .ret))
 .skip))
 (.seq (.seq (.reg [o 13 (.mv (t 1)), o 14 (.bin .lss (t 13) (k 1)), o 15 (.mv (t 14)), og 16 15 false (.mv (t 1)), og 17 15 false (.bin .gtr (t 16) (k 4)), o 18 (.pick (t 15) (kb true) (t 17))])
 (.cond (t 18) (.seq (.reg [o 4 (.mv (ke (cs [.s]))), o 5 (.mv (k 7))])
 (.fz [4, 5] .ret))
 .skip))
 (.seq (.reg [o 19 (.mv (t 1)), o 20 (.bin .sub (t 19) (k 1)), o 21 (.call 594 [(ks (⟨#[1]⟩)), (t 20)]), o 6 (.mv (t 21))])
 (.seq (.reg [o 22 (.mv (t 6)), o 23 (.mv (t 0)), o 24 (.bin .add (t 22) (t 23)), o 25 (.mv (t 6)), o 26 (.bin .add (t 24) (t 25)), o 7 (.mv (t 26))])
 (.seq (.reg [o 8 (.mv (ke (cs [.s])))])
 (.seq (.seq (.reg [o 27 (.mv (t 0)), o 28 (.lenS (t 27)), o 29 (.mv (t 1)), o 30 (.bin .add (t 28) (t 29)), o 31 (.bin .sub (t 30) (k 1)), o 32 (.mv (k 0))])
 (.blk 0 (.loop 4 q22_L4_b)))
 (.seq (.reg [o 45 (.mv (t 8)), o 46 (.call 271 [(t 45)])])
 (.seq (.reg [o 47 (.mv (t 8)), o 4 (.mv (t 47)), o 5 (.mv (k 0))])
 (.fz [4, 5] .ret))))))))))
def q22_F : VFn := ⟨true, 48, [.t 4, .t 5], q22_c⟩
def q22_f (lo : Lo) : FnE := ⟨575, true, ⟨[0, 1], [.s, .i .i64], [], (cs [.s, I])⟩, .tp [.l (cs [.s]), .i .i64], [], (cs [.l (cs [.s]), I]), (fun x => q22 lo x.1 x.2 : ByteArray × Int → Option ((List ByteArray) × Int))⟩
theorem q22_e (lo : Lo) : ∀ x : ByteArray × Int, evP (⟨pf, fs22 lo, [q22_L4_p lo], 0⟩ : Tabs) q22_F ⟨[0, 1], [.s, .i .i64], [], (cs [.s, I])⟩ (.tp [.l (cs [.s]), .i .i64]) (cs [.l (cs [.s]), I]) x = q22 lo x.1 x.2 := fun x => by kernel_rfl
theorem q22_S {P : Program} {fm : FM} {lo : Lo} (hlo : LoOK lo) (hS : Sound P fm ⟨pf, fs22 lo, [], 0⟩) (hm : P.follows .mixedOrders = true) (htie : ∀ f, fm f = 575 → fnTr P fm pf f = some (q22_F.slots, q22_F.res, q22_F.code.er)) : Sound P fm ⟨pf, q22_f lo :: fs22 lo, [], 0⟩ :=
  fn_sound hS hm [q22_L4_p lo] (q22_f lo) rfl q22_F htie (by decide) rfl (Nat.le_of_ble_eq_true (by kernel_rfl)) (fun C hT => show LsOK (fun _ => False) [] C (⟨pf, fs22 lo, [q22_L4_p lo], 0⟩ : Tabs) q22_c from ⟨trivial, ⟨⟨trivial, ⟨⟨trivial, trivial⟩, trivial⟩⟩, ⟨⟨trivial, ⟨⟨trivial, trivial⟩, trivial⟩⟩, ⟨trivial, ⟨trivial, ⟨trivial, ⟨⟨trivial, (lsGet (by kernel_rfl) (q22_L4_k hlo C (tok_ls hT)))⟩, ⟨trivial, ⟨trivial, trivial⟩⟩⟩⟩⟩⟩⟩⟩⟩) (fun x y h => (q22_e lo x).trans h)
def fs23 (lo : Lo) : List FnE := q22_f lo :: fs22 lo
def q23 (lo : Lo) (a b : ByteArray) : Option Int := some (compareF a b)
def q23_f (lo : Lo) : FnE := vcmpE 609
theorem q23_S {P : Program} {fm : FM} {lo : Lo} (hlo : LoOK lo) (hS : Sound P fm ⟨pf, fs23 lo, [], 0⟩) (hm : P.follows .mixedOrders = true) (hG : ∀ f, fm f = 609 → callable P f = true ∧ ∃ ρ : Go.Shelf.Ren, Go.Proofs.Lays.n106 P ρ ∧ ρ.f 106 = f) : Sound P fm ⟨pf, q23_f lo :: fs23 lo, [], 0⟩ :=
  nat_sound hS (e := vcmpE 609) rfl (fun f h => by obtain ⟨k1, ρ, k2, k3⟩ := hG f h; exact vcmp_fok k2 k3 k1)
def fs24 (lo : Lo) : List FnE := q23_f lo :: fs23 lo
def q24_L3_b : VCode :=
 (.seq (.seq (.reg [o 7 (.mv (t 0)), o 8 (.len (t 7)), o 9 (.bin .gtr (t 8) (k 0)), o 10 (.mv (t 9)), og 11 10 true (.mv (t 1)), og 12 10 true (.len (t 11)), og 13 10 true (.bin .gtr (t 12) (k 0)), o 14 (.pick (t 10) (t 13) (kb false))])
 (.cond (t 14) .skip
 (.exit 0)))
 (.blk 1 (.seq (.reg [o 15 (.mv (t 0)), o 16 (.iad 1 (t 15) (k 0)), o 17 (.load false 1 (t 16)), o 18 (.mv (t 1)), o 19 (.iad 1 (t 18) (k 0)), o 20 (.load false 1 (t 19)), o 21 (.call 609 [(t 17), (t 20)]), o 6 (.mv (t 21))])
 (.blk 2 (.seq (.reg [o 29 (.mv (t 6)), o 30 (.bin .lss (t 29) (k 0)), o 28 (.mv (t 30))])
 (.cond (t 28) (.reg [o 31 (.mv (t 0)), o 32 (.slcR 1 (t 31) (some (k 1)) none), o 0 (.mv (t 32))])
 (.seq (.reg [o 34 (.mv (t 6)), o 35 (.bin .gtr (t 34) (k 0)), o 33 (.mv (t 35))])
 (.cond (t 33) (.reg [o 36 (.mv (t 1)), o 37 (.slcR 1 (t 36) (some (k 1)) none), o 1 (.mv (t 37))])
 (.seq (.reg [o 22 (.mv (t 0)), o 23 (.slcR 1 (t 22) (some (k 1)) none), o 24 (.mv (t 1)), o 25 (.slcR 1 (t 24) (some (k 1)) none), o 0 (.mv (t 23)), o 1 (.mv (t 25))])
 (.reg [o 26 (.mv (t 5)), o 27 (.bin .add (t 26) (k 1)), o 5 (.mv (t 27))]))))))))))
def q24_L3_g : Sg := ⟨[0, 1, 5], [.l (cs [.s]), .l (cs [.s]), .i .i64], [], (cs [.l (cs [.s]), .l (cs [.s]), I])⟩
def q24_L3_o : List Out1 := [⟨.exit 0, ⟨[5], [.i .i64], [], (cs [I])⟩⟩]
def q24_L3_s (lo : Lo) : (List ByteArray) × (List ByteArray) × Int → Option (((List ByteArray) × (List ByteArray) × Int) ⊕ Int) := fun x => match x with
  | (a0, b1, n5) => bif (decide ((0 : Int) < (a0.length : Int))) then (bif (decide ((0 : Int) < (b1.length : Int))) then (chk (0 ≤ (0 : Int) ∧ (0 : Int) < (a0.length : Int)) (chk (0 ≤ (0 : Int) ∧ (0 : Int) < (b1.length : Int)) (Option.bind (q23 lo (a0.getD 0 (ByteArray.mk #[])) (b1.getD 0 (ByteArray.mk #[]))) fun y79 => bif (decide (y79 < (0 : Int))) then (chk (0 ≤ (1 : Int) ∧ (1 : Int) ≤ (a0.length : Int) ∧ (a0.length : Int) ≤ (a0.length : Int)) (some (.inl (((a0.take (a0.length : Int).toNat).drop 1), b1, n5)))) else (bif (decide ((0 : Int) < y79)) then (chk (0 ≤ (1 : Int) ∧ (1 : Int) ≤ (b1.length : Int) ∧ (b1.length : Int) ≤ (b1.length : Int)) (some (.inl (a0, ((b1.take (b1.length : Int).toNat).drop 1), n5)))) else (chk (0 ≤ (1 : Int) ∧ (1 : Int) ≤ (a0.length : Int) ∧ (a0.length : Int) ≤ (a0.length : Int)) (chk (0 ≤ (1 : Int) ∧ (1 : Int) ≤ (b1.length : Int) ∧ (b1.length : Int) ≤ (b1.length : Int)) (some (.inl (((a0.take (a0.length : Int).toNat).drop 1), ((b1.take (b1.length : Int).toNat).drop 1), (IntKind.wrap .i64 (n5 + (1 : Int)))))))))))) else (some (.inr n5))) else (some (.inr n5))
theorem q24_L3_e (lo : Lo) : ∀ x : (List ByteArray) × (List ByteArray) × Int, stepL (⟨pf, fs24 lo, [], 0⟩ : Tabs) [] q24_L3_g q24_L3_o q24_L3_b x = q24_L3_s lo x := fun x => by kernel_rfl
def q24_L3 (lo : Lo) : (List ByteArray) × (List ByteArray) × Int → Option Int := lo.run (q24_L3_s lo)
def q24_L3_p (lo : Lo) : LpE := ⟨3, [], q24_L3_g, q24_L3_o, q24_L3 lo⟩
theorem q24_L3_k {lo : Lo} (hlo : LoOK lo) (C : Ctx) (hT : TOK (⟨pf, fs24 lo, [], 0⟩ : Tabs) C) : LpSound (fun _ => False) [] 0 C (.loop q24_L3_b.er) (q24_L3_p lo) :=
  loop_sound (T := (⟨pf, fs24 lo, [], 0⟩ : Tabs)) hT frNo (show LsOK (fun _ => False) [] C (⟨pf, fs24 lo, [], 0⟩ : Tabs) q24_L3_b from ⟨⟨trivial, ⟨trivial, trivial⟩⟩, ⟨trivial, ⟨trivial, ⟨trivial, ⟨trivial, ⟨trivial, ⟨trivial, trivial⟩⟩⟩⟩⟩⟩⟩) (fun x y h => loopO_congr (q24_L3_e lo) (hlo _ _ _ h))
def q24 (lo : Lo) (a0 : List ByteArray) (b1 : List ByteArray) : Option Int :=
  Option.bind (q24_L3 lo (a0, b1, (0 : Int))) fun y80 => some y80
def q24_c : VCode :=
 (.seq (.reg [o 4 (.mv (k 0))])
 (.seq (.reg [o 5 (.mv (k 0))])
 (.seq (.blk 0 (.loop 3 q24_L3_b))
 (.seq (.reg [o 38 (.mv (t 5)), o 4 (.mv (t 38))])
 (.fz [4] .ret)))))
def q24_F : VFn := ⟨true, 39, [.t 4], q24_c⟩
def q24_f (lo : Lo) : FnE := ⟨596, true, ⟨[0, 1], [.l (cs [.s]), .l (cs [.s])], [], (cs [.l (cs [.s]), .l (cs [.s])])⟩, .i .i64, [], (cs [I]), (fun x => q24 lo x.1 x.2 : (List ByteArray) × (List ByteArray) → Option Int)⟩
theorem q24_e (lo : Lo) : ∀ x : (List ByteArray) × (List ByteArray), evP (⟨pf, fs24 lo, [q24_L3_p lo], 0⟩ : Tabs) q24_F ⟨[0, 1], [.l (cs [.s]), .l (cs [.s])], [], (cs [.l (cs [.s]), .l (cs [.s])])⟩ (.i .i64) (cs [I]) x = q24 lo x.1 x.2 := fun x => by kernel_rfl
theorem q24_S {P : Program} {fm : FM} {lo : Lo} (hlo : LoOK lo) (hS : Sound P fm ⟨pf, fs24 lo, [], 0⟩) (hm : P.follows .mixedOrders = true) (htie : ∀ f, fm f = 596 → fnTr P fm pf f = some (q24_F.slots, q24_F.res, q24_F.code.er)) : Sound P fm ⟨pf, q24_f lo :: fs24 lo, [], 0⟩ :=
  fn_sound hS hm [q24_L3_p lo] (q24_f lo) rfl q24_F htie (by decide) rfl (Nat.le_of_ble_eq_true (by kernel_rfl)) (fun C hT => show LsOK (fun _ => False) [] C (⟨pf, fs24 lo, [q24_L3_p lo], 0⟩ : Tabs) q24_c from ⟨trivial, ⟨trivial, ⟨(lsGet (by kernel_rfl) (q24_L3_k hlo C (tok_ls hT))), ⟨trivial, trivial⟩⟩⟩⟩) (fun x y h => (q24_e lo x).trans h)
def fs25 (lo : Lo) : List FnE := q24_f lo :: fs24 lo
def q25 (lo : Lo) (n0 : Int) : Option Int :=
  bif (decide (n0 < (0 : Int))) then (some (IntKind.wrap .u64 (0 - (IntKind.wrap .u64 n0)))) else (some (IntKind.wrap .u64 n0))
def q25_c : VCode :=
 (.seq (.reg [o 2 (.mv (ki .u64 0))])
 (.seq (.seq (.reg [o 3 (.mv (t 0)), o 4 (.bin .lss (t 3) (k 0))])
 (.cond (t 4) (.seq (.reg [o 5 (.mv (t 0)), o 6 (.conv .u64 (t 5)), o 7 (.neg (t 6)), o 2 (.mv (t 7))])
 (.fz [2] .ret))
 .skip))
 (.seq (.reg [o 8 (.mv (t 0)), o 9 (.conv .u64 (t 8)), o 2 (.mv (t 9))])
 (.fz [2] .ret))))
def q25_F : VFn := ⟨true, 10, [.t 2], q25_c⟩
def q25_f (lo : Lo) : FnE := ⟨606, true, ⟨[0], [.i .i64], [], (cs [I])⟩, .i .u64, [], (cs [.i .u64]), (fun x => q25 lo x : Int → Option Int)⟩
theorem q25_e (lo : Lo) : ∀ x : Int, evP (⟨pf, fs25 lo, [], 0⟩ : Tabs) q25_F ⟨[0], [.i .i64], [], (cs [I])⟩ (.i .u64) (cs [.i .u64]) x = q25 lo x := fun x => by kernel_rfl
theorem q25_S {P : Program} {fm : FM} {lo : Lo} (hlo : LoOK lo) (hS : Sound P fm ⟨pf, fs25 lo, [], 0⟩) (hm : P.follows .mixedOrders = true) (htie : ∀ f, fm f = 606 → fnTr P fm pf f = some (q25_F.slots, q25_F.res, q25_F.code.er)) : Sound P fm ⟨pf, q25_f lo :: fs25 lo, [], 0⟩ :=
  fn_sound hS hm [] (q25_f lo) rfl q25_F htie (by decide) rfl (Nat.le_of_ble_eq_true (by kernel_rfl)) (fun C hT => show LsOK (fun _ => False) [] C (⟨pf, fs25 lo, [], 0⟩ : Tabs) q25_c from ⟨trivial, ⟨⟨trivial, ⟨⟨trivial, trivial⟩, trivial⟩⟩, ⟨trivial, trivial⟩⟩⟩) (fun x y h => (q25_e lo x).trans h)
def fs26 (lo : Lo) : List FnE := q25_f lo :: fs25 lo
def q26_L3_b : VCode :=
 (.seq (.seq (.reg [o 5 (.mv (t 1)), o 6 (.bin .gtr (t 5) (ki .u64 0))])
 (.cond (t 6) .skip
 (.exit 0)))
 (.blk 1 (.reg [o 7 (.mv (t 1)), o 8 (.mv (t 0)), o 9 (.mv (t 1)), o 10 (.bin .rem (t 8) (t 9)), o 0 (.mv (t 7)), o 1 (.mv (t 10))])))
def q26_L3_g : Sg := ⟨[0, 1], [.i .u64, .i .u64], [], (cs [.i .u64, .i .u64])⟩
def q26_L3_o : List Out1 := [⟨.exit 0, ⟨[0], [.i .u64], [], (cs [.i .u64])⟩⟩]
def q26_L3_s (lo : Lo) : Int × Int → Option ((Int × Int) ⊕ Int) := fun x => match x with
  | (a0, b1) => bif (decide ((0 : Int) < b1)) then (chk (b1 ≠ 0) (some (.inl (b1, (a0.tmod b1))))) else (some (.inr a0))
theorem q26_L3_e (lo : Lo) : ∀ x : Int × Int, stepL (⟨pf, fs26 lo, [], 0⟩ : Tabs) [] q26_L3_g q26_L3_o q26_L3_b x = q26_L3_s lo x := fun x => by kernel_rfl
def q26_L3 (lo : Lo) : Int × Int → Option Int := lo.run (q26_L3_s lo)
def q26_L3_p (lo : Lo) : LpE := ⟨3, [], q26_L3_g, q26_L3_o, q26_L3 lo⟩
theorem q26_L3_k {lo : Lo} (hlo : LoOK lo) (C : Ctx) (hT : TOK (⟨pf, fs26 lo, [], 0⟩ : Tabs) C) : LpSound (fun _ => False) [] 0 C (.loop q26_L3_b.er) (q26_L3_p lo) :=
  loop_sound (T := (⟨pf, fs26 lo, [], 0⟩ : Tabs)) hT frNo (show LsOK (fun _ => False) [] C (⟨pf, fs26 lo, [], 0⟩ : Tabs) q26_L3_b from ⟨⟨trivial, ⟨trivial, trivial⟩⟩, trivial⟩) (fun x y h => loopO_congr (q26_L3_e lo) (hlo _ _ _ h))
def q26 (lo : Lo) (a0 : Int) (b1 : Int) : Option Int :=
  Option.bind (q26_L3 lo (a0, b1)) fun y84 => some y84
def q26_c : VCode :=
 (.seq (.reg [o 4 (.mv (ki .u64 0))])
 (.seq (.blk 0 (.loop 3 q26_L3_b))
 (.seq (.reg [o 11 (.mv (t 0)), o 4 (.mv (t 11))])
 (.fz [4] .ret))))
def q26_F : VFn := ⟨true, 12, [.t 4], q26_c⟩
def q26_f (lo : Lo) : FnE := ⟨607, true, ⟨[0, 1], [.i .u64, .i .u64], [], (cs [.i .u64, .i .u64])⟩, .i .u64, [], (cs [.i .u64]), (fun x => q26 lo x.1 x.2 : Int × Int → Option Int)⟩
theorem q26_e (lo : Lo) : ∀ x : Int × Int, evP (⟨pf, fs26 lo, [q26_L3_p lo], 0⟩ : Tabs) q26_F ⟨[0, 1], [.i .u64, .i .u64], [], (cs [.i .u64, .i .u64])⟩ (.i .u64) (cs [.i .u64]) x = q26 lo x.1 x.2 := fun x => by kernel_rfl
theorem q26_S {P : Program} {fm : FM} {lo : Lo} (hlo : LoOK lo) (hS : Sound P fm ⟨pf, fs26 lo, [], 0⟩) (hm : P.follows .mixedOrders = true) (htie : ∀ f, fm f = 607 → fnTr P fm pf f = some (q26_F.slots, q26_F.res, q26_F.code.er)) : Sound P fm ⟨pf, q26_f lo :: fs26 lo, [], 0⟩ :=
  fn_sound hS hm [q26_L3_p lo] (q26_f lo) rfl q26_F htie (by decide) rfl (Nat.le_of_ble_eq_true (by kernel_rfl)) (fun C hT => show LsOK (fun _ => False) [] C (⟨pf, fs26 lo, [q26_L3_p lo], 0⟩ : Tabs) q26_c from ⟨trivial, ⟨(lsGet (by kernel_rfl) (q26_L3_k hlo C (tok_ls hT))), ⟨trivial, trivial⟩⟩⟩) (fun x y h => (q26_e lo x).trans h)
def fs27 (lo : Lo) : List FnE := q26_f lo :: fs26 lo
def q27 (lo : Lo) (neg0 : Bool) (num1 : Int) (den2 : Int) : Option (Int × Int × Int) :=
  bif (decide ((9223372036854775807 : Int) < num1)) then (some ((0 : Int), (0 : Int), (7 : Int))) else (bif (decide ((9223372036854775807 : Int) < den2)) then (some ((0 : Int), (0 : Int), (7 : Int))) else (bif neg0 then (some ((IntKind.wrap .i64 (0 - (IntKind.wrap .i64 num1))), (IntKind.wrap .i64 den2), (0 : Int))) else (some ((IntKind.wrap .i64 num1), (IntKind.wrap .i64 den2), (0 : Int)))))
def q27_c : VCode :=
 (.seq (.reg [o 6 (.alloc [.i .i64 0, .i .i64 0]), o 7 (.mv (k 0))])
 (.seq (.seq (.reg [o 9 (.mv (t 1)), o 10 (.bin .gtr (t 9) (ki .u64 9223372036854775807)), o 11 (.mv (t 10)), og 12 11 false (.mv (t 2)), og 13 11 false (.bin .gtr (t 12) (ki .u64 9223372036854775807)), o 14 (.pick (t 11) (kb true) (t 13))])
 (.cond (t 14) (.seq (.reg [o 15 (.build [.i .i64 0, .i .i64 0] []), on (.store 2 (t 6) (t 15)), o 7 (.mv (k 7))])
 (.fz [6, 7] .ret))
 .skip))
 (.seq (.reg [o 16 (.mv (t 1)), o 17 (.conv .i64 (t 16)), o 18 (.mv (t 2)), o 19 (.conv .i64 (t 18)), o 20 (.build [.i .i64 0, .i .i64 0] [(0, 1, (t 17)), (1, 1, (t 19))]), o 8 (.alloc [.i .i64 0, .i .i64 0]), on (.store 2 (t 8) (t 20))])
 (.seq (.seq (.reg [o 21 (.mv (t 0))])
 (.cond (t 21) (.reg [o 22 (.fad 0 (t 8)), o 23 (.load false 1 (t 22)), o 24 (.neg (t 23)), o 25 (.fad 0 (t 8)), on (.store 1 (t 25) (t 24))])
 .skip))
 (.seq (.reg [o 26 (.load true 2 (t 8)), on (.store 2 (t 6) (t 26)), o 7 (.mv (k 0))])
 (.fz [6, 7] .ret))))))
def q27_F : VFn := ⟨true, 27, [.c 6 true 2, .t 7], q27_c⟩
def q27_f (lo : Lo) : FnE := ⟨608, true, ⟨[0, 1, 2], [.b, .i .u64, .i .u64], [], (cs [.b, .i .u64, .i .u64])⟩, .tp [.ag [.i .i64, .i .i64], .i .i64], [], (cs [I, I, I]), (fun x => q27 lo x.1 x.2.1 x.2.2 : Bool × Int × Int → Option (Int × Int × Int))⟩
theorem q27_e (lo : Lo) : ∀ x : Bool × Int × Int, evP (⟨pf, fs27 lo, [], 0⟩ : Tabs) q27_F ⟨[0, 1, 2], [.b, .i .u64, .i .u64], [], (cs [.b, .i .u64, .i .u64])⟩ (.tp [.ag [.i .i64, .i .i64], .i .i64]) (cs [I, I, I]) x = q27 lo x.1 x.2.1 x.2.2 := fun x => by kernel_rfl
theorem q27_S {P : Program} {fm : FM} {lo : Lo} (hlo : LoOK lo) (hS : Sound P fm ⟨pf, fs27 lo, [], 0⟩) (hm : P.follows .mixedOrders = true) (htie : ∀ f, fm f = 608 → fnTr P fm pf f = some (q27_F.slots, q27_F.res, q27_F.code.er)) : Sound P fm ⟨pf, q27_f lo :: fs27 lo, [], 0⟩ :=
  fn_sound hS hm [] (q27_f lo) rfl q27_F htie (by decide) rfl (Nat.le_of_ble_eq_true (by kernel_rfl)) (fun C hT => show LsOK (fun _ => False) [] C (⟨pf, fs27 lo, [], 0⟩ : Tabs) q27_c from ⟨trivial, ⟨⟨trivial, ⟨⟨trivial, trivial⟩, trivial⟩⟩, ⟨trivial, ⟨⟨trivial, ⟨trivial, trivial⟩⟩, ⟨trivial, trivial⟩⟩⟩⟩⟩) (fun x y h => (q27_e lo x).trans h)
def fs28 (lo : Lo) : List FnE := q27_f lo :: fs27 lo
def q28 (lo : Lo) (num0 : Int) (den1 : Int) : Option (Int × Int × Int) :=
  bif (decide (den1 = (0 : Int))) then (some ((0 : Int), (0 : Int), (8 : Int))) else (Option.bind (q25 lo num0) fun y82 => Option.bind (q25 lo den1) fun y83 => Option.bind (q26 lo y82 y83) fun y85 => chk (y85 ≠ 0) (chk (y85 ≠ 0) (Option.bind (q27 lo (!((decide (num0 < (0 : Int))) == (decide (den1 < (0 : Int))))) (IntKind.wrap .u64 (y82.tdiv y85)) (IntKind.wrap .u64 (y83.tdiv y85))) fun y86 => some (y86.1, y86.2.1, y86.2.2))))
def q28_c : VCode :=
 (.seq (.reg [o 4 (.alloc [.i .i64 0, .i .i64 0]), o 5 (.mv (k 0))])
 (.seq (.seq (.reg [o 9 (.mv (t 1)), o 10 (.bin .eql (t 9) (k 0))])
 (.cond (t 10) (.seq (.reg [o 11 (.build [.i .i64 0, .i .i64 0] []), on (.store 2 (t 4) (t 11)), o 5 (.mv (k 8))])
 (.fz [4, 5] .ret))
 .skip))
 (.seq (.reg [o 12 (.mv (t 0)), o 13 (.call 606 [(t 12)]), o 14 (.mv (t 1)), o 15 (.call 606 [(t 14)]), o 6 (.mv (t 13)), o 7 (.mv (t 15))])
 (.seq (.reg [o 16 (.mv (t 6)), o 17 (.mv (t 7)), o 18 (.call 607 [(t 16), (t 17)]), o 8 (.mv (t 18))])
 (.seq (.reg [o 19 (.mv (t 0)), o 20 (.bin .lss (t 19) (k 0)), o 21 (.mv (t 1)), o 22 (.bin .lss (t 21) (k 0)), o 23 (.beq true (t 20) (t 22)), o 24 (.mv (t 6)), o 25 (.mv (t 8)), o 26 (.bin .quo (t 24) (t 25)), o 27 (.mv (t 7)), o 28 (.mv (t 8)), o 29 (.bin .quo (t 27) (t 28)), o 30 (.call 608 [(t 23), (t 26), (t 29)]), o 31 (.ext (t 30) 0), o 32 (.ext (t 30) 1), on (.store 2 (t 4) (t 31)), o 5 (.mv (t 32))])
 (.fz [4, 5] .ret))))))
def q28_F : VFn := ⟨true, 33, [.c 4 true 2, .t 5], q28_c⟩
def q28_f (lo : Lo) : FnE := ⟨595, true, ⟨[0, 1], [.i .i64, .i .i64], [], (cs [I, I])⟩, .tp [.ag [.i .i64, .i .i64], .i .i64], [], (cs [I, I, I]), (fun x => q28 lo x.1 x.2 : Int × Int → Option (Int × Int × Int))⟩
theorem q28_e (lo : Lo) : ∀ x : Int × Int, evP (⟨pf, fs28 lo, [], 0⟩ : Tabs) q28_F ⟨[0, 1], [.i .i64, .i .i64], [], (cs [I, I])⟩ (.tp [.ag [.i .i64, .i .i64], .i .i64]) (cs [I, I, I]) x = q28 lo x.1 x.2 := fun x => by kernel_rfl
theorem q28_S {P : Program} {fm : FM} {lo : Lo} (hlo : LoOK lo) (hS : Sound P fm ⟨pf, fs28 lo, [], 0⟩) (hm : P.follows .mixedOrders = true) (htie : ∀ f, fm f = 595 → fnTr P fm pf f = some (q28_F.slots, q28_F.res, q28_F.code.er)) : Sound P fm ⟨pf, q28_f lo :: fs28 lo, [], 0⟩ :=
  fn_sound hS hm [] (q28_f lo) rfl q28_F htie (by decide) rfl (Nat.le_of_ble_eq_true (by kernel_rfl)) (fun C hT => show LsOK (fun _ => False) [] C (⟨pf, fs28 lo, [], 0⟩ : Tabs) q28_c from ⟨trivial, ⟨⟨trivial, ⟨⟨trivial, trivial⟩, trivial⟩⟩, ⟨trivial, ⟨trivial, ⟨trivial, trivial⟩⟩⟩⟩⟩) (fun x y h => (q28_e lo x).trans h)
def fs29 (lo : Lo) : List FnE := q28_f lo :: fs28 lo
def q29 (lo : Lo) (a0 : ByteArray) (b1 : ByteArray) (q2 : Int) : Option (Int × Int × Int) :=
  Option.bind (q3 lo ([a0, b1])) fun y76 => bif y76 then (some ((0 : Int), (0 : Int), (3 : Int))) else (Option.bind (q22 lo a0 q2) fun y77 => Option.bind (q22 lo b1 q2) fun y78 => bif (!decide (y77.2 = (0 : Int))) then (some ((0 : Int), (0 : Int), y77.2)) else (bif (decide ((IntKind.wrap .i64 ((y77.1.length : Int) + (y78.1.length : Int))) = (0 : Int))) then (some ((1 : Int), (1 : Int), (0 : Int))) else (Option.bind (q24 lo y77.1 y78.1) fun y81 => Option.bind (q28 lo (IntKind.wrap .i64 ((2 : Int) * y81)) (IntKind.wrap .i64 ((y77.1.length : Int) + (y78.1.length : Int)))) fun y87 => some (y87.1, y87.2.1, y87.2.2))))
def q29_c : VCode :=
 (.seq (.reg [o 6 (.alloc [.i .i64 0, .i .i64 0]), o 7 (.mv (k 0))])
 (.seq (.seq (.reg [o 12 (.mv (t 0)), o 13 (.mv (t 1)), o 14 (.bsl (cs [.s]) 2 [(0, (t 12)), (1, (t 13))]), o 15 (.call 590 [(t 14)])])
 (.cond (t 15) (.seq (.reg [o 16 (.build [.i .i64 0, .i .i64 0] []), on (.store 2 (t 6) (t 16)), o 7 (.mv (k 3))])
 (.fz [6, 7] .ret))
 .skip))
 (.seq (.reg [o 18 (.mv (t 0)), o 19 (.mv (t 2)), o 20 (.call 575 [(t 18), (t 19)]), o 17 (.mv (t 20)), o 21 (.ext (t 17) 0), o 22 (.ext (t 17) 1), o 8 (.mv (t 21)), o 9 (.mv (t 22))])
 (.seq (.reg [o 24 (.mv (t 1)), o 25 (.mv (t 2)), o 26 (.call 575 [(t 24), (t 25)]), o 23 (.mv (t 26)), o 27 (.ext (t 23) 0), o 28 (.ext (t 23) 1), o 10 (.mv (t 27)), o 11 (.mv (t 28))])
 (.seq (.seq (.reg [o 29 (.mv (t 9)), o 30 (.bin .neq (t 29) (k 0))])
 (.cond (t 30) (.seq (.reg [o 31 (.build [.i .i64 0, .i .i64 0] []), o 32 (.mv (t 9)), on (.store 2 (t 6) (t 31)), o 7 (.mv (t 32))])
 (.fz [6, 7] .ret))
 .skip))
 (.seq (.seq (.reg [o 33 (.mv (t 8)), o 34 (.len (t 33)), o 35 (.mv (t 10)), o 36 (.len (t 35)), o 37 (.bin .add (t 34) (t 36)), o 38 (.bin .eql (t 37) (k 0))])
 (.cond (t 38) (.seq (.reg [o 39 (.build [.i .i64 0, .i .i64 0] [(0, 1, (k 1)), (1, 1, (k 1))]), on (.store 2 (t 6) (t 39)), o 7 (.mv (k 0))])
 (.fz [6, 7] .ret))
 .skip))
 (.seq (.reg [o 40 (.mv (t 8)), o 41 (.mv (t 10)), o 42 (.call 596 [(t 40), (t 41)]), o 43 (.bin .mul (k 2) (t 42)), o 44 (.mv (t 8)), o 45 (.len (t 44)), o 46 (.mv (t 10)), o 47 (.len (t 46)), o 48 (.bin .add (t 45) (t 47)), o 49 (.call 595 [(t 43), (t 48)]), o 50 (.ext (t 49) 0), o 51 (.ext (t 49) 1), on (.store 2 (t 6) (t 50)), o 7 (.mv (t 51))])
 (.fz [6, 7] .ret))))))))
def q29_F : VFn := ⟨true, 52, [.c 6 true 2, .t 7], q29_c⟩
def q29_f (lo : Lo) : FnE := ⟨577, true, ⟨[0, 1, 2], [.s, .s, .i .i64], [], (cs [.s, .s, I])⟩, .tp [.ag [.i .i64, .i .i64], .i .i64], [], (cs [I, I, I]), (fun x => q29 lo x.1 x.2.1 x.2.2 : ByteArray × ByteArray × Int → Option (Int × Int × Int))⟩
theorem q29_e (lo : Lo) : ∀ x : ByteArray × ByteArray × Int, evP (⟨pf, fs29 lo, [], 0⟩ : Tabs) q29_F ⟨[0, 1, 2], [.s, .s, .i .i64], [], (cs [.s, .s, I])⟩ (.tp [.ag [.i .i64, .i .i64], .i .i64]) (cs [I, I, I]) x = q29 lo x.1 x.2.1 x.2.2 := fun x => by kernel_rfl
theorem q29_S {P : Program} {fm : FM} {lo : Lo} (hlo : LoOK lo) (hS : Sound P fm ⟨pf, fs29 lo, [], 0⟩) (hm : P.follows .mixedOrders = true) (htie : ∀ f, fm f = 577 → fnTr P fm pf f = some (q29_F.slots, q29_F.res, q29_F.code.er)) : Sound P fm ⟨pf, q29_f lo :: fs29 lo, [], 0⟩ :=
  fn_sound hS hm [] (q29_f lo) rfl q29_F htie (by decide) rfl (Nat.le_of_ble_eq_true (by kernel_rfl)) (fun C hT => show LsOK (fun _ => False) [] C (⟨pf, fs29 lo, [], 0⟩ : Tabs) q29_c from ⟨trivial, ⟨⟨trivial, ⟨⟨trivial, trivial⟩, trivial⟩⟩, ⟨trivial, ⟨trivial, ⟨⟨trivial, ⟨⟨trivial, trivial⟩, trivial⟩⟩, ⟨⟨trivial, ⟨⟨trivial, trivial⟩, trivial⟩⟩, ⟨trivial, trivial⟩⟩⟩⟩⟩⟩⟩) (fun x y h => (q29_e lo x).trans h)
def fs30 (lo : Lo) : List FnE := q29_f lo :: fs29 lo
def q30 (lo : Lo) (s : ByteArray) : Option ByteArray := some s
def q30_f (lo : Lo) : FnE := vchkE2 164
theorem q30_S {P : Program} {fm : FM} {lo : Lo} (hlo : LoOK lo) (hS : Sound P fm ⟨pf, fs30 lo, [], 0⟩) (hm : P.follows .mixedOrders = true) (hG : ∀ f, fm f = 164 → callable P f = true ∧ ∃ ρ : Go.Shelf.Ren, Go.Proofs.Lays.n240 P ρ ∧ BldOK P fm ρ ∧ ρ.f 240 = f) : Sound P fm ⟨pf, q30_f lo :: fs30 lo, [], 0⟩ :=
  vchk2_sound hS rfl hG
def fs31 (lo : Lo) : List FnE := q30_f lo :: fs30 lo
def q31 (lo : Lo) (c1 : Int) (h1 : ByteArray) : Option ByteArray :=
  Option.bind (q30 lo h1) fun y93 => chk (y93.size = h1.size) (bif inB [c1] then (chk (y93.size + [c1].length ≤ maxEl) (some (y93 ++ bytesB [c1]))) else none)
def q31_c : VCode :=
 (.seq (.reg [o 4 (.mv (.c (.v .nilIface)))])
 (.seq (.reg [o 5 (.mv (t 0)), o 6 (.call 164 [(t 5)])])
 (.seq (.reg [o 7 (.mv (t 0)), o 8 (.mv (t 0)), o 9 (.nilc (t 8)), o 10 (.fad 1 (t 9)), o 11 (.load false 1 (t 10)), o 12 (.mv (t 1)), o 13 (.bsl (cs [.i .u8]) 1 [(0, (t 12))]), o 14 (.appb (t 11) (t 13)), o 15 (.nilc (t 7)), o 16 (.fad 1 (t 15)), on (.store 1 (t 16) (t 14))])
 (.seq (.reg [o 4 (.mv (.c (.v .nilIface)))])
 .ret))))
def q31_F : VFn := ⟨true, 17, [.t 4], q31_c⟩
def q31_f (lo : Lo) : FnE := ⟨592, false, ⟨[0, 1], [.ptr 0 0 0, .i .u8], [.st [.np 0, .ref 1], .sb], (cs [.i .u8, .s])⟩, .u, [.st [.np 0, .ref 2], .dd, .sb], (cs [.s]), (fun x => q31 lo x.1 x.2 : Int × ByteArray → Option ByteArray)⟩
theorem q31_e (lo : Lo) : ∀ x : Int × ByteArray, evI (⟨pf, fs31 lo, [], 2⟩ : Tabs) q31_F ⟨[0, 1], [.ptr 0 0 0, .i .u8], [.st [.np 0, .ref 1], .sb], (cs [.i .u8, .s])⟩ (.u) [.st [.np 0, .ref 2], .dd, .sb] (cs [.s]) x = q31 lo x.1 x.2 := fun x => by kernel_rfl
theorem q31_S {P : Program} {fm : FM} {lo : Lo} (hlo : LoOK lo) (hS : Sound P fm ⟨pf, fs31 lo, [], 0⟩) (hm : P.follows .mixedOrders = true) (htie : ∀ f, fm f = 592 → fnTr P fm pf f = some (q31_F.slots, q31_F.res, q31_F.code.er)) : Sound P fm ⟨pf, q31_f lo :: fs31 lo, [], 0⟩ :=
  fnI_sound hS hm [] (q31_f lo) rfl q31_F htie (by decide) rfl (Nat.le_of_ble_eq_true (by kernel_rfl)) (fun C hT Fr H0 hf => show LsOK Fr H0 C (⟨pf, fs31 lo, [], 2⟩ : Tabs) q31_c from ⟨trivial, ⟨trivial, ⟨trivial, ⟨trivial, trivial⟩⟩⟩⟩) (fun x y h => (q31_e lo x).trans h)
def fs32 (lo : Lo) : List FnE := q31_f lo :: fs31 lo
def q32 (lo : Lo) (s : ByteArray) : Option ByteArray := some s
def q32_f (lo : Lo) : FnE := vstrE 151
theorem q32_S {P : Program} {fm : FM} {lo : Lo} (hlo : LoOK lo) (hS : Sound P fm ⟨pf, fs32 lo, [], 0⟩) (hm : P.follows .mixedOrders = true) (hG : ∀ f, fm f = 151 → callable P f = true ∧ ∃ ρ : Go.Shelf.Ren, Go.Proofs.Lays.n169 P ρ ∧ BldOK P fm ρ ∧ fm.bu = ρ.t 5 ∧ ρ.f 169 = f) : Sound P fm ⟨pf, q32_f lo :: fs32 lo, [], 0⟩ :=
  vstr_sound hS rfl hG
def fs33 (lo : Lo) : List FnE := q32_f lo :: fs32 lo
end Go.Abs.G52
namespace Go.Abs.G52
open Go Go.Abs
set_option maxRecDepth 100000
set_option linter.unusedVariables false
set_option maxHeartbeats 1000000
def q33_L27_b : VCode :=
 (.seq (.reg [o 24 (.bin .lss (t 23) (t 22))])
 (.seq (.cond (t 24) .skip
 (.exit 0))
 (.seq (.blk 1 (.seq (.reg [o 25 (.mv (t 23)), o 7 (.mv (t 25))])
 (.reg [o 26 (.mv (t 6)), o 27 (.mv (t 7)), o 28 (.mv (t 1)), o 29 (.lenS (t 28)), o 30 (.bin .add (t 29) (k 1)), o 31 (.mksl (cs [I]) 0 (t 30) (t 30)), o 32 (.iad 1 (t 26) (t 27)), on (.store 1 (t 32) (t 31))])))
 (.reg [o 33 (.bin .add (t 23) (k 1)), o 23 (.mv (t 33))]))))
def q33_L27_g : Sg := ⟨[0, 1, 6, 22, 23], [.s, .s, .ref 0, .i .i64, .i .i64], [.fm (cs [I])], (cs [.s, .s, I, I, .l (cs [.l (cs [I])])])⟩
def q33_L27_o : List Out1 := [⟨.exit 0, ⟨[0, 1, 6], [.s, .s, .ref 0], [.fm (cs [I])], (cs [.s, .s, .l (cs [.l (cs [I])])])⟩⟩]
def q33_L27_s (lo : Lo) : ByteArray × ByteArray × Int × Int × (List ((List Int))) → Option ((ByteArray × ByteArray × Int × Int × (List ((List Int)))) ⊕ ((ByteArray × ByteArray × (List ((List Int)))))) := fun x => match x with
  | (a0, b1, v22, v23, n6) => bif (decide (v23 < v22)) then (chk (0 ≤ (IntKind.wrap .i64 ((b1.size : Int) + (1 : Int))) ∧ (IntKind.wrap .i64 ((b1.size : Int) + (1 : Int))) ≤ (IntKind.wrap .i64 ((b1.size : Int) + (1 : Int))) ∧ (IntKind.wrap .i64 ((b1.size : Int) + (1 : Int))) ≤ (maxEl : Nat)) (chk (0 ≤ v23 ∧ v23 < (n6.length : Int)) (some (.inl (a0, b1, v22, (IntKind.wrap .i64 (v23 + (1 : Int))), (n6.set v23.toNat (List.replicate (IntKind.wrap .i64 ((b1.size : Int) + (1 : Int))).toNat (0 : Int)))))))) else (some (.inr (a0, b1, n6)))
theorem q33_L27_e (lo : Lo) : ∀ x : ByteArray × ByteArray × Int × Int × (List ((List Int))), stepL (⟨pf, fs33 lo, [], 0⟩ : Tabs) [] q33_L27_g q33_L27_o q33_L27_b x = q33_L27_s lo x := fun x => by kernel_rfl
def q33_L27 (lo : Lo) : ByteArray × ByteArray × Int × Int × (List ((List Int))) → Option ((ByteArray × ByteArray × (List ((List Int))))) := lo.run (q33_L27_s lo)
def q33_L27_p (lo : Lo) : LpE := ⟨27, [], q33_L27_g, q33_L27_o, q33_L27 lo⟩
theorem q33_L27_k {lo : Lo} (hlo : LoOK lo) (C : Ctx) (hT : TOK (⟨pf, fs33 lo, [], 0⟩ : Tabs) C) : LpSound (fun _ => False) [] 0 C (.loop q33_L27_b.er) (q33_L27_p lo) :=
  loop_sound (T := (⟨pf, fs33 lo, [], 0⟩ : Tabs)) hT frNo (show LsOK (fun _ => False) [] C (⟨pf, fs33 lo, [], 0⟩ : Tabs) q33_L27_b from ⟨trivial, ⟨⟨trivial, trivial⟩, ⟨⟨trivial, trivial⟩, trivial⟩⟩⟩) (fun x y h => loopO_congr (q33_L27_e lo) (hlo _ _ _ h))
def q33_L16_b : VCode :=
 (.seq (.seq (.reg [o 44 (.mv (t 9)), o 45 (.bin .geq (t 44) (k 0))])
 (.cond (t 45) .skip
 (.exit 4)))
 (.seq (.blk 5 (.seq (.reg [o 48 (.mv (t 0)), o 49 (.mv (t 8)), o 50 (.idx (t 48) (t 49)), o 51 (.mv (t 1)), o 52 (.mv (t 9)), o 53 (.idx (t 51) (t 52)), o 54 (.bin .eql (t 50) (t 53))])
 (.cond (t 54) (.reg [o 55 (.mv (t 6)), o 56 (.mv (t 8)), o 57 (.iad 1 (t 55) (t 56)), o 58 (.load false 1 (t 57)), o 59 (.mv (t 9)), o 60 (.mv (t 6)), o 61 (.mv (t 8)), o 62 (.bin .add (t 61) (k 1)), o 63 (.iad 1 (t 60) (t 62)), o 64 (.load false 1 (t 63)), o 65 (.mv (t 9)), o 66 (.bin .add (t 65) (k 1)), o 67 (.iad 1 (t 64) (t 66)), o 68 (.load false 1 (t 67)), o 69 (.bin .add (k 1) (t 68)), o 70 (.iad 1 (t 58) (t 59)), on (.store 1 (t 70) (t 69))])
 (.reg [o 71 (.mv (t 6)), o 72 (.mv (t 8)), o 73 (.iad 1 (t 71) (t 72)), o 74 (.load false 1 (t 73)), o 75 (.mv (t 9)), o 76 (.mv (t 6)), o 77 (.mv (t 8)), o 78 (.bin .add (t 77) (k 1)), o 79 (.iad 1 (t 76) (t 78)), o 80 (.load false 1 (t 79)), o 81 (.mv (t 9)), o 82 (.iad 1 (t 80) (t 81)), o 83 (.load false 1 (t 82)), o 84 (.mv (t 6)), o 85 (.mv (t 8)), o 86 (.iad 1 (t 84) (t 85)), o 87 (.load false 1 (t 86)), o 88 (.mv (t 9)), o 89 (.bin .add (t 88) (k 1)), o 90 (.iad 1 (t 87) (t 89)), o 91 (.load false 1 (t 90)), o 92 (.mm true [(t 83), (t 91)]), o 93 (.iad 1 (t 74) (t 75)), on (.store 1 (t 93) (t 92))]))))
 (.reg [o 46 (.mv (t 9)), o 47 (.bin .sub (t 46) (k 1)), o 9 (.mv (t 47))])))
def q33_L16_g : Sg := ⟨[0, 1, 6, 8, 9], [.s, .s, .ref 0, .i .i64, .i .i64], [.fm (cs [I])], (cs [.s, .s, I, I, .l (cs [.l (cs [I])])])⟩
def q33_L16_o : List Out1 := [⟨.exit 4, ⟨[0, 1, 6, 8], [.s, .s, .ref 0, .i .i64], [.fm (cs [I])], (cs [.s, .s, I, .l (cs [.l (cs [I])])])⟩⟩]
def q33_L16_s (lo : Lo) : ByteArray × ByteArray × Int × Int × (List ((List Int))) → Option ((ByteArray × ByteArray × Int × Int × (List ((List Int)))) ⊕ ((ByteArray × ByteArray × Int × (List ((List Int)))))) := fun x => match x with
  | (a0, b1, i8, j9, n6) => bif (decide ((0 : Int) ≤ j9)) then (chk (0 ≤ i8 ∧ i8 < (a0.size : Int)) (chk (0 ≤ j9 ∧ j9 < (b1.size : Int)) (bif (decide ((byteI a0 i8) = (byteI b1 j9))) then (chk (0 ≤ i8 ∧ i8 < (n6.length : Int)) (chk (0 ≤ (IntKind.wrap .i64 (i8 + (1 : Int))) ∧ (IntKind.wrap .i64 (i8 + (1 : Int))) < (n6.length : Int)) (chk (0 ≤ (IntKind.wrap .i64 (j9 + (1 : Int))) ∧ (IntKind.wrap .i64 (j9 + (1 : Int))) < (((n6.getD ((IntKind.wrap .i64 (i8 + (1 : Int))).toNat) []).length : Nat) : Int)) (chk (0 ≤ j9 ∧ j9 < (((n6.getD i8.toNat []).length : Nat) : Int)) (some (.inl (a0, b1, i8, (IntKind.wrap .i64 (j9 - (1 : Int))), (n6.set i8.toNat ((n6.getD i8.toNat []).set j9.toNat (IntKind.wrap .i64 ((1 : Int) + ((n6.getD ((IntKind.wrap .i64 (i8 + (1 : Int))).toNat) []).getD ((IntKind.wrap .i64 (j9 + (1 : Int))).toNat) (0 : Int))))))))))))) else (chk (0 ≤ i8 ∧ i8 < (n6.length : Int)) (chk (0 ≤ (IntKind.wrap .i64 (i8 + (1 : Int))) ∧ (IntKind.wrap .i64 (i8 + (1 : Int))) < (n6.length : Int)) (chk (0 ≤ j9 ∧ j9 < (((n6.getD ((IntKind.wrap .i64 (i8 + (1 : Int))).toNat) []).length : Nat) : Int)) (chk (0 ≤ i8 ∧ i8 < (n6.length : Int)) (chk (0 ≤ (IntKind.wrap .i64 (j9 + (1 : Int))) ∧ (IntKind.wrap .i64 (j9 + (1 : Int))) < (((n6.getD i8.toNat []).length : Nat) : Int)) (chk (0 ≤ j9 ∧ j9 < (((n6.getD i8.toNat []).length : Nat) : Int)) (some (.inl (a0, b1, i8, (IntKind.wrap .i64 (j9 - (1 : Int))), (n6.set i8.toNat ((n6.getD i8.toNat []).set j9.toNat (max ((n6.getD ((IntKind.wrap .i64 (i8 + (1 : Int))).toNat) []).getD j9.toNat (0 : Int)) ((n6.getD i8.toNat []).getD ((IntKind.wrap .i64 (j9 + (1 : Int))).toNat) (0 : Int))))))))))))))))) else (some (.inr (a0, b1, i8, n6)))
theorem q33_L16_e (lo : Lo) : ∀ x : ByteArray × ByteArray × Int × Int × (List ((List Int))), stepL (⟨pf, fs33 lo, [q33_L27_p lo], 0⟩ : Tabs) [] q33_L16_g q33_L16_o q33_L16_b x = q33_L16_s lo x := fun x => by kernel_rfl
def q33_L16 (lo : Lo) : ByteArray × ByteArray × Int × Int × (List ((List Int))) → Option ((ByteArray × ByteArray × Int × (List ((List Int))))) := lo.run (q33_L16_s lo)
def q33_L16_p (lo : Lo) : LpE := ⟨16, [], q33_L16_g, q33_L16_o, q33_L16 lo⟩
theorem q33_L16_k {lo : Lo} (hlo : LoOK lo) (C : Ctx) (hT : TOK (⟨pf, fs33 lo, [q33_L27_p lo], 0⟩ : Tabs) C) : LpSound (fun _ => False) [] 0 C (.loop q33_L16_b.er) (q33_L16_p lo) :=
  loop_sound (T := (⟨pf, fs33 lo, [q33_L27_p lo], 0⟩ : Tabs)) hT frNo (show LsOK (fun _ => False) [] C (⟨pf, fs33 lo, [q33_L27_p lo], 0⟩ : Tabs) q33_L16_b from ⟨⟨trivial, ⟨trivial, trivial⟩⟩, ⟨⟨trivial, ⟨trivial, trivial⟩⟩, trivial⟩⟩) (fun x y h => loopO_congr (q33_L16_e lo) (hlo _ _ _ h))
def q33_L14_b : VCode :=
 (.seq (.seq (.reg [o 37 (.mv (t 8)), o 38 (.bin .geq (t 37) (k 0))])
 (.cond (t 38) .skip
 (.exit 2)))
 (.seq (.blk 3 (.seq (.reg [o 41 (.mv (t 1)), o 42 (.lenS (t 41)), o 43 (.bin .sub (t 42) (k 1)), o 9 (.mv (t 43))])
 (.blk 4 (.loop 16 q33_L16_b))))
 (.reg [o 39 (.mv (t 8)), o 40 (.bin .sub (t 39) (k 1)), o 8 (.mv (t 40))])))
def q33_L14_g : Sg := ⟨[0, 1, 6, 8], [.s, .s, .ref 0, .i .i64], [.fm (cs [I])], (cs [.s, .s, I, .l (cs [.l (cs [I])])])⟩
def q33_L14_o : List Out1 := [⟨.exit 2, ⟨[0, 1, 6], [.s, .s, .ref 0], [.fm (cs [I])], (cs [.s, .s, .l (cs [.l (cs [I])])])⟩⟩]
def q33_L14_s (lo : Lo) : ByteArray × ByteArray × Int × (List ((List Int))) → Option ((ByteArray × ByteArray × Int × (List ((List Int)))) ⊕ ((ByteArray × ByteArray × (List ((List Int)))))) := fun x => match x with
  | (a0, b1, i8, n6) => bif (decide ((0 : Int) ≤ i8)) then (Option.bind (q33_L16 lo (a0, b1, i8, (IntKind.wrap .i64 ((b1.size : Int) - (1 : Int))), n6)) fun y91 => some (.inl (y91.1, y91.2.1, (IntKind.wrap .i64 (y91.2.2.1 - (1 : Int))), y91.2.2.2))) else (some (.inr (a0, b1, n6)))
theorem q33_L14_e (lo : Lo) : ∀ x : ByteArray × ByteArray × Int × (List ((List Int))), stepL (⟨pf, fs33 lo, [q33_L16_p lo, q33_L27_p lo], 0⟩ : Tabs) [] q33_L14_g q33_L14_o q33_L14_b x = q33_L14_s lo x := fun x => by kernel_rfl
def q33_L14 (lo : Lo) : ByteArray × ByteArray × Int × (List ((List Int))) → Option ((ByteArray × ByteArray × (List ((List Int))))) := lo.run (q33_L14_s lo)
def q33_L14_p (lo : Lo) : LpE := ⟨14, [], q33_L14_g, q33_L14_o, q33_L14 lo⟩
theorem q33_L14_k {lo : Lo} (hlo : LoOK lo) (C : Ctx) (hT : TOK (⟨pf, fs33 lo, [q33_L16_p lo, q33_L27_p lo], 0⟩ : Tabs) C) : LpSound (fun _ => False) [] 0 C (.loop q33_L14_b.er) (q33_L14_p lo) :=
  loop_sound (T := (⟨pf, fs33 lo, [q33_L16_p lo, q33_L27_p lo], 0⟩ : Tabs)) hT frNo (show LsOK (fun _ => False) [] C (⟨pf, fs33 lo, [q33_L16_p lo, q33_L27_p lo], 0⟩ : Tabs) q33_L14_b from ⟨⟨trivial, ⟨trivial, trivial⟩⟩, ⟨⟨trivial, (lsGet (by kernel_rfl) (q33_L16_k hlo C (tok_ls hT)))⟩, trivial⟩⟩) (fun x y h => loopO_congr (q33_L14_e lo) (hlo _ _ _ h))
def q33_L3_b : VCode :=
 (.seq (.seq (.reg [o 94 (.mv (t 11)), o 95 (.mv (t 0)), o 96 (.lenS (t 95)), o 97 (.bin .lss (t 94) (t 96)), o 98 (.mv (t 97)), og 99 98 true (.mv (t 12)), og 100 98 true (.mv (t 1)), og 101 98 true (.lenS (t 100)), og 102 98 true (.bin .lss (t 99) (t 101)), o 103 (.pick (t 98) (t 102) (kb false))])
 (.cond (t 103) .skip
 (.exit 6)))
 (.blk 7 (.blk 8 (.seq (.reg [o 107 (.mv (t 0)), o 108 (.mv (t 11)), o 109 (.idx (t 107) (t 108)), o 110 (.mv (t 1)), o 111 (.mv (t 12)), o 112 (.idx (t 110) (t 111)), o 113 (.bin .eql (t 109) (t 112)), o 106 (.mv (t 113))])
 (.cond (t 106) (.seq (.reg [o 114 (.mv (t 0)), o 115 (.mv (t 11)), o 116 (.idx (t 114) (t 115)), o 117 (.call 592 [(t 10), (t 116)])])
 (.reg [o 118 (.mv (t 11)), o 119 (.bin .add (t 118) (k 1)), o 120 (.mv (t 12)), o 121 (.bin .add (t 120) (k 1)), o 11 (.mv (t 119)), o 12 (.mv (t 121))]))
 (.seq (.reg [o 123 (.mv (t 6)), o 124 (.mv (t 11)), o 125 (.bin .add (t 124) (k 1)), o 126 (.iad 1 (t 123) (t 125)), o 127 (.load false 1 (t 126)), o 128 (.mv (t 12)), o 129 (.iad 1 (t 127) (t 128)), o 130 (.load false 1 (t 129)), o 131 (.mv (t 6)), o 132 (.mv (t 11)), o 133 (.iad 1 (t 131) (t 132)), o 134 (.load false 1 (t 133)), o 135 (.mv (t 12)), o 136 (.bin .add (t 135) (k 1)), o 137 (.iad 1 (t 134) (t 136)), o 138 (.load false 1 (t 137)), o 139 (.bin .geq (t 130) (t 138)), o 122 (.mv (t 139))])
 (.cond (t 122) (.reg [o 140 (.mv (t 11)), o 141 (.bin .add (t 140) (k 1)), o 11 (.mv (t 141))])
 (.reg [o 104 (.mv (t 12)), o 105 (.bin .add (t 104) (k 1)), o 12 (.mv (t 105))]))))))))
def q33_L3_g : Sg := ⟨[0, 1, 6, 10, 11, 12], [.s, .s, .ref 0, .ptr 1 0 0, .i .i64, .i .i64], [.fm (cs [I]), .st [.np 1, .ref 2], .sb], (cs [.s, .s, I, I, .l (cs [.l (cs [I])]), .s])⟩
def q33_L3_o : List Out1 := [⟨.exit 6, ⟨[10], [.ptr 0 0 0], [.st [.np 0, .ref 1], .sb], (cs [.s])⟩⟩]
def q33_L3_s (lo : Lo) : ByteArray × ByteArray × Int × Int × (List ((List Int))) × ByteArray → Option ((ByteArray × ByteArray × Int × Int × (List ((List Int))) × ByteArray) ⊕ ByteArray) := fun x => match x with
  | (a0, b1, i11, j12, n6, h2) => bif (decide (i11 < (a0.size : Int))) then (bif (decide (j12 < (b1.size : Int))) then (chk (0 ≤ i11 ∧ i11 < (a0.size : Int)) (chk (0 ≤ j12 ∧ j12 < (b1.size : Int)) (bif (decide ((byteI a0 i11) = (byteI b1 j12))) then (chk (0 ≤ i11 ∧ i11 < (a0.size : Int)) (Option.bind (q31 lo (byteI a0 i11) h2) fun y94 => some (.inl (a0, b1, (IntKind.wrap .i64 (i11 + (1 : Int))), (IntKind.wrap .i64 (j12 + (1 : Int))), n6, y94)))) else (chk (0 ≤ (IntKind.wrap .i64 (i11 + (1 : Int))) ∧ (IntKind.wrap .i64 (i11 + (1 : Int))) < (n6.length : Int)) (chk (0 ≤ j12 ∧ j12 < (((n6.getD ((IntKind.wrap .i64 (i11 + (1 : Int))).toNat) []).length : Nat) : Int)) (chk (0 ≤ i11 ∧ i11 < (n6.length : Int)) (chk (0 ≤ (IntKind.wrap .i64 (j12 + (1 : Int))) ∧ (IntKind.wrap .i64 (j12 + (1 : Int))) < (((n6.getD i11.toNat []).length : Nat) : Int)) (bif (decide ((n6.getD i11.toNat []).getD ((IntKind.wrap .i64 (j12 + (1 : Int))).toNat) (0 : Int) ≤ (n6.getD ((IntKind.wrap .i64 (i11 + (1 : Int))).toNat) []).getD j12.toNat (0 : Int))) then (some (.inl (a0, b1, (IntKind.wrap .i64 (i11 + (1 : Int))), j12, n6, h2))) else (some (.inl (a0, b1, i11, (IntKind.wrap .i64 (j12 + (1 : Int))), n6, h2))))))))))) else (some (.inr h2))) else (some (.inr h2))
theorem q33_L3_e (lo : Lo) : ∀ x : ByteArray × ByteArray × Int × Int × (List ((List Int))) × ByteArray, stepL (⟨pf, fs33 lo, [q33_L14_p lo, q33_L16_p lo, q33_L27_p lo], 0⟩ : Tabs) [] q33_L3_g q33_L3_o q33_L3_b x = q33_L3_s lo x := fun x => by kernel_rfl
def q33_L3 (lo : Lo) : ByteArray × ByteArray × Int × Int × (List ((List Int))) × ByteArray → Option ByteArray := lo.run (q33_L3_s lo)
def q33_L3_p (lo : Lo) : LpE := ⟨3, [], q33_L3_g, q33_L3_o, q33_L3 lo⟩
theorem q33_L3_k {lo : Lo} (hlo : LoOK lo) (C : Ctx) (hT : TOK (⟨pf, fs33 lo, [q33_L14_p lo, q33_L16_p lo, q33_L27_p lo], 0⟩ : Tabs) C) : LpSound (fun _ => False) [] 0 C (.loop q33_L3_b.er) (q33_L3_p lo) :=
  loop_sound (T := (⟨pf, fs33 lo, [q33_L14_p lo, q33_L16_p lo, q33_L27_p lo], 0⟩ : Tabs)) hT frNo (show LsOK (fun _ => False) [] C (⟨pf, fs33 lo, [q33_L14_p lo, q33_L16_p lo, q33_L27_p lo], 0⟩ : Tabs) q33_L3_b from ⟨⟨trivial, ⟨trivial, trivial⟩⟩, ⟨trivial, ⟨⟨trivial, trivial⟩, ⟨trivial, ⟨trivial, trivial⟩⟩⟩⟩⟩) (fun x y h => loopO_congr (q33_L3_e lo) (hlo _ _ _ h))
def q33 (lo : Lo) (a0 : ByteArray) (b1 : ByteArray) : Option (ByteArray × Int) :=
  Option.bind (q3 lo ([a0, b1])) fun y89 => bif y89 then (some ((ByteArray.mk #[]), (3 : Int))) else (chk (0 ≤ (IntKind.wrap .i64 ((a0.size : Int) + (1 : Int))) ∧ (IntKind.wrap .i64 ((a0.size : Int) + (1 : Int))) ≤ (IntKind.wrap .i64 ((a0.size : Int) + (1 : Int))) ∧ (IntKind.wrap .i64 ((a0.size : Int) + (1 : Int))) ≤ (maxEl : Nat)) (Option.bind (q33_L27 lo (a0, b1, ((List.replicate (IntKind.wrap .i64 ((a0.size : Int) + (1 : Int))).toNat ([] : List Int)).length : Int), (0 : Int), (List.replicate (IntKind.wrap .i64 ((a0.size : Int) + (1 : Int))).toNat ([] : List Int)))) fun y90 => Option.bind (q33_L14 lo (y90.1, y90.2.1, (IntKind.wrap .i64 ((y90.1.size : Int) - (1 : Int))), y90.2.2)) fun y92 => Option.bind (q33_L3 lo (y92.1, y92.2.1, (0 : Int), (0 : Int), y92.2.2, (ByteArray.mk #[]))) fun y95 => Option.bind (q32 lo y95) fun y96 => some (y96, (0 : Int))))
def q33_c : VCode :=
 (.seq (.reg [o 4 (.mv (ks (⟨#[]⟩))), o 5 (.mv (k 0))])
 (.seq (.seq (.reg [o 13 (.mv (t 0)), o 14 (.mv (t 1)), o 15 (.bsl (cs [.s]) 2 [(0, (t 13)), (1, (t 14))]), o 16 (.call 590 [(t 15)])])
 (.cond (t 16) (.seq (.reg [o 4 (.mv (ks (⟨#[]⟩))), o 5 (.mv (k 3))])
 (.fz [4, 5] .ret))
 .skip))
 (.seq (.reg [o 17 (.mv (t 0)), o 18 (.lenS (t 17)), o 19 (.bin .add (t 18) (k 1)), o 20 (.mksl (cs [.l (cs [I])]) 2 (t 19) (t 19)), o 6 (.mv (t 20))])
 (.seq (.seq (.reg [o 21 (.mv (t 6)), o 22 (.len (t 21)), o 23 (.mv (k 0))])
 (.blk 0 (.loop 27 q33_L27_b)))
 (.seq (.seq (.reg [o 34 (.mv (t 0)), o 35 (.lenS (t 34)), o 36 (.bin .sub (t 35) (k 1)), o 8 (.mv (t 36))])
 (.blk 2 (.loop 14 q33_L14_b)))
 (.seq (.reg [o 10 (.bld)])
 (.ow [(10, some 1, false)] (.seq (.seq (.reg [o 11 (.mv (k 0)), o 12 (.mv (k 0))])
 (.blk 6 (.loop 3 q33_L3_b)))
 (.seq (.reg [o 142 (.call 151 [(t 10)]), o 4 (.mv (t 142)), o 5 (.mv (k 0))])
 (.fz [4, 5] .ret))))))))))
def q33_F : VFn := ⟨true, 143, [.t 4, .t 5], q33_c⟩
def q33_f (lo : Lo) : FnE := ⟨581, true, ⟨[0, 1], [.s, .s], [], (cs [.s, .s])⟩, .tp [.s, .i .i64], [], (cs [.s, I]), (fun x => q33 lo x.1 x.2 : ByteArray × ByteArray → Option (ByteArray × Int))⟩
theorem q33_e (lo : Lo) : ∀ x : ByteArray × ByteArray, evP (⟨pf, fs33 lo, [q33_L3_p lo, q33_L14_p lo, q33_L16_p lo, q33_L27_p lo], 0⟩ : Tabs) q33_F ⟨[0, 1], [.s, .s], [], (cs [.s, .s])⟩ (.tp [.s, .i .i64]) (cs [.s, I]) x = q33 lo x.1 x.2 := fun x => by kernel_rfl
theorem q33_S {P : Program} {fm : FM} {lo : Lo} (hlo : LoOK lo) (hS : Sound P fm ⟨pf, fs33 lo, [], 0⟩) (hm : P.follows .mixedOrders = true) (htie : ∀ f, fm f = 581 → fnTr P fm pf f = some (q33_F.slots, q33_F.res, q33_F.code.er)) : Sound P fm ⟨pf, q33_f lo :: fs33 lo, [], 0⟩ :=
  fn_sound hS hm [q33_L3_p lo, q33_L14_p lo, q33_L16_p lo, q33_L27_p lo] (q33_f lo) rfl q33_F htie (by decide) rfl (Nat.le_of_ble_eq_true (by kernel_rfl)) (fun C hT => show LsOK (fun _ => False) [] C (⟨pf, fs33 lo, [q33_L3_p lo, q33_L14_p lo, q33_L16_p lo, q33_L27_p lo], 0⟩ : Tabs) q33_c from ⟨trivial, ⟨⟨trivial, ⟨⟨trivial, trivial⟩, trivial⟩⟩, ⟨trivial, ⟨⟨trivial, (lsGet (by kernel_rfl) (q33_L27_k hlo C (tok_ls hT)))⟩, ⟨⟨trivial, (lsGet (by kernel_rfl) (q33_L14_k hlo C (tok_ls hT)))⟩, ⟨trivial, ⟨⟨trivial, (lsGet (by kernel_rfl) (q33_L3_k hlo C (tok_ls hT)))⟩, ⟨trivial, trivial⟩⟩⟩⟩⟩⟩⟩⟩) (fun x y h => (q33_e lo x).trans h)
def fs34 (lo : Lo) : List FnE := q33_f lo :: fs33 lo
def q34 (lo : Lo) (s1 : ByteArray) (h1 : ByteArray) : Option (Int × ByteArray) :=
  Option.bind (q30 lo h1) fun y99 => chk (y99.size = h1.size) (chk (y99.size + s1.size ≤ maxEl) (some ((s1.size : Int), (y99 ++ s1))))
def q34_c : VCode :=
 (.seq (.reg [o 4 (.mv (k 0)), o 5 (.mv (.c (.v .nilIface)))])
 (.seq (.reg [o 6 (.mv (t 0)), o 7 (.call 164 [(t 6)])])
 (.seq (.reg [o 8 (.mv (t 0)), o 9 (.mv (t 0)), o 10 (.nilc (t 9)), o 11 (.fad 1 (t 10)), o 12 (.load false 1 (t 11)), o 13 (.mv (t 1)), o 14 (.apps (t 12) (t 13)), o 15 (.nilc (t 8)), o 16 (.fad 1 (t 15)), on (.store 1 (t 16) (t 14))])
 (.seq (.reg [o 17 (.mv (t 1)), o 18 (.lenS (t 17)), o 4 (.mv (t 18)), o 5 (.mv (.c (.v .nilIface)))])
 .ret))))
def q34_F : VFn := ⟨true, 19, [.t 4, .t 5], q34_c⟩
def q34_f (lo : Lo) : FnE := ⟨149, false, ⟨[0, 1], [.ptr 0 0 0, .s], [.st [.np 0, .ref 1], .sb], (cs [.s, .s])⟩, .tp [.i .i64, .u], [.st [.np 0, .ref 2], .dd, .sb], (cs [I, .s]), (fun x => q34 lo x.1 x.2 : ByteArray × ByteArray → Option (Int × ByteArray))⟩
theorem q34_e (lo : Lo) : ∀ x : ByteArray × ByteArray, evI (⟨pf, fs34 lo, [], 2⟩ : Tabs) q34_F ⟨[0, 1], [.ptr 0 0 0, .s], [.st [.np 0, .ref 1], .sb], (cs [.s, .s])⟩ (.tp [.i .i64, .u]) [.st [.np 0, .ref 2], .dd, .sb] (cs [I, .s]) x = q34 lo x.1 x.2 := fun x => by kernel_rfl
theorem q34_S {P : Program} {fm : FM} {lo : Lo} (hlo : LoOK lo) (hS : Sound P fm ⟨pf, fs34 lo, [], 0⟩) (hm : P.follows .mixedOrders = true) (htie : ∀ f, fm f = 149 → fnTr P fm pf f = some (q34_F.slots, q34_F.res, q34_F.code.er)) : Sound P fm ⟨pf, q34_f lo :: fs34 lo, [], 0⟩ :=
  fnI_sound hS hm [] (q34_f lo) rfl q34_F htie (by decide) rfl (Nat.le_of_ble_eq_true (by kernel_rfl)) (fun C hT Fr H0 hf => show LsOK Fr H0 C (⟨pf, fs34 lo, [], 2⟩ : Tabs) q34_c from ⟨trivial, ⟨trivial, ⟨trivial, ⟨trivial, trivial⟩⟩⟩⟩) (fun x y h => (q34_e lo x).trans h)
def fs35 (lo : Lo) : List FnE := q34_f lo :: fs34 lo
def q35_L3_b : VCode :=
 (.seq (.reg [o 21 (.bin .lss (t 20) (t 19))])
 (.seq (.cond (t 21) .skip
 (.exit 0))
 (.seq (.blk 1 (.seq (.reg [o 22 (.iad 3 (t 18) (t 20)), o 23 (.load true 3 (t 22)), o 9 (.alloc [.i .i64 0, .i .i64 0, .i .i64 0]), on (.store 3 (t 9) (t 23))])
 (.seq (.seq (.reg [o 24 (.fad 0 (t 9)), o 25 (.load false 1 (t 24)), o 26 (.mv (t 7)), o 27 (.bin .lss (t 25) (t 26)), o 28 (.mv (t 27)), og 29 28 false (.fad 0 (t 9)), og 30 28 false (.load false 1 (t 29)), og 31 28 false (.mv (t 0)), og 32 28 false (.lenS (t 31)), og 33 28 false (.bin .gtr (t 30) (t 32)), o 34 (.pick (t 28) (kb true) (t 33)), o 35 (.mv (t 34)), og 36 35 false (.fad 2 (t 9)), og 37 35 false (.load false 1 (t 36)), og 38 35 false (.bin .lss (t 37) (k (-1))), o 39 (.pick (t 35) (kb true) (t 38)), o 40 (.mv (t 39)), og 41 40 false (.fad 2 (t 9)), og 42 40 false (.load false 1 (t 41)), og 43 40 false (.bin .gtr (t 42) (k 255)), o 44 (.pick (t 40) (kb true) (t 43))])
 (.cond (t 44) (.seq (.reg [o 4 (.mv (ks (⟨#[]⟩))), o 5 (.mv (k 1))])
 (.fz [4, 5] .ret))
 .skip))
 (.seq (.reg [o 45 (.mv (t 0)), o 46 (.mv (t 7)), o 47 (.fad 0 (t 9)), o 48 (.load false 1 (t 47)), o 49 (.slcS (t 45) (some (t 46)) (some (t 48))), o 50 (.call 149 [(t 6), (t 49)])])
 (.seq (.reg [o 51 (.fad 0 (t 9)), o 52 (.load false 1 (t 51)), o 7 (.mv (t 52))])
 (.seq (.blk 2 (.seq (.reg [o 54 (.fad 1 (t 9)), o 55 (.load false 1 (t 54)), o 56 (.bin .eql (t 55) (k (-1))), o 57 (.mv (t 56)), og 58 57 true (.fad 2 (t 9)), og 59 57 true (.load false 1 (t 58)), og 60 57 true (.bin .eql (t 59) (k (-1))), o 61 (.pick (t 57) (t 60) (kb false)), o 53 (.mv (t 61))])
 (.cond (t 53) (.seq (.reg [o 4 (.mv (ks (⟨#[]⟩))), o 5 (.mv (k 1))])
 (.fz [4, 5] .ret))
 (.seq (.reg [o 63 (.fad 1 (t 9)), o 64 (.load false 1 (t 63)), o 65 (.bin .geq (t 64) (k 0)), o 62 (.mv (t 65))])
 (.cond (t 62) (.seq (.seq (.reg [o 66 (.mv (t 7)), o 67 (.mv (t 0)), o 68 (.lenS (t 67)), o 69 (.bin .eql (t 66) (t 68)), o 70 (.mv (t 69)), og 71 70 false (.mv (t 0)), og 72 70 false (.mv (t 7)), og 73 70 false (.idx (t 71) (t 72)), og 74 70 false (.conv .i64 (t 73)), og 75 70 false (.fad 1 (t 9)), og 76 70 false (.load false 1 (t 75)), og 77 70 false (.bin .neq (t 74) (t 76)), o 78 (.pick (t 70) (kb true) (t 77))])
 (.cond (t 78) (.seq (.reg [o 4 (.mv (ks (⟨#[]⟩))), o 5 (.mv (k 1))])
 (.fz [4, 5] .ret))
 .skip))
 (.reg [o 79 (.mv (t 7)), o 80 (.bin .add (t 79) (k 1)), o 7 (.mv (t 80))]))
 (.seq (.reg [o 82 (.fad 1 (t 9)), o 83 (.load false 1 (t 82)), o 84 (.bin .lss (t 83) (k (-1))), o 81 (.mv (t 84))])
 (.cond (t 81) (.seq (.reg [o 4 (.mv (ks (⟨#[]⟩))), o 5 (.mv (k 1))])
 (.fz [4, 5] .ret))
 .skip)))))))
 (.seq (.reg [o 85 (.fad 2 (t 9)), o 86 (.load false 1 (t 85)), o 87 (.bin .geq (t 86) (k 0))])
 (.cond (t 87) (.reg [o 88 (.fad 2 (t 9)), o 89 (.load false 1 (t 88)), o 90 (.conv .u8 (t 89)), o 91 (.call 592 [(t 6), (t 90)])])
 .skip))))))))
 (.reg [o 92 (.bin .add (t 20) (k 1)), o 20 (.mv (t 92))]))))
def q35_L3_g : Sg := ⟨[0, 6, 7, 18, 19, 20], [.s, .ptr 0 0 0, .i .i64, .l (cs [I, I, I]), .i .i64, .i .i64], [.st [.np 0, .ref 1], .sb], (cs [.s, I, .l (cs [I, I, I]), I, I, .s])⟩
def q35_L3_o : List Out1 := [⟨.ret, ⟨[4, 5], [.s, .i .i64], [], (cs [.s, I])⟩⟩, ⟨.exit 0, ⟨[0, 6, 7], [.s, .ptr 0 0 0, .i .i64], [.st [.np 0, .ref 1], .sb], (cs [.s, I, .s])⟩⟩]
def q35_L3_s (lo : Lo) : ByteArray × Int × (List (Int × Int × Int)) × Int × Int × ByteArray → Option ((ByteArray × Int × (List (Int × Int × Int)) × Int × Int × ByteArray) ⊕ ((ByteArray × Int) ⊕ (ByteArray × Int × ByteArray))) := fun x => match x with
  | (a0, at7, v18, v19, v20, h1) => bif (decide (v20 < v19)) then (chk (0 ≤ v20 ∧ v20 < (v18.length : Int)) (bif (decide ((v18.getD v20.toNat ((0 : Int), (0 : Int), (0 : Int))).1 < at7)) then (some (.inr (.inl ((ByteArray.mk #[]), (1 : Int))))) else (bif (decide ((a0.size : Int) < (v18.getD v20.toNat ((0 : Int), (0 : Int), (0 : Int))).1)) then (some (.inr (.inl ((ByteArray.mk #[]), (1 : Int))))) else (bif (decide ((v18.getD v20.toNat ((0 : Int), (0 : Int), (0 : Int))).2.2 < (-1 : Int))) then (some (.inr (.inl ((ByteArray.mk #[]), (1 : Int))))) else (bif (decide ((255 : Int) < (v18.getD v20.toNat ((0 : Int), (0 : Int), (0 : Int))).2.2)) then (some (.inr (.inl ((ByteArray.mk #[]), (1 : Int))))) else (chk (0 ≤ at7 ∧ at7 ≤ (v18.getD v20.toNat ((0 : Int), (0 : Int), (0 : Int))).1 ∧ (v18.getD v20.toNat ((0 : Int), (0 : Int), (0 : Int))).1 ≤ (a0.size : Int)) (Option.bind (q34 lo (a0.extract at7.toNat ((v18.getD v20.toNat ((0 : Int), (0 : Int), (0 : Int))).1).toNat) h1) fun y100 => bif (decide ((v18.getD v20.toNat ((0 : Int), (0 : Int), (0 : Int))).2.1 = (-1 : Int))) then (bif (decide ((v18.getD v20.toNat ((0 : Int), (0 : Int), (0 : Int))).2.2 = (-1 : Int))) then (some (.inr (.inl ((ByteArray.mk #[]), (1 : Int))))) else (bif (decide ((0 : Int) ≤ (v18.getD v20.toNat ((0 : Int), (0 : Int), (0 : Int))).2.1)) then (bif (decide ((v18.getD v20.toNat ((0 : Int), (0 : Int), (0 : Int))).1 = (a0.size : Int))) then (some (.inr (.inl ((ByteArray.mk #[]), (1 : Int))))) else (chk (0 ≤ (v18.getD v20.toNat ((0 : Int), (0 : Int), (0 : Int))).1 ∧ (v18.getD v20.toNat ((0 : Int), (0 : Int), (0 : Int))).1 < (a0.size : Int)) (bif (!decide ((IntKind.wrap .i64 (byteI a0 ((v18.getD v20.toNat ((0 : Int), (0 : Int), (0 : Int))).1))) = (v18.getD v20.toNat ((0 : Int), (0 : Int), (0 : Int))).2.1)) then (some (.inr (.inl ((ByteArray.mk #[]), (1 : Int))))) else (bif (decide ((0 : Int) ≤ (v18.getD v20.toNat ((0 : Int), (0 : Int), (0 : Int))).2.2)) then (Option.bind (q31 lo (IntKind.wrap .u8 ((v18.getD v20.toNat ((0 : Int), (0 : Int), (0 : Int))).2.2)) y100.2) fun y101 => some (.inl (a0, (IntKind.wrap .i64 (((v18.getD v20.toNat ((0 : Int), (0 : Int), (0 : Int))).1) + (1 : Int))), v18, v19, (IntKind.wrap .i64 (v20 + (1 : Int))), y101))) else (some (.inl (a0, (IntKind.wrap .i64 (((v18.getD v20.toNat ((0 : Int), (0 : Int), (0 : Int))).1) + (1 : Int))), v18, v19, (IntKind.wrap .i64 (v20 + (1 : Int))), y100.2))))))) else (bif (decide ((v18.getD v20.toNat ((0 : Int), (0 : Int), (0 : Int))).2.1 < (-1 : Int))) then (some (.inr (.inl ((ByteArray.mk #[]), (1 : Int))))) else (bif (decide ((0 : Int) ≤ (v18.getD v20.toNat ((0 : Int), (0 : Int), (0 : Int))).2.2)) then (Option.bind (q31 lo (IntKind.wrap .u8 ((v18.getD v20.toNat ((0 : Int), (0 : Int), (0 : Int))).2.2)) y100.2) fun y102 => some (.inl (a0, (v18.getD v20.toNat ((0 : Int), (0 : Int), (0 : Int))).1, v18, v19, (IntKind.wrap .i64 (v20 + (1 : Int))), y102))) else (some (.inl (a0, (v18.getD v20.toNat ((0 : Int), (0 : Int), (0 : Int))).1, v18, v19, (IntKind.wrap .i64 (v20 + (1 : Int))), y100.2))))))) else (bif (decide ((0 : Int) ≤ (v18.getD v20.toNat ((0 : Int), (0 : Int), (0 : Int))).2.1)) then (bif (decide ((v18.getD v20.toNat ((0 : Int), (0 : Int), (0 : Int))).1 = (a0.size : Int))) then (some (.inr (.inl ((ByteArray.mk #[]), (1 : Int))))) else (chk (0 ≤ (v18.getD v20.toNat ((0 : Int), (0 : Int), (0 : Int))).1 ∧ (v18.getD v20.toNat ((0 : Int), (0 : Int), (0 : Int))).1 < (a0.size : Int)) (bif (!decide ((IntKind.wrap .i64 (byteI a0 ((v18.getD v20.toNat ((0 : Int), (0 : Int), (0 : Int))).1))) = (v18.getD v20.toNat ((0 : Int), (0 : Int), (0 : Int))).2.1)) then (some (.inr (.inl ((ByteArray.mk #[]), (1 : Int))))) else (bif (decide ((0 : Int) ≤ (v18.getD v20.toNat ((0 : Int), (0 : Int), (0 : Int))).2.2)) then (Option.bind (q31 lo (IntKind.wrap .u8 ((v18.getD v20.toNat ((0 : Int), (0 : Int), (0 : Int))).2.2)) y100.2) fun y103 => some (.inl (a0, (IntKind.wrap .i64 (((v18.getD v20.toNat ((0 : Int), (0 : Int), (0 : Int))).1) + (1 : Int))), v18, v19, (IntKind.wrap .i64 (v20 + (1 : Int))), y103))) else (some (.inl (a0, (IntKind.wrap .i64 (((v18.getD v20.toNat ((0 : Int), (0 : Int), (0 : Int))).1) + (1 : Int))), v18, v19, (IntKind.wrap .i64 (v20 + (1 : Int))), y100.2))))))) else (bif (decide ((v18.getD v20.toNat ((0 : Int), (0 : Int), (0 : Int))).2.1 < (-1 : Int))) then (some (.inr (.inl ((ByteArray.mk #[]), (1 : Int))))) else (bif (decide ((0 : Int) ≤ (v18.getD v20.toNat ((0 : Int), (0 : Int), (0 : Int))).2.2)) then (Option.bind (q31 lo (IntKind.wrap .u8 ((v18.getD v20.toNat ((0 : Int), (0 : Int), (0 : Int))).2.2)) y100.2) fun y104 => some (.inl (a0, (v18.getD v20.toNat ((0 : Int), (0 : Int), (0 : Int))).1, v18, v19, (IntKind.wrap .i64 (v20 + (1 : Int))), y104))) else (some (.inl (a0, (v18.getD v20.toNat ((0 : Int), (0 : Int), (0 : Int))).1, v18, v19, (IntKind.wrap .i64 (v20 + (1 : Int))), y100.2))))))))))))) else (some (.inr (.inr (a0, at7, h1))))
theorem q35_L3_e (lo : Lo) : ∀ x : ByteArray × Int × (List (Int × Int × Int)) × Int × Int × ByteArray, stepL (⟨pf, fs35 lo, [], 0⟩ : Tabs) [] q35_L3_g q35_L3_o q35_L3_b x = q35_L3_s lo x := fun x => by kernel_rfl
def q35_L3 (lo : Lo) : ByteArray × Int × (List (Int × Int × Int)) × Int × Int × ByteArray → Option ((ByteArray × Int) ⊕ (ByteArray × Int × ByteArray)) := lo.run (q35_L3_s lo)
def q35_L3_p (lo : Lo) : LpE := ⟨3, [], q35_L3_g, q35_L3_o, q35_L3 lo⟩
theorem q35_L3_k {lo : Lo} (hlo : LoOK lo) (C : Ctx) (hT : TOK (⟨pf, fs35 lo, [], 0⟩ : Tabs) C) : LpSound (fun _ => False) [] 0 C (.loop q35_L3_b.er) (q35_L3_p lo) :=
  loop_sound (T := (⟨pf, fs35 lo, [], 0⟩ : Tabs)) hT frNo (show LsOK (fun _ => False) [] C (⟨pf, fs35 lo, [], 0⟩ : Tabs) q35_L3_b from ⟨trivial, ⟨⟨trivial, trivial⟩, ⟨⟨trivial, ⟨⟨trivial, ⟨⟨trivial, trivial⟩, trivial⟩⟩, ⟨trivial, ⟨trivial, ⟨⟨trivial, ⟨⟨trivial, trivial⟩, ⟨trivial, ⟨⟨⟨trivial, ⟨⟨trivial, trivial⟩, trivial⟩⟩, trivial⟩, ⟨trivial, ⟨⟨trivial, trivial⟩, trivial⟩⟩⟩⟩⟩⟩, ⟨trivial, ⟨trivial, trivial⟩⟩⟩⟩⟩⟩⟩, trivial⟩⟩⟩) (fun x y h => loopO_congr (q35_L3_e lo) (hlo _ _ _ h))
def q35 (lo : Lo) (a0 : ByteArray) (l1 : List (Int × Int × Int)) : Option (ByteArray × Int) :=
  Option.bind (q3 lo [a0]) fun y98 => bif y98 then (some ((ByteArray.mk #[]), (3 : Int))) else (bif (decide ((400 : Int) < (l1.length : Int))) then (some ((ByteArray.mk #[]), (3 : Int))) else (Option.bind (q35_L3 lo (a0, (0 : Int), l1, (l1.length : Int), (0 : Int), (ByteArray.mk #[]))) fun y105 => alt2 y105 (fun y106 => some (y106.1, y106.2)) (fun y107 => Option.bind (q32 lo y107.2.2) fun y108 => chk (0 ≤ y107.2.1 ∧ y107.2.1 ≤ (y107.1.size : Int) ∧ (y107.1.size : Int) ≤ (y107.1.size : Int)) (chk (Nat.ble (y108.size + (y107.1.extract y107.2.1.toNat (y107.1.size : Int).toNat).size) 9223372036854775807 = true) (some ((y108 ++ (y107.1.extract y107.2.1.toNat (y107.1.size : Int).toNat)), (0 : Int)))))))
def q35_c : VCode :=
 (.seq (.reg [o 4 (.mv (ks (⟨#[]⟩))), o 5 (.mv (k 0))])
 (.seq (.seq (.reg [o 10 (.mv (t 0)), o 11 (.bsl (cs [.s]) 1 [(0, (t 10))]), o 12 (.call 590 [(t 11)]), o 13 (.mv (t 12)), og 14 13 false (.mv (t 1)), og 15 13 false (.len (t 14)), og 16 13 false (.bin .gtr (t 15) (k 400)), o 17 (.pick (t 13) (kb true) (t 16))])
 (.cond (t 17) (.seq (.reg [o 4 (.mv (ks (⟨#[]⟩))), o 5 (.mv (k 3))])
 (.fz [4, 5] .ret))
 .skip))
 (.seq (.reg [o 6 (.bld)])
 (.ow [(6, some 1, false)] (.seq (.reg [o 7 (.mv (k 0))])
 (.seq (.seq (.reg [o 18 (.mv (t 1)), o 19 (.len (t 18)), o 20 (.mv (k 0))])
 (.blk 0 (.loop 3 q35_L3_b)))
 (.seq (.reg [o 93 (.call 151 [(t 6)]), o 94 (.mv (t 0)), o 95 (.mv (t 7)), o 96 (.slcS (t 94) (some (t 95)) none), o 97 (.bin .add (t 93) (t 96)), o 4 (.mv (t 97)), o 5 (.mv (k 0))])
 (.fz [4, 5] .ret))))))))
def q35_F : VFn := ⟨true, 98, [.t 4, .t 5], q35_c⟩
def q35_f (lo : Lo) : FnE := ⟨573, true, ⟨[0, 1], [.s, .l (cs [I, I, I])], [], (cs [.s, .l (cs [I, I, I])])⟩, .tp [.s, .i .i64], [], (cs [.s, I]), (fun x => q35 lo x.1 x.2 : ByteArray × (List (Int × Int × Int)) → Option (ByteArray × Int))⟩
theorem q35_e (lo : Lo) : ∀ x : ByteArray × (List (Int × Int × Int)), evP (⟨pf, fs35 lo, [q35_L3_p lo], 0⟩ : Tabs) q35_F ⟨[0, 1], [.s, .l (cs [I, I, I])], [], (cs [.s, .l (cs [I, I, I])])⟩ (.tp [.s, .i .i64]) (cs [.s, I]) x = q35 lo x.1 x.2 := fun x => by kernel_rfl
theorem q35_S {P : Program} {fm : FM} {lo : Lo} (hlo : LoOK lo) (hS : Sound P fm ⟨pf, fs35 lo, [], 0⟩) (hm : P.follows .mixedOrders = true) (htie : ∀ f, fm f = 573 → fnTr P fm pf f = some (q35_F.slots, q35_F.res, q35_F.code.er)) : Sound P fm ⟨pf, q35_f lo :: fs35 lo, [], 0⟩ :=
  fn_sound hS hm [q35_L3_p lo] (q35_f lo) rfl q35_F htie (by decide) rfl (Nat.le_of_ble_eq_true (by kernel_rfl)) (fun C hT => show LsOK (fun _ => False) [] C (⟨pf, fs35 lo, [q35_L3_p lo], 0⟩ : Tabs) q35_c from ⟨trivial, ⟨⟨trivial, ⟨⟨trivial, trivial⟩, trivial⟩⟩, ⟨trivial, ⟨trivial, ⟨⟨trivial, (lsGet (by kernel_rfl) (q35_L3_k hlo C (tok_ls hT)))⟩, ⟨trivial, trivial⟩⟩⟩⟩⟩⟩) (fun x y h => (q35_e lo x).trans h)
def fs36 (lo : Lo) : List FnE := q35_f lo :: fs35 lo
def q36_L3_b : VCode :=
 (.seq (.seq (.reg [o 11 (.mv (t 5)), o 12 (.mv (t 0)), o 13 (.len (t 12)), o 14 (.bin .lss (t 11) (t 13))])
 (.cond (t 14) .skip
 (.exit 0)))
 (.seq (.blk 1 (.seq (.reg [o 17 (.mv (t 0)), o 18 (.mv (t 5)), o 19 (.iad 1 (t 17) (t 18)), o 20 (.load false 1 (t 19)), o 21 (.mv (t 1)), o 22 (.mv (t 5)), o 23 (.iad 1 (t 21) (t 22)), o 24 (.load false 1 (t 23)), o 25 (.bin .neq (t 20) (t 24))])
 (.cond (t 25) (.seq (.reg [o 4 (.mv (kb false))])
 (.fz [4] .ret))
 .skip)))
 (.reg [o 15 (.mv (t 5)), o 16 (.bin .add (t 15) (k 1)), o 5 (.mv (t 16))])))
def q36_L3_g : Sg := ⟨[0, 1, 5], [.l (cs [.s]), .l (cs [.s]), .i .i64], [], (cs [.l (cs [.s]), .l (cs [.s]), I])⟩
def q36_L3_o : List Out1 := [⟨.ret, ⟨[4], [.b], [], (cs [.b])⟩⟩, ⟨.exit 0, ⟨[], [], [], (cs [])⟩⟩]
def q36_L3_s (lo : Lo) : (List ByteArray) × (List ByteArray) × Int → Option (((List ByteArray) × (List ByteArray) × Int) ⊕ (Bool ⊕ Unit)) := fun x => match x with
  | (a0, b1, i5) => bif (decide (i5 < (a0.length : Int))) then (chk (0 ≤ i5 ∧ i5 < (a0.length : Int)) (chk (0 ≤ i5 ∧ i5 < (b1.length : Int)) (bif (!decide ((a0.getD i5.toNat (ByteArray.mk #[])) = (b1.getD i5.toNat (ByteArray.mk #[])))) then (some (.inr (.inl false))) else (some (.inl (a0, b1, (IntKind.wrap .i64 (i5 + (1 : Int))))))))) else (some (.inr (.inr ())))
theorem q36_L3_e (lo : Lo) : ∀ x : (List ByteArray) × (List ByteArray) × Int, stepL (⟨pf, fs36 lo, [], 0⟩ : Tabs) [] q36_L3_g q36_L3_o q36_L3_b x = q36_L3_s lo x := fun x => by kernel_rfl
def q36_L3 (lo : Lo) : (List ByteArray) × (List ByteArray) × Int → Option (Bool ⊕ Unit) := lo.run (q36_L3_s lo)
def q36_L3_p (lo : Lo) : LpE := ⟨3, [], q36_L3_g, q36_L3_o, q36_L3 lo⟩
theorem q36_L3_k {lo : Lo} (hlo : LoOK lo) (C : Ctx) (hT : TOK (⟨pf, fs36 lo, [], 0⟩ : Tabs) C) : LpSound (fun _ => False) [] 0 C (.loop q36_L3_b.er) (q36_L3_p lo) :=
  loop_sound (T := (⟨pf, fs36 lo, [], 0⟩ : Tabs)) hT frNo (show LsOK (fun _ => False) [] C (⟨pf, fs36 lo, [], 0⟩ : Tabs) q36_L3_b from ⟨⟨trivial, ⟨trivial, trivial⟩⟩, ⟨⟨trivial, ⟨⟨trivial, trivial⟩, trivial⟩⟩, trivial⟩⟩) (fun x y h => loopO_congr (q36_L3_e lo) (hlo _ _ _ h))
def q36 (lo : Lo) (a0 : List ByteArray) (b1 : List ByteArray) : Option Bool :=
  bif (!decide ((a0.length : Int) = (b1.length : Int))) then (some false) else (Option.bind (q36_L3 lo (a0, b1, (0 : Int))) fun y110 => alt2 y110 (fun y111 => some y111) (fun y112 => some true))
def q36_c : VCode :=
 (.seq (.reg [o 4 (.mv (kb false))])
 (.seq (.seq (.reg [o 6 (.mv (t 0)), o 7 (.len (t 6)), o 8 (.mv (t 1)), o 9 (.len (t 8)), o 10 (.bin .neq (t 7) (t 9))])
 (.cond (t 10) (.seq (.reg [o 4 (.mv (kb false))])
 (.fz [4] .ret))
 .skip))
 (.seq (.seq (.reg [o 5 (.mv (k 0))])
 (.blk 0 (.loop 3 q36_L3_b)))
 (.seq (.reg [o 4 (.mv (kb true))])
 (.fz [4] .ret)))))
def q36_F : VFn := ⟨true, 26, [.t 4], q36_c⟩
def q36_f (lo : Lo) : FnE := ⟨579, true, ⟨[0, 1], [.l (cs [.s]), .l (cs [.s])], [], (cs [.l (cs [.s]), .l (cs [.s])])⟩, .b, [], (cs [.b]), (fun x => q36 lo x.1 x.2 : (List ByteArray) × (List ByteArray) → Option Bool)⟩
theorem q36_e (lo : Lo) : ∀ x : (List ByteArray) × (List ByteArray), evP (⟨pf, fs36 lo, [q36_L3_p lo], 0⟩ : Tabs) q36_F ⟨[0, 1], [.l (cs [.s]), .l (cs [.s])], [], (cs [.l (cs [.s]), .l (cs [.s])])⟩ (.b) (cs [.b]) x = q36 lo x.1 x.2 := fun x => by kernel_rfl
theorem q36_S {P : Program} {fm : FM} {lo : Lo} (hlo : LoOK lo) (hS : Sound P fm ⟨pf, fs36 lo, [], 0⟩) (hm : P.follows .mixedOrders = true) (htie : ∀ f, fm f = 579 → fnTr P fm pf f = some (q36_F.slots, q36_F.res, q36_F.code.er)) : Sound P fm ⟨pf, q36_f lo :: fs36 lo, [], 0⟩ :=
  fn_sound hS hm [q36_L3_p lo] (q36_f lo) rfl q36_F htie (by decide) rfl (Nat.le_of_ble_eq_true (by kernel_rfl)) (fun C hT => show LsOK (fun _ => False) [] C (⟨pf, fs36 lo, [q36_L3_p lo], 0⟩ : Tabs) q36_c from ⟨trivial, ⟨⟨trivial, ⟨⟨trivial, trivial⟩, trivial⟩⟩, ⟨⟨trivial, (lsGet (by kernel_rfl) (q36_L3_k hlo C (tok_ls hT)))⟩, ⟨trivial, trivial⟩⟩⟩⟩) (fun x y h => (q36_e lo x).trans h)
def fs37 (lo : Lo) : List FnE := q36_f lo :: fs36 lo
def q37 (lo : Lo) (n0 : Int) : Option (Int × Int) :=
  bif (decide (n0 < (0 : Int))) then (some ((0 : Int), (IntKind.wrap .u64 (0 - (IntKind.wrap .u64 n0))))) else (some ((0 : Int), (IntKind.wrap .u64 n0)))
def q37_c : VCode :=
 (.seq (.reg [o 2 (.alloc [.i .u64 0, .i .u64 0])])
 (.seq (.seq (.reg [o 3 (.mv (t 0)), o 4 (.bin .lss (t 3) (k 0))])
 (.cond (t 4) (.seq (.reg [o 5 (.mv (t 0)), o 6 (.conv .u64 (t 5)), o 7 (.neg (t 6)), o 8 (.build [.i .u64 0, .i .u64 0] [(1, 1, (t 7))]), on (.store 2 (t 2) (t 8))])
 (.fz [2] .ret))
 .skip))
 (.seq (.reg [o 9 (.mv (t 0)), o 10 (.conv .u64 (t 9)), o 11 (.build [.i .u64 0, .i .u64 0] [(1, 1, (t 10))]), on (.store 2 (t 2) (t 11))])
 (.fz [2] .ret))))
def q37_F : VFn := ⟨true, 12, [.c 2 true 2], q37_c⟩
def q37_f (lo : Lo) : FnE := ⟨612, true, ⟨[0], [.i .i64], [], (cs [I])⟩, .ag [.i .u64, .i .u64], [], (cs [.i .u64, .i .u64]), (fun x => q37 lo x : Int → Option (Int × Int))⟩
theorem q37_e (lo : Lo) : ∀ x : Int, evP (⟨pf, fs37 lo, [], 0⟩ : Tabs) q37_F ⟨[0], [.i .i64], [], (cs [I])⟩ (.ag [.i .u64, .i .u64]) (cs [.i .u64, .i .u64]) x = q37 lo x := fun x => by kernel_rfl
theorem q37_S {P : Program} {fm : FM} {lo : Lo} (hlo : LoOK lo) (hS : Sound P fm ⟨pf, fs37 lo, [], 0⟩) (hm : P.follows .mixedOrders = true) (htie : ∀ f, fm f = 612 → fnTr P fm pf f = some (q37_F.slots, q37_F.res, q37_F.code.er)) : Sound P fm ⟨pf, q37_f lo :: fs37 lo, [], 0⟩ :=
  fn_sound hS hm [] (q37_f lo) rfl q37_F htie (by decide) rfl (Nat.le_of_ble_eq_true (by kernel_rfl)) (fun C hT => show LsOK (fun _ => False) [] C (⟨pf, fs37 lo, [], 0⟩ : Tabs) q37_c from ⟨trivial, ⟨⟨trivial, ⟨⟨trivial, trivial⟩, trivial⟩⟩, ⟨trivial, trivial⟩⟩⟩) (fun x y h => (q37_e lo x).trans h)
def fs38 (lo : Lo) : List FnE := q37_f lo :: fs37 lo
def q38 (lo : Lo) (a0_0 : Int) (a0_1 : Int) : Option Bool :=
  bif (decide (a0_0 = (0 : Int))) then (some (decide (a0_1 = (0 : Int)))) else (some false)
def q38_c : VCode :=
 (.seq (.reg [o 1 (.box (t 0)), o 2 (.mv (kb false))])
 (.seq (.reg [o 3 (.fad 0 (t 1)), o 4 (.load false 1 (t 3)), o 5 (.bin .eql (t 4) (ki .u64 0)), o 6 (.mv (t 5)), og 7 6 true (.fad 1 (t 1)), og 8 6 true (.load false 1 (t 7)), og 9 6 true (.bin .eql (t 8) (ki .u64 0)), o 10 (.pick (t 6) (t 9) (kb false)), o 2 (.mv (t 10))])
 (.fz [2] .ret)))
def q38_F : VFn := ⟨true, 11, [.t 2], q38_c⟩
def q38_f (lo : Lo) : FnE := ⟨616, true, ⟨[0], [.ag [.i .u64, .i .u64]], [], (cs [.i .u64, .i .u64])⟩, .b, [], (cs [.b]), (fun x => q38 lo x.1 x.2 : Int × Int → Option Bool)⟩
theorem q38_e (lo : Lo) : ∀ x : Int × Int, evP (⟨pf, fs38 lo, [], 0⟩ : Tabs) q38_F ⟨[0], [.ag [.i .u64, .i .u64]], [], (cs [.i .u64, .i .u64])⟩ (.b) (cs [.b]) x = q38 lo x.1 x.2 := fun x => by kernel_rfl
theorem q38_S {P : Program} {fm : FM} {lo : Lo} (hlo : LoOK lo) (hS : Sound P fm ⟨pf, fs38 lo, [], 0⟩) (hm : P.follows .mixedOrders = true) (htie : ∀ f, fm f = 616 → fnTr P fm pf f = some (q38_F.slots, q38_F.res, q38_F.code.er)) : Sound P fm ⟨pf, q38_f lo :: fs38 lo, [], 0⟩ :=
  fn_sound hS hm [] (q38_f lo) rfl q38_F htie (by decide) rfl (Nat.le_of_ble_eq_true (by kernel_rfl)) (fun C hT => show LsOK (fun _ => False) [] C (⟨pf, fs38 lo, [], 0⟩ : Tabs) q38_c from ⟨trivial, ⟨trivial, trivial⟩⟩) (fun x y h => (q38_e lo x).trans h)
def fs39 (lo : Lo) : List FnE := q38_f lo :: fs38 lo
def q39 (lo : Lo) (a0_0 : Int) (a0_1 : Int) (b1_0 : Int) (b1_1 : Int) : Option (Int × Int) :=
  chk ((0 : Int).toNat ≤ 1) (chk (((add64F a0_1 b1_1 (0 : Int)).2).toNat ≤ 1) (some ((add64F a0_0 b1_0 ((add64F a0_1 b1_1 (0 : Int)).2)).1, (add64F a0_1 b1_1 (0 : Int)).1)))
def q39_c : VCode :=
 (.seq (.reg [o 2 (.box (t 0)), o 3 (.box (t 1)), o 4 (.alloc [.i .u64 0, .i .u64 0])])
 (.seq (.reg [o 10 (.fad 1 (t 2)), o 11 (.load false 1 (t 10)), o 12 (.fad 1 (t 3)), o 13 (.load false 1 (t 12)), o 14 (.add64 [(t 11), (t 13), (ki .u64 0)]), o 9 (.mv (t 14)), o 15 (.ext (t 9) 0), o 16 (.ext (t 9) 1), o 5 (.mv (t 15)), o 6 (.mv (t 16))])
 (.seq (.reg [o 18 (.fad 0 (t 2)), o 19 (.load false 1 (t 18)), o 20 (.fad 0 (t 3)), o 21 (.load false 1 (t 20)), o 22 (.mv (t 6)), o 23 (.add64 [(t 19), (t 21), (t 22)]), o 17 (.mv (t 23)), o 24 (.ext (t 17) 0), o 25 (.ext (t 17) 1), o 7 (.mv (t 24)), o 8 (.mv (t 25))])
 (.seq (.reg [o 26 (.mv (t 7)), o 27 (.mv (t 5)), o 28 (.build [.i .u64 0, .i .u64 0] [(0, 1, (t 26)), (1, 1, (t 27))]), on (.store 2 (t 4) (t 28))])
 (.fz [4] .ret)))))
def q39_F : VFn := ⟨true, 29, [.c 4 true 2], q39_c⟩
def q39_f (lo : Lo) : FnE := ⟨619, true, ⟨[0, 1], [.ag [.i .u64, .i .u64], .ag [.i .u64, .i .u64]], [], (cs [.i .u64, .i .u64, .i .u64, .i .u64])⟩, .ag [.i .u64, .i .u64], [], (cs [.i .u64, .i .u64]), (fun x => q39 lo x.1 x.2.1 x.2.2.1 x.2.2.2 : Int × Int × Int × Int → Option (Int × Int))⟩
theorem q39_e (lo : Lo) : ∀ x : Int × Int × Int × Int, evP (⟨pf, fs39 lo, [], 0⟩ : Tabs) q39_F ⟨[0, 1], [.ag [.i .u64, .i .u64], .ag [.i .u64, .i .u64]], [], (cs [.i .u64, .i .u64, .i .u64, .i .u64])⟩ (.ag [.i .u64, .i .u64]) (cs [.i .u64, .i .u64]) x = q39 lo x.1 x.2.1 x.2.2.1 x.2.2.2 := fun x => by kernel_rfl
theorem q39_S {P : Program} {fm : FM} {lo : Lo} (hlo : LoOK lo) (hS : Sound P fm ⟨pf, fs39 lo, [], 0⟩) (hm : P.follows .mixedOrders = true) (htie : ∀ f, fm f = 619 → fnTr P fm pf f = some (q39_F.slots, q39_F.res, q39_F.code.er)) : Sound P fm ⟨pf, q39_f lo :: fs39 lo, [], 0⟩ :=
  fn_sound hS hm [] (q39_f lo) rfl q39_F htie (by decide) rfl (Nat.le_of_ble_eq_true (by kernel_rfl)) (fun C hT => show LsOK (fun _ => False) [] C (⟨pf, fs39 lo, [], 0⟩ : Tabs) q39_c from ⟨trivial, ⟨trivial, ⟨trivial, ⟨trivial, trivial⟩⟩⟩⟩) (fun x y h => (q39_e lo x).trans h)
def fs40 (lo : Lo) : List FnE := q39_f lo :: fs39 lo
def q40 (lo : Lo) (a0_0 : Int) (a0_1 : Int) (b1_0 : Int) (b1_1 : Int) : Option Bool :=
  bif (decide (a0_0 < b1_0)) then (some true) else (bif (decide (a0_0 = b1_0)) then (some (decide (a0_1 < b1_1))) else (some false))
def q40_c : VCode :=
 (.seq (.reg [o 2 (.box (t 0)), o 3 (.box (t 1)), o 4 (.mv (kb false))])
 (.seq (.reg [o 5 (.fad 0 (t 2)), o 6 (.load false 1 (t 5)), o 7 (.fad 0 (t 3)), o 8 (.load false 1 (t 7)), o 9 (.bin .lss (t 6) (t 8)), o 10 (.mv (t 9)), og 11 10 false (.fad 0 (t 2)), og 12 10 false (.load false 1 (t 11)), og 13 10 false (.fad 0 (t 3)), og 14 10 false (.load false 1 (t 13)), og 15 10 false (.bin .eql (t 12) (t 14)), og 16 10 false (.mv (t 15)), og 17 16 true (.fad 1 (t 2)), og 18 16 true (.load false 1 (t 17)), og 19 16 true (.fad 1 (t 3)), og 20 16 true (.load false 1 (t 19)), og 21 16 true (.bin .lss (t 18) (t 20)), og 22 10 false (.pick (t 16) (t 21) (kb false)), o 23 (.pick (t 10) (kb true) (t 22)), o 4 (.mv (t 23))])
 (.fz [4] .ret)))
def q40_F : VFn := ⟨true, 24, [.t 4], q40_c⟩
def q40_f (lo : Lo) : FnE := ⟨618, true, ⟨[0, 1], [.ag [.i .u64, .i .u64], .ag [.i .u64, .i .u64]], [], (cs [.i .u64, .i .u64, .i .u64, .i .u64])⟩, .b, [], (cs [.b]), (fun x => q40 lo x.1 x.2.1 x.2.2.1 x.2.2.2 : Int × Int × Int × Int → Option Bool)⟩
theorem q40_e (lo : Lo) : ∀ x : Int × Int × Int × Int, evP (⟨pf, fs40 lo, [], 0⟩ : Tabs) q40_F ⟨[0, 1], [.ag [.i .u64, .i .u64], .ag [.i .u64, .i .u64]], [], (cs [.i .u64, .i .u64, .i .u64, .i .u64])⟩ (.b) (cs [.b]) x = q40 lo x.1 x.2.1 x.2.2.1 x.2.2.2 := fun x => by kernel_rfl
theorem q40_S {P : Program} {fm : FM} {lo : Lo} (hlo : LoOK lo) (hS : Sound P fm ⟨pf, fs40 lo, [], 0⟩) (hm : P.follows .mixedOrders = true) (htie : ∀ f, fm f = 618 → fnTr P fm pf f = some (q40_F.slots, q40_F.res, q40_F.code.er)) : Sound P fm ⟨pf, q40_f lo :: fs40 lo, [], 0⟩ :=
  fn_sound hS hm [] (q40_f lo) rfl q40_F htie (by decide) rfl (Nat.le_of_ble_eq_true (by kernel_rfl)) (fun C hT => show LsOK (fun _ => False) [] C (⟨pf, fs40 lo, [], 0⟩ : Tabs) q40_c from ⟨trivial, ⟨trivial, trivial⟩⟩) (fun x y h => (q40_e lo x).trans h)
def fs41 (lo : Lo) : List FnE := q40_f lo :: fs40 lo
def q41 (lo : Lo) (a0_0 : Int) (a0_1 : Int) (b1_0 : Int) (b1_1 : Int) : Option (Int × Int) :=
  chk ((0 : Int).toNat ≤ 1) (chk (((sub64F a0_1 b1_1 (0 : Int)).2).toNat ≤ 1) (some ((sub64F a0_0 b1_0 ((sub64F a0_1 b1_1 (0 : Int)).2)).1, (sub64F a0_1 b1_1 (0 : Int)).1)))
def q41_c : VCode :=
 (.seq (.reg [o 2 (.box (t 0)), o 3 (.box (t 1)), o 4 (.alloc [.i .u64 0, .i .u64 0])])
 (.seq (.reg [o 10 (.fad 1 (t 2)), o 11 (.load false 1 (t 10)), o 12 (.fad 1 (t 3)), o 13 (.load false 1 (t 12)), o 14 (.sub64 [(t 11), (t 13), (ki .u64 0)]), o 9 (.mv (t 14)), o 15 (.ext (t 9) 0), o 16 (.ext (t 9) 1), o 5 (.mv (t 15)), o 6 (.mv (t 16))])
 (.seq (.reg [o 18 (.fad 0 (t 2)), o 19 (.load false 1 (t 18)), o 20 (.fad 0 (t 3)), o 21 (.load false 1 (t 20)), o 22 (.mv (t 6)), o 23 (.sub64 [(t 19), (t 21), (t 22)]), o 17 (.mv (t 23)), o 24 (.ext (t 17) 0), o 25 (.ext (t 17) 1), o 7 (.mv (t 24)), o 8 (.mv (t 25))])
 (.seq (.reg [o 26 (.mv (t 7)), o 27 (.mv (t 5)), o 28 (.build [.i .u64 0, .i .u64 0] [(0, 1, (t 26)), (1, 1, (t 27))]), on (.store 2 (t 4) (t 28))])
 (.fz [4] .ret)))))
def q41_F : VFn := ⟨true, 29, [.c 4 true 2], q41_c⟩
def q41_f (lo : Lo) : FnE := ⟨620, true, ⟨[0, 1], [.ag [.i .u64, .i .u64], .ag [.i .u64, .i .u64]], [], (cs [.i .u64, .i .u64, .i .u64, .i .u64])⟩, .ag [.i .u64, .i .u64], [], (cs [.i .u64, .i .u64]), (fun x => q41 lo x.1 x.2.1 x.2.2.1 x.2.2.2 : Int × Int × Int × Int → Option (Int × Int))⟩
theorem q41_e (lo : Lo) : ∀ x : Int × Int × Int × Int, evP (⟨pf, fs41 lo, [], 0⟩ : Tabs) q41_F ⟨[0, 1], [.ag [.i .u64, .i .u64], .ag [.i .u64, .i .u64]], [], (cs [.i .u64, .i .u64, .i .u64, .i .u64])⟩ (.ag [.i .u64, .i .u64]) (cs [.i .u64, .i .u64]) x = q41 lo x.1 x.2.1 x.2.2.1 x.2.2.2 := fun x => by kernel_rfl
theorem q41_S {P : Program} {fm : FM} {lo : Lo} (hlo : LoOK lo) (hS : Sound P fm ⟨pf, fs41 lo, [], 0⟩) (hm : P.follows .mixedOrders = true) (htie : ∀ f, fm f = 620 → fnTr P fm pf f = some (q41_F.slots, q41_F.res, q41_F.code.er)) : Sound P fm ⟨pf, q41_f lo :: fs41 lo, [], 0⟩ :=
  fn_sound hS hm [] (q41_f lo) rfl q41_F htie (by decide) rfl (Nat.le_of_ble_eq_true (by kernel_rfl)) (fun C hT => show LsOK (fun _ => False) [] C (⟨pf, fs41 lo, [], 0⟩ : Tabs) q41_c from ⟨trivial, ⟨trivial, ⟨trivial, ⟨trivial, trivial⟩⟩⟩⟩) (fun x y h => (q41_e lo x).trans h)
def fs42 (lo : Lo) : List FnE := q41_f lo :: fs41 lo
end Go.Abs.G52
namespace Go.Abs.G52
open Go Go.Abs
set_option maxRecDepth 100000
set_option linter.unusedVariables false
set_option maxHeartbeats 1000000
def q42_J13_b : VCode :=
 (.seq (.reg [o 20 (.load true 2 (t 7)), o 21 (.load true 2 (t 7)), o 22 (.call 619 [(t 20), (t 21)]), on (.store 2 (t 7) (t 22))])
 (.seq (.reg [o 23 (.fad 1 (t 7)), o 24 (.load false 1 (t 23)), o 25 (.mv (t 9)), o 26 (.mv (t 8)), o 27 (.bin .rem (t 26) (k 64)), o 28 (.bin .shr (t 25) (t 27)), o 29 (.bin .rem (t 28) (ki .u64 2)), o 30 (.bin .add (t 24) (t 29)), o 31 (.fad 1 (t 7)), on (.store 1 (t 31) (t 30))])
 (.seq (.reg [o 32 (.load true 2 (t 6)), o 33 (.load true 2 (t 6)), o 34 (.call 619 [(t 32), (t 33)]), on (.store 2 (t 6) (t 34))])
 (.seq (.reg [o 35 (.load true 2 (t 7)), o 36 (.load true 2 (t 3)), o 37 (.call 618 [(t 35), (t 36)]), o 38 (.not (t 37))])
 (.cond (t 38) (.seq (.reg [o 39 (.load true 2 (t 7)), o 40 (.load true 2 (t 3)), o 41 (.call 620 [(t 39), (t 40)]), on (.store 2 (t 7) (t 41))])
 (.reg [o 42 (.fad 1 (t 6)), o 43 (.load false 1 (t 42)), o 44 (.bin .add (t 43) (ki .u64 1)), o 45 (.fad 1 (t 6)), on (.store 1 (t 45) (t 44))]))
 .skip)))))
def q42_J13_g : Sg := ⟨[2, 3, 4, 5, 6, 7, 8, 9], [.ptr 0 0 0, .ptr 1 0 0, .ptr 2 0 0, .ptr 3 0 0, .ptr 4 0 0, .ptr 5 0 0, .i .i64, .i .u64], [.st [.i .u64, .i .u64], .st [.i .u64, .i .u64], .st [.i .u64, .i .u64], .st [.i .u64, .i .u64], .st [.i .u64, .i .u64], .st [.i .u64, .i .u64]], (cs [I, .i .u64, .i .u64, .i .u64, .i .u64, .i .u64, .i .u64, .i .u64, .i .u64, .i .u64, .i .u64, .i .u64, .i .u64, .i .u64])⟩
def q42_J13_o : List Out1 := [⟨.nor, ⟨[2, 3, 4, 5, 6, 7, 8], [.ptr 0 0 0, .ptr 1 0 0, .ptr 2 0 0, .ptr 3 0 0, .ptr 4 0 0, .ptr 5 0 0, .i .i64], [.st [.i .u64, .i .u64], .st [.i .u64, .i .u64], .st [.i .u64, .i .u64], .st [.i .u64, .i .u64], .st [.i .u64, .i .u64], .st [.i .u64, .i .u64]], (cs [I, .i .u64, .i .u64, .i .u64, .i .u64, .i .u64, .i .u64, .i .u64, .i .u64, .i .u64, .i .u64, .i .u64, .i .u64])⟩⟩]
def q42_J13 (lo : Lo) : Int × Int × Int × Int × Int × Int × Int × Int × Int × Int × Int × Int × Int × Int → Option ((Int × Int × Int × Int × Int × Int × Int × Int × Int × Int × Int × Int × Int)) := fun x => match x with
  | (i8, bit9, a2_0, a2_1, b3_0, b3_1, v4_0, v4_1, v5_0, v5_1, q6_0, q6_1, r7_0, r7_1) => Option.bind (q39 lo r7_0 r7_1 r7_0 r7_1) fun y117 => chk ((64 : Int) ≠ 0) (chk (0 ≤ (i8.tmod (64 : Int))) (chk ((2 : Int) ≠ 0) (Option.bind (q39 lo q6_0 q6_1 q6_0 q6_1) fun y118 => Option.bind (q40 lo y117.1 (IntKind.wrap .u64 (y117.2 + ((bit9.fdiv (2 ^ (min (i8.tmod (64 : Int)).toNat (IntKind.bits .u64)))).tmod (2 : Int)))) b3_0 b3_1) fun y119 => bif (!y119) then (Option.bind (q41 lo y117.1 (IntKind.wrap .u64 (y117.2 + ((bit9.fdiv (2 ^ (min (i8.tmod (64 : Int)).toNat (IntKind.bits .u64)))).tmod (2 : Int)))) b3_0 b3_1) fun y120 => some (i8, a2_0, a2_1, b3_0, b3_1, v4_0, v4_1, v5_0, v5_1, y118.1, (IntKind.wrap .u64 (y118.2 + (1 : Int))), y120.1, y120.2)) else (some (i8, a2_0, a2_1, b3_0, b3_1, v4_0, v4_1, v5_0, v5_1, y118.1, y118.2, y117.1, (IntKind.wrap .u64 (y117.2 + ((bit9.fdiv (2 ^ (min (i8.tmod (64 : Int)).toNat (IntKind.bits .u64)))).tmod (2 : Int)))))))))
theorem q42_J13_e (lo : Lo) : ∀ x : Int × Int × Int × Int × Int × Int × Int × Int × Int × Int × Int × Int × Int × Int, stepJ (⟨pf, fs42 lo, [], 0⟩ : Tabs) q42_J13_g q42_J13_o q42_J13_b x = q42_J13 lo x := fun x => by kernel_rfl
def q42_J13_p (lo : Lo) : LpE := ⟨13, [], q42_J13_g, q42_J13_o, q42_J13 lo⟩
theorem q42_J13_k {lo : Lo} (hlo : LoOK lo) (C : Ctx) (hT : TOK (⟨pf, fs42 lo, [], 0⟩ : Tabs) C) : LpSound (fun _ => False) [] 0 C q42_J13_b.er (q42_J13_p lo) :=
  jn_sound (T := (⟨pf, fs42 lo, [], 0⟩ : Tabs)) hT frNo (show LsOK (fun _ => False) [] C (⟨pf, fs42 lo, [], 0⟩ : Tabs) q42_J13_b from ⟨trivial, ⟨trivial, ⟨trivial, ⟨trivial, ⟨⟨trivial, trivial⟩, trivial⟩⟩⟩⟩⟩) (fun x y h => (q42_J13_e lo x).trans h)
def q42_L3_b : VCode :=
 (.seq (.seq (.reg [o 10 (.mv (t 8)), o 11 (.bin .geq (t 10) (k 0))])
 (.cond (t 11) .skip
 (.exit 0)))
 (.seq (.blk 1 (.seq (.reg [o 14 (.fad 1 (t 2)), o 15 (.load false 1 (t 14)), o 9 (.mv (t 15))])
 (.seq (.seq (.reg [o 16 (.mv (t 8)), o 17 (.bin .geq (t 16) (k 64))])
 (.cond (t 17) (.reg [o 18 (.fad 0 (t 2)), o 19 (.load false 1 (t 18)), o 9 (.mv (t 19))])
 .skip))
 (.jn 13 q42_J13_b))))
 (.reg [o 12 (.mv (t 8)), o 13 (.bin .sub (t 12) (k 1)), o 8 (.mv (t 13))])))
def q42_L3_g : Sg := ⟨[2, 3, 4, 5, 6, 7, 8], [.ptr 0 0 0, .ptr 1 0 0, .ptr 2 0 0, .ptr 3 0 0, .ptr 4 0 0, .ptr 5 0 0, .i .i64], [.st [.i .u64, .i .u64], .st [.i .u64, .i .u64], .st [.i .u64, .i .u64], .st [.i .u64, .i .u64], .st [.i .u64, .i .u64], .st [.i .u64, .i .u64]], (cs [I, .i .u64, .i .u64, .i .u64, .i .u64, .i .u64, .i .u64, .i .u64, .i .u64, .i .u64, .i .u64, .i .u64, .i .u64])⟩
def q42_L3_o : List Out1 := [⟨.exit 0, ⟨[4, 5, 6, 7], [.ptr 0 0 0, .ptr 1 0 0, .ptr 2 0 0, .ptr 3 0 0], [.st [.i .u64, .i .u64], .st [.i .u64, .i .u64], .st [.i .u64, .i .u64], .st [.i .u64, .i .u64]], (cs [.i .u64, .i .u64, .i .u64, .i .u64, .i .u64, .i .u64, .i .u64, .i .u64])⟩⟩]
def q42_L3_s (lo : Lo) : Int × Int × Int × Int × Int × Int × Int × Int × Int × Int × Int × Int × Int → Option ((Int × Int × Int × Int × Int × Int × Int × Int × Int × Int × Int × Int × Int) ⊕ ((Int × Int × Int × Int × Int × Int × Int × Int))) := fun x => match x with
  | (i8, a2_0, a2_1, b3_0, b3_1, v4_0, v4_1, v5_0, v5_1, q6_0, q6_1, r7_0, r7_1) => bif (decide ((0 : Int) ≤ i8)) then (bif (decide ((64 : Int) ≤ i8)) then (Option.bind (q42_J13 lo (i8, a2_0, a2_0, a2_1, b3_0, b3_1, v4_0, v4_1, v5_0, v5_1, q6_0, q6_1, r7_0, r7_1)) fun y121 => some (.inl ((IntKind.wrap .i64 (y121.1 - (1 : Int))), y121.2.1, y121.2.2.1, y121.2.2.2.1, y121.2.2.2.2.1, y121.2.2.2.2.2.1, y121.2.2.2.2.2.2.1, y121.2.2.2.2.2.2.2.1, y121.2.2.2.2.2.2.2.2.1, y121.2.2.2.2.2.2.2.2.2.1, y121.2.2.2.2.2.2.2.2.2.2.1, y121.2.2.2.2.2.2.2.2.2.2.2.1, y121.2.2.2.2.2.2.2.2.2.2.2.2))) else (Option.bind (q42_J13 lo (i8, a2_1, a2_0, a2_1, b3_0, b3_1, v4_0, v4_1, v5_0, v5_1, q6_0, q6_1, r7_0, r7_1)) fun y122 => some (.inl ((IntKind.wrap .i64 (y122.1 - (1 : Int))), y122.2.1, y122.2.2.1, y122.2.2.2.1, y122.2.2.2.2.1, y122.2.2.2.2.2.1, y122.2.2.2.2.2.2.1, y122.2.2.2.2.2.2.2.1, y122.2.2.2.2.2.2.2.2.1, y122.2.2.2.2.2.2.2.2.2.1, y122.2.2.2.2.2.2.2.2.2.2.1, y122.2.2.2.2.2.2.2.2.2.2.2.1, y122.2.2.2.2.2.2.2.2.2.2.2.2)))) else (some (.inr (v4_0, v4_1, v5_0, v5_1, q6_0, q6_1, r7_0, r7_1)))
theorem q42_L3_e (lo : Lo) : ∀ x : Int × Int × Int × Int × Int × Int × Int × Int × Int × Int × Int × Int × Int, stepL (⟨pf, fs42 lo, [q42_J13_p lo], 0⟩ : Tabs) [] q42_L3_g q42_L3_o q42_L3_b x = q42_L3_s lo x := fun x => by kernel_rfl
def q42_L3 (lo : Lo) : Int × Int × Int × Int × Int × Int × Int × Int × Int × Int × Int × Int × Int → Option ((Int × Int × Int × Int × Int × Int × Int × Int)) := lo.run (q42_L3_s lo)
def q42_L3_p (lo : Lo) : LpE := ⟨3, [], q42_L3_g, q42_L3_o, q42_L3 lo⟩
theorem q42_L3_k {lo : Lo} (hlo : LoOK lo) (C : Ctx) (hT : TOK (⟨pf, fs42 lo, [q42_J13_p lo], 0⟩ : Tabs) C) : LpSound (fun _ => False) [] 0 C (.loop q42_L3_b.er) (q42_L3_p lo) :=
  loop_sound (T := (⟨pf, fs42 lo, [q42_J13_p lo], 0⟩ : Tabs)) hT frNo (show LsOK (fun _ => False) [] C (⟨pf, fs42 lo, [q42_J13_p lo], 0⟩ : Tabs) q42_L3_b from ⟨⟨trivial, ⟨trivial, trivial⟩⟩, ⟨⟨trivial, ⟨⟨trivial, ⟨trivial, trivial⟩⟩, (lsGet (by kernel_rfl) (q42_J13_k hlo C (tok_ls hT)))⟩⟩, trivial⟩⟩) (fun x y h => loopO_congr (q42_L3_e lo) (hlo _ _ _ h))
def q42 (lo : Lo) (a0_0 : Int) (a0_1 : Int) (b1_0 : Int) (b1_1 : Int) : Option (Int × Int × Int × Int) :=
  Option.bind (q42_L3 lo ((127 : Int), a0_0, a0_1, b1_0, b1_1, (0 : Int), (0 : Int), (0 : Int), (0 : Int), (0 : Int), (0 : Int), (0 : Int), (0 : Int))) fun y123 => some (y123.2.2.2.2.1, y123.2.2.2.2.2.1, y123.2.2.2.2.2.2.1, y123.2.2.2.2.2.2.2)
def q42_c : VCode :=
 (.seq (.reg [o 2 (.box (t 0)), o 3 (.box (t 1)), o 4 (.alloc [.i .u64 0, .i .u64 0]), o 5 (.alloc [.i .u64 0, .i .u64 0])])
 (.seq (.reg [o 6 (.alloc [.i .u64 0, .i .u64 0]), o 7 (.alloc [.i .u64 0, .i .u64 0])])
 (.seq (.seq (.reg [o 8 (.mv (k 127))])
 (.blk 0 (.loop 3 q42_L3_b)))
 (.seq (.regN [4] [o 46 (.load true 2 (t 6)), ⟨some 47, .load true 2 (t 7), none, true, false⟩, ⟨none, .store 2 (t 4) (t 46), none, false, true⟩, on (.store 2 (t 5) (t 47))])
 (.fz [4, 5] .ret)))))
def q42_F : VFn := ⟨true, 48, [.c 4 true 2, .c 5 true 2], q42_c⟩
def q42_f (lo : Lo) : FnE := ⟨617, true, ⟨[0, 1], [.ag [.i .u64, .i .u64], .ag [.i .u64, .i .u64]], [], (cs [.i .u64, .i .u64, .i .u64, .i .u64])⟩, .tp [.ag [.i .u64, .i .u64], .ag [.i .u64, .i .u64]], [], (cs [.i .u64, .i .u64, .i .u64, .i .u64]), (fun x => q42 lo x.1 x.2.1 x.2.2.1 x.2.2.2 : Int × Int × Int × Int → Option (Int × Int × Int × Int))⟩
theorem q42_e (lo : Lo) : ∀ x : Int × Int × Int × Int, evP (⟨pf, fs42 lo, [q42_L3_p lo, q42_J13_p lo], 0⟩ : Tabs) q42_F ⟨[0, 1], [.ag [.i .u64, .i .u64], .ag [.i .u64, .i .u64]], [], (cs [.i .u64, .i .u64, .i .u64, .i .u64])⟩ (.tp [.ag [.i .u64, .i .u64], .ag [.i .u64, .i .u64]]) (cs [.i .u64, .i .u64, .i .u64, .i .u64]) x = q42 lo x.1 x.2.1 x.2.2.1 x.2.2.2 := fun x => by kernel_rfl
theorem q42_S {P : Program} {fm : FM} {lo : Lo} (hlo : LoOK lo) (hS : Sound P fm ⟨pf, fs42 lo, [], 0⟩) (hm : P.follows .mixedOrders = true) (htie : ∀ f, fm f = 617 → fnTr P fm pf f = some (q42_F.slots, q42_F.res, q42_F.code.er)) : Sound P fm ⟨pf, q42_f lo :: fs42 lo, [], 0⟩ :=
  fn_sound hS hm [q42_L3_p lo, q42_J13_p lo] (q42_f lo) rfl q42_F htie (by decide) rfl (Nat.le_of_ble_eq_true (by kernel_rfl)) (fun C hT => show LsOK (fun _ => False) [] C (⟨pf, fs42 lo, [q42_L3_p lo, q42_J13_p lo], 0⟩ : Tabs) q42_c from ⟨trivial, ⟨trivial, ⟨⟨trivial, (lsGet (by kernel_rfl) (q42_L3_k hlo C (tok_ls hT)))⟩, ⟨trivial, trivial⟩⟩⟩⟩) (fun x y h => (q42_e lo x).trans h)
def fs43 (lo : Lo) : List FnE := q42_f lo :: fs42 lo
def q43_L12_b : VCode :=
 (.seq (.seq (.reg [o 16 (.load true 2 (t 9)), o 17 (.call 616 [(t 16)]), o 18 (.not (t 17))])
 (.cond (t 18) .skip
 (.exit 0)))
 (.blk 1 (.seq (.reg [o 20 (.load true 2 (t 8)), o 21 (.load true 2 (t 9)), o 22 (.call 617 [(t 20), (t 21)]), o 19 (.mv (t 22)), o 23 (.ext (t 19) 0), o 24 (.ext (t 19) 1), o 10 (.alloc [.i .u64 0, .i .u64 0]), o 11 (.alloc [.i .u64 0, .i .u64 0]), on (.store 2 (t 10) (t 23)), on (.store 2 (t 11) (t 24))])
 (.regN [8] [o 25 (.load true 2 (t 9)), ⟨some 26, .load true 2 (t 11), none, true, false⟩, ⟨none, .store 2 (t 8) (t 25), none, false, true⟩, on (.store 2 (t 9) (t 26))]))))
def q43_L12_g : Sg := ⟨[0, 4, 5, 6, 8, 9], [.b, .ptr 0 0 0, .ptr 1 0 0, .ptr 2 0 0, .ptr 3 0 0, .ptr 4 0 0], [.st [.i .u64, .i .u64], .st [.i .u64, .i .u64], .st [.i .i64, .i .i64], .st [.i .u64, .i .u64], .st [.i .u64, .i .u64]], (cs [.b, .i .u64, .i .u64, .i .u64, .i .u64, I, I, .i .u64, .i .u64, .i .u64, .i .u64])⟩
def q43_L12_o : List Out1 := [⟨.exit 0, ⟨[0, 4, 5, 6, 8], [.b, .ptr 0 0 0, .ptr 1 0 0, .ptr 2 0 0, .ptr 3 0 0], [.st [.i .u64, .i .u64], .st [.i .u64, .i .u64], .st [.i .i64, .i .i64], .st [.i .u64, .i .u64]], (cs [.b, .i .u64, .i .u64, .i .u64, .i .u64, I, I, .i .u64, .i .u64])⟩⟩]
def q43_L12_s (lo : Lo) : Bool × Int × Int × Int × Int × Int × Int × Int × Int × Int × Int → Option ((Bool × Int × Int × Int × Int × Int × Int × Int × Int × Int × Int) ⊕ ((Bool × Int × Int × Int × Int × Int × Int × Int × Int))) := fun x => match x with
  | (neg0, num4_0, num4_1, den5_0, den5_1, v6_0, v6_1, x8_0, x8_1, y9_0, y9_1) => Option.bind (q38 lo y9_0 y9_1) fun y116 => bif (!y116) then (Option.bind (q42 lo x8_0 x8_1 y9_0 y9_1) fun y124 => some (.inl (neg0, num4_0, num4_1, den5_0, den5_1, v6_0, v6_1, y9_0, y9_1, y124.2.2.1, y124.2.2.2))) else (some (.inr (neg0, num4_0, num4_1, den5_0, den5_1, v6_0, v6_1, x8_0, x8_1)))
theorem q43_L12_e (lo : Lo) : ∀ x : Bool × Int × Int × Int × Int × Int × Int × Int × Int × Int × Int, stepL (⟨pf, fs43 lo, [], 0⟩ : Tabs) [] q43_L12_g q43_L12_o q43_L12_b x = q43_L12_s lo x := fun x => by kernel_rfl
def q43_L12 (lo : Lo) : Bool × Int × Int × Int × Int × Int × Int × Int × Int × Int × Int → Option ((Bool × Int × Int × Int × Int × Int × Int × Int × Int)) := lo.run (q43_L12_s lo)
def q43_L12_p (lo : Lo) : LpE := ⟨12, [], q43_L12_g, q43_L12_o, q43_L12 lo⟩
theorem q43_L12_k {lo : Lo} (hlo : LoOK lo) (C : Ctx) (hT : TOK (⟨pf, fs43 lo, [], 0⟩ : Tabs) C) : LpSound (fun _ => False) [] 0 C (.loop q43_L12_b.er) (q43_L12_p lo) :=
  loop_sound (T := (⟨pf, fs43 lo, [], 0⟩ : Tabs)) hT frNo (show LsOK (fun _ => False) [] C (⟨pf, fs43 lo, [], 0⟩ : Tabs) q43_L12_b from ⟨⟨trivial, ⟨trivial, trivial⟩⟩, ⟨trivial, trivial⟩⟩) (fun x y h => loopO_congr (q43_L12_e lo) (hlo _ _ _ h))
def q43 (lo : Lo) (neg0 : Bool) (num1_0 : Int) (num1_1 : Int) (den2_0 : Int) (den2_1 : Int) : Option (Int × Int × Int) :=
  Option.bind (q43_L12 lo (neg0, num1_0, num1_1, den2_0, den2_1, (0 : Int), (0 : Int), num1_0, num1_1, den2_0, den2_1)) fun y125 => Option.bind (q42 lo y125.2.1 y125.2.2.1 y125.2.2.2.2.2.2.2.1 y125.2.2.2.2.2.2.2.2) fun y126 => Option.bind (q42 lo y125.2.2.2.1 y125.2.2.2.2.1 y125.2.2.2.2.2.2.2.1 y125.2.2.2.2.2.2.2.2) fun y127 => Option.bind (q40 lo (0 : Int) (9223372036854775807 : Int) y126.1 y126.2.1) fun y128 => bif y128 then (some ((0 : Int), (0 : Int), (7 : Int))) else (Option.bind (q40 lo (0 : Int) (9223372036854775807 : Int) y127.1 y127.2.1) fun y129 => bif y129 then (some ((0 : Int), (0 : Int), (7 : Int))) else (bif y125.1 then (some ((IntKind.wrap .i64 (0 - (IntKind.wrap .i64 y126.2.1))), (IntKind.wrap .i64 y127.2.1), (0 : Int))) else (some ((IntKind.wrap .i64 y126.2.1), (IntKind.wrap .i64 y127.2.1), (0 : Int)))))
def q43_c : VCode :=
 (.seq (.reg [o 4 (.box (t 1)), o 5 (.box (t 2)), o 6 (.alloc [.i .i64 0, .i .i64 0]), o 7 (.mv (k 0))])
 (.seq (.reg [⟨some 14, .load true 2 (t 4), none, true, false⟩, ⟨some 15, .load true 2 (t 5), none, true, false⟩, o 8 (.alloc [.i .u64 0, .i .u64 0]), o 9 (.alloc [.i .u64 0, .i .u64 0]), ⟨none, .store 2 (t 8) (t 14), none, false, true⟩, on (.store 2 (t 9) (t 15))])
 (.seq (.blk 0 (.loop 12 q43_L12_b))
 (.seq (.reg [o 28 (.load true 2 (t 4)), o 29 (.load true 2 (t 8)), o 30 (.call 617 [(t 28), (t 29)]), o 27 (.mv (t 30)), o 31 (.ext (t 27) 0), o 32 (.ext (t 27) 1), on (.store 2 (t 4) (t 31))])
 (.seq (.reg [o 34 (.load true 2 (t 5)), o 35 (.load true 2 (t 8)), o 36 (.call 617 [(t 34), (t 35)]), o 33 (.mv (t 36)), o 37 (.ext (t 33) 0), o 38 (.ext (t 33) 1), on (.store 2 (t 5) (t 37))])
 (.seq (.reg [o 39 (.build [.i .u64 0, .i .u64 0] [(1, 1, (ki .u64 9223372036854775807))]), o 12 (.alloc [.i .u64 0, .i .u64 0]), on (.store 2 (t 12) (t 39))])
 (.seq (.seq (.reg [o 40 (.load true 2 (t 12)), o 41 (.load true 2 (t 4)), o 42 (.call 618 [(t 40), (t 41)]), o 43 (.mv (t 42)), og 44 43 false (.load true 2 (t 12)), og 45 43 false (.load true 2 (t 5)), og 46 43 false (.call 618 [(t 44), (t 45)]), o 47 (.pick (t 43) (kb true) (t 46))])
 (.cond (t 47) (.seq (.reg [o 48 (.build [.i .i64 0, .i .i64 0] []), on (.store 2 (t 6) (t 48)), o 7 (.mv (k 7))])
 (.fz [6, 7] .ret))
 .skip))
 (.seq (.reg [o 49 (.fad 1 (t 4)), o 50 (.load false 1 (t 49)), o 51 (.conv .i64 (t 50)), o 13 (.mv (t 51))])
 (.seq (.seq (.reg [o 52 (.mv (t 0))])
 (.cond (t 52) (.reg [o 53 (.mv (t 13)), o 54 (.neg (t 53)), o 13 (.mv (t 54))])
 .skip))
 (.seq (.reg [o 55 (.mv (t 13)), o 56 (.fad 1 (t 5)), o 57 (.load false 1 (t 56)), o 58 (.conv .i64 (t 57)), o 59 (.build [.i .i64 0, .i .i64 0] [(0, 1, (t 55)), (1, 1, (t 58))]), on (.store 2 (t 6) (t 59)), o 7 (.mv (k 0))])
 (.fz [6, 7] .ret)))))))))))
def q43_F : VFn := ⟨true, 60, [.c 6 true 2, .t 7], q43_c⟩
def q43_f (lo : Lo) : FnE := ⟨611, true, ⟨[0, 1, 2], [.b, .ag [.i .u64, .i .u64], .ag [.i .u64, .i .u64]], [], (cs [.b, .i .u64, .i .u64, .i .u64, .i .u64])⟩, .tp [.ag [.i .i64, .i .i64], .i .i64], [], (cs [I, I, I]), (fun x => q43 lo x.1 x.2.1 x.2.2.1 x.2.2.2.1 x.2.2.2.2 : Bool × Int × Int × Int × Int → Option (Int × Int × Int))⟩
theorem q43_e (lo : Lo) : ∀ x : Bool × Int × Int × Int × Int, evP (⟨pf, fs43 lo, [q43_L12_p lo], 0⟩ : Tabs) q43_F ⟨[0, 1, 2], [.b, .ag [.i .u64, .i .u64], .ag [.i .u64, .i .u64]], [], (cs [.b, .i .u64, .i .u64, .i .u64, .i .u64])⟩ (.tp [.ag [.i .i64, .i .i64], .i .i64]) (cs [I, I, I]) x = q43 lo x.1 x.2.1 x.2.2.1 x.2.2.2.1 x.2.2.2.2 := fun x => by kernel_rfl
theorem q43_S {P : Program} {fm : FM} {lo : Lo} (hlo : LoOK lo) (hS : Sound P fm ⟨pf, fs43 lo, [], 0⟩) (hm : P.follows .mixedOrders = true) (htie : ∀ f, fm f = 611 → fnTr P fm pf f = some (q43_F.slots, q43_F.res, q43_F.code.er)) : Sound P fm ⟨pf, q43_f lo :: fs43 lo, [], 0⟩ :=
  fn_sound hS hm [q43_L12_p lo] (q43_f lo) rfl q43_F htie (by decide) rfl (Nat.le_of_ble_eq_true (by kernel_rfl)) (fun C hT => show LsOK (fun _ => False) [] C (⟨pf, fs43 lo, [q43_L12_p lo], 0⟩ : Tabs) q43_c from ⟨trivial, ⟨trivial, ⟨(lsGet (by kernel_rfl) (q43_L12_k hlo C (tok_ls hT))), ⟨trivial, ⟨trivial, ⟨trivial, ⟨⟨trivial, ⟨⟨trivial, trivial⟩, trivial⟩⟩, ⟨trivial, ⟨⟨trivial, ⟨trivial, trivial⟩⟩, ⟨trivial, trivial⟩⟩⟩⟩⟩⟩⟩⟩⟩⟩) (fun x y h => (q43_e lo x).trans h)
def fs44 (lo : Lo) : List FnE := q43_f lo :: fs43 lo
def q44 (lo : Lo) (num0 : Int) (den1 : Int) : Option (Int × Int × Int) :=
  bif (decide (den1 = (0 : Int))) then (some ((0 : Int), (0 : Int), (8 : Int))) else (Option.bind (q37 lo num0) fun y114 => Option.bind (q37 lo den1) fun y115 => Option.bind (q43 lo (!((decide (num0 < (0 : Int))) == (decide (den1 < (0 : Int))))) y114.1 y114.2 y115.1 y115.2) fun y130 => some (y130.1, y130.2.1, y130.2.2))
def q44_c : VCode :=
 (.seq (.reg [o 4 (.alloc [.i .i64 0, .i .i64 0]), o 5 (.mv (k 0))])
 (.seq (.seq (.reg [o 6 (.mv (t 1)), o 7 (.bin .eql (t 6) (k 0))])
 (.cond (t 7) (.seq (.reg [o 8 (.build [.i .i64 0, .i .i64 0] []), on (.store 2 (t 4) (t 8)), o 5 (.mv (k 8))])
 (.fz [4, 5] .ret))
 .skip))
 (.seq (.reg [o 9 (.mv (t 0)), o 10 (.bin .lss (t 9) (k 0)), o 11 (.mv (t 1)), o 12 (.bin .lss (t 11) (k 0)), o 13 (.beq true (t 10) (t 12)), o 14 (.mv (t 0)), o 15 (.call 612 [(t 14)]), o 16 (.mv (t 1)), o 17 (.call 612 [(t 16)]), o 18 (.call 611 [(t 13), (t 15), (t 17)]), o 19 (.ext (t 18) 0), o 20 (.ext (t 18) 1), on (.store 2 (t 4) (t 19)), o 5 (.mv (t 20))])
 (.fz [4, 5] .ret))))
def q44_F : VFn := ⟨true, 21, [.c 4 true 2, .t 5], q44_c⟩
def q44_f (lo : Lo) : FnE := ⟨600, true, ⟨[0, 1], [.i .i64, .i .i64], [], (cs [I, I])⟩, .tp [.ag [.i .i64, .i .i64], .i .i64], [], (cs [I, I, I]), (fun x => q44 lo x.1 x.2 : Int × Int → Option (Int × Int × Int))⟩
theorem q44_e (lo : Lo) : ∀ x : Int × Int, evP (⟨pf, fs44 lo, [], 0⟩ : Tabs) q44_F ⟨[0, 1], [.i .i64, .i .i64], [], (cs [I, I])⟩ (.tp [.ag [.i .i64, .i .i64], .i .i64]) (cs [I, I, I]) x = q44 lo x.1 x.2 := fun x => by kernel_rfl
theorem q44_S {P : Program} {fm : FM} {lo : Lo} (hlo : LoOK lo) (hS : Sound P fm ⟨pf, fs44 lo, [], 0⟩) (hm : P.follows .mixedOrders = true) (htie : ∀ f, fm f = 600 → fnTr P fm pf f = some (q44_F.slots, q44_F.res, q44_F.code.er)) : Sound P fm ⟨pf, q44_f lo :: fs44 lo, [], 0⟩ :=
  fn_sound hS hm [] (q44_f lo) rfl q44_F htie (by decide) rfl (Nat.le_of_ble_eq_true (by kernel_rfl)) (fun C hT => show LsOK (fun _ => False) [] C (⟨pf, fs44 lo, [], 0⟩ : Tabs) q44_c from ⟨trivial, ⟨⟨trivial, ⟨⟨trivial, trivial⟩, trivial⟩⟩, ⟨trivial, trivial⟩⟩⟩) (fun x y h => (q44_e lo x).trans h)
def fs45 (lo : Lo) : List FnE := q44_f lo :: fs44 lo
def q45 (lo : Lo) (num0 : Int) (den1 : Int) : Option (Int × Int) :=
  Option.bind (q44 lo num0 den1) fun y131 => bif (!decide (y131.2.2 = (0 : Int))) then (some ((0 : Int), (1 : Int))) else (some (y131.1, y131.2.1))
def q45_c : VCode :=
 (.seq (.reg [o 4 (.alloc [.i .i64 0, .i .i64 0])])
 (.seq (.reg [o 8 (.mv (t 0)), o 9 (.mv (t 1)), o 10 (.call 600 [(t 8), (t 9)]), o 7 (.mv (t 10)), o 11 (.ext (t 7) 0), o 12 (.ext (t 7) 1), o 5 (.alloc [.i .i64 0, .i .i64 0]), on (.store 2 (t 5) (t 11)), o 6 (.mv (t 12))])
 (.seq (.seq (.reg [o 13 (.mv (t 6)), o 14 (.bin .neq (t 13) (k 0))])
 (.cond (t 14) (.seq (.reg [o 15 (.build [.i .i64 0, .i .i64 0] [(1, 1, (k 1))]), on (.store 2 (t 4) (t 15))])
 (.fz [4] .ret))
 .skip))
 (.seq (.reg [o 16 (.load true 2 (t 5)), on (.store 2 (t 4) (t 16))])
 (.fz [4] .ret)))))
def q45_F : VFn := ⟨true, 17, [.c 4 true 2], q45_c⟩
def q45_f (lo : Lo) : FnE := ⟨589, true, ⟨[0, 1], [.i .i64, .i .i64], [], (cs [I, I])⟩, .ag [.i .i64, .i .i64], [], (cs [I, I]), (fun x => q45 lo x.1 x.2 : Int × Int → Option (Int × Int))⟩
theorem q45_e (lo : Lo) : ∀ x : Int × Int, evP (⟨pf, fs45 lo, [], 0⟩ : Tabs) q45_F ⟨[0, 1], [.i .i64, .i .i64], [], (cs [I, I])⟩ (.ag [.i .i64, .i .i64]) (cs [I, I]) x = q45 lo x.1 x.2 := fun x => by kernel_rfl
theorem q45_S {P : Program} {fm : FM} {lo : Lo} (hlo : LoOK lo) (hS : Sound P fm ⟨pf, fs45 lo, [], 0⟩) (hm : P.follows .mixedOrders = true) (htie : ∀ f, fm f = 589 → fnTr P fm pf f = some (q45_F.slots, q45_F.res, q45_F.code.er)) : Sound P fm ⟨pf, q45_f lo :: fs45 lo, [], 0⟩ :=
  fn_sound hS hm [] (q45_f lo) rfl q45_F htie (by decide) rfl (Nat.le_of_ble_eq_true (by kernel_rfl)) (fun C hT => show LsOK (fun _ => False) [] C (⟨pf, fs45 lo, [], 0⟩ : Tabs) q45_c from ⟨trivial, ⟨trivial, ⟨⟨trivial, ⟨⟨trivial, trivial⟩, trivial⟩⟩, ⟨trivial, trivial⟩⟩⟩⟩) (fun x y h => (q45_e lo x).trans h)
def fs46 (lo : Lo) : List FnE := q45_f lo :: fs45 lo
def q46 (lo : Lo) : Option Bool :=
  Option.bind (q5 lo (ByteArray.mk #[107, 105, 116, 116, 101, 110]) (ByteArray.mk #[115, 105, 116, 116, 105, 110, 103])) fun y11 => Option.bind (q22 lo (ByteArray.mk #[97, 98]) (2 : Int)) fun y75 => Option.bind (q29 lo (ByteArray.mk #[97, 98]) (ByteArray.mk #[97, 99]) (2 : Int)) fun y88 => Option.bind (q33 lo (ByteArray.mk #[107, 105, 116, 116, 101, 110]) (ByteArray.mk #[115, 105, 116, 116, 105, 110, 103])) fun y97 => Option.bind (q35 lo (ByteArray.mk #[107, 105, 116, 116, 101, 110]) ([((0 : Int), (107 : Int), (115 : Int)), ((4 : Int), (101 : Int), (105 : Int)), ((6 : Int), (-1 : Int), (103 : Int))])) fun y109 => bif (decide (y11.2 = (0 : Int))) then (bif (decide (y11.1 = (3 : Int))) then (bif (decide (y75.2 = (0 : Int))) then (Option.bind (q36 lo y75.1 ([(ByteArray.mk #[1, 97]), (ByteArray.mk #[97, 98]), (ByteArray.mk #[98, 1])])) fun y113 => bif y113 then (bif (decide (y88.2.2 = (0 : Int))) then (Option.bind (q45 lo (1 : Int) (3 : Int)) fun y132 => bif ((decide (y88.1 = y132.1)) && ((decide (y88.2.1 = y132.2)) && true)) then (bif (decide (y97.2 = (0 : Int))) then (bif (decide (y97.1 = (ByteArray.mk #[105, 116, 116, 110]))) then (bif (decide (y109.2 = (0 : Int))) then (some (decide (y109.1 = (ByteArray.mk #[115, 105, 116, 116, 105, 110, 103])))) else (some false)) else (some false)) else (some false)) else (some false)) else (some false)) else (some false)) else (some false)) else (some false)) else (some false)
def q46_c : VCode :=
 (.seq (.reg [o 0 (.mv (kb false))])
 (.seq (.reg [o 12 (.call 571 [(ks (⟨#[107, 105, 116, 116, 101, 110]⟩)), (ks (⟨#[115, 105, 116, 116, 105, 110, 103]⟩))]), o 11 (.mv (t 12)), o 13 (.ext (t 11) 0), o 14 (.ext (t 11) 1), o 1 (.mv (t 13)), o 2 (.mv (t 14))])
 (.seq (.reg [o 16 (.call 575 [(ks (⟨#[97, 98]⟩)), (k 2)]), o 15 (.mv (t 16)), o 17 (.ext (t 15) 0), o 18 (.ext (t 15) 1), o 3 (.mv (t 17)), o 4 (.mv (t 18))])
 (.seq (.reg [o 20 (.call 577 [(ks (⟨#[97, 98]⟩)), (ks (⟨#[97, 99]⟩)), (k 2)]), o 19 (.mv (t 20)), o 21 (.ext (t 19) 0), o 22 (.ext (t 19) 1), o 5 (.alloc [.i .i64 0, .i .i64 0]), on (.store 2 (t 5) (t 21)), o 6 (.mv (t 22))])
 (.seq (.reg [o 24 (.call 581 [(ks (⟨#[107, 105, 116, 116, 101, 110]⟩)), (ks (⟨#[115, 105, 116, 116, 105, 110, 103]⟩))]), o 23 (.mv (t 24)), o 25 (.ext (t 23) 0), o 26 (.ext (t 23) 1), o 7 (.mv (t 25)), o 8 (.mv (t 26))])
 (.seq (.reg [o 28 (.build [.i .i64 0, .i .i64 0, .i .i64 0] [(0, 1, (k 0)), (1, 1, (k 107)), (2, 1, (k 115))]), o 29 (.build [.i .i64 0, .i .i64 0, .i .i64 0] [(0, 1, (k 4)), (1, 1, (k 101)), (2, 1, (k 105))]), o 30 (.build [.i .i64 0, .i .i64 0, .i .i64 0] [(0, 1, (k 6)), (1, 1, (k (-1))), (2, 1, (k 103))]), o 31 (.bsl (cs [I, I, I]) 3 [(0, (t 28)), (1, (t 29)), (2, (t 30))]), o 32 (.call 573 [(ks (⟨#[107, 105, 116, 116, 101, 110]⟩)), (t 31)]), o 27 (.mv (t 32)), o 33 (.ext (t 27) 0), o 34 (.ext (t 27) 1), o 9 (.mv (t 33)), o 10 (.mv (t 34))])
 (.seq (.reg [o 35 (.mv (t 2)), o 36 (.bin .eql (t 35) (k 0)), o 37 (.mv (t 36)), og 38 37 true (.mv (t 1)), og 39 37 true (.bin .eql (t 38) (k 3)), o 40 (.pick (t 37) (t 39) (kb false)), o 41 (.mv (t 40)), og 42 41 true (.mv (t 4)), og 43 41 true (.bin .eql (t 42) (k 0)), o 44 (.pick (t 41) (t 43) (kb false)), o 45 (.mv (t 44)), og 46 45 true (.mv (t 3)), og 47 45 true (.bsl (cs [.s]) 3 [(0, (ks (⟨#[1, 97]⟩))), (1, (ks (⟨#[97, 98]⟩))), (2, (ks (⟨#[98, 1]⟩)))]), og 48 45 true (.call 579 [(t 46), (t 47)]), o 49 (.pick (t 45) (t 48) (kb false)), o 50 (.mv (t 49)), og 51 50 true (.mv (t 6)), og 52 50 true (.bin .eql (t 51) (k 0)), o 53 (.pick (t 50) (t 52) (kb false)), o 54 (.mv (t 53)), og 55 54 true (.load true 2 (t 5)), og 56 54 true (.call 589 [(k 1), (k 3)]), og 57 54 true (.eqa false [1, 1] (t 55) (t 56)), o 58 (.pick (t 54) (t 57) (kb false)), o 59 (.mv (t 58)), og 60 59 true (.mv (t 8)), og 61 59 true (.bin .eql (t 60) (k 0)), o 62 (.pick (t 59) (t 61) (kb false)), o 63 (.mv (t 62)), og 64 63 true (.mv (t 7)), og 65 63 true (.bin .eql (t 64) (ks (⟨#[105, 116, 116, 110]⟩))), o 66 (.pick (t 63) (t 65) (kb false)), o 67 (.mv (t 66)), og 68 67 true (.mv (t 10)), og 69 67 true (.bin .eql (t 68) (k 0)), o 70 (.pick (t 67) (t 69) (kb false)), o 71 (.mv (t 70)), og 72 71 true (.mv (t 9)), og 73 71 true (.bin .eql (t 72) (ks (⟨#[115, 105, 116, 116, 105, 110, 103]⟩))), o 74 (.pick (t 71) (t 73) (kb false)), o 0 (.mv (t 74))])
 (.fz [0] .ret))))))))
def q46_F : VFn := ⟨true, 75, [.t 0], q46_c⟩
def q46_f (lo : Lo) : FnE := ⟨570, true, ⟨[], [], [], (cs [])⟩, .b, [], (cs [.b]), (fun x => q46 lo  : Unit → Option Bool)⟩
theorem q46_e (lo : Lo) : ∀ x : Unit, evP (⟨pf, fs46 lo, [], 0⟩ : Tabs) q46_F ⟨[], [], [], (cs [])⟩ (.b) (cs [.b]) x = q46 lo  := fun x => by kernel_rfl
theorem q46_S {P : Program} {fm : FM} {lo : Lo} (hlo : LoOK lo) (hS : Sound P fm ⟨pf, fs46 lo, [], 0⟩) (hm : P.follows .mixedOrders = true) (htie : ∀ f, fm f = 570 → fnTr P fm pf f = some (q46_F.slots, q46_F.res, q46_F.code.er)) : Sound P fm ⟨pf, q46_f lo :: fs46 lo, [], 0⟩ :=
  fn_sound hS hm [] (q46_f lo) rfl q46_F htie (by decide) rfl (Nat.le_of_ble_eq_true (by kernel_rfl)) (fun C hT => show LsOK (fun _ => False) [] C (⟨pf, fs46 lo, [], 0⟩ : Tabs) q46_c from ⟨trivial, ⟨trivial, ⟨trivial, ⟨trivial, ⟨trivial, ⟨trivial, ⟨trivial, trivial⟩⟩⟩⟩⟩⟩⟩) (fun x y h => (q46_e lo x).trans h)
def fs47 (lo : Lo) : List FnE := q46_f lo :: fs46 lo
def fs48 (lo : Lo) : List FnE := fs47 lo
def q48 (lo : Lo) (s0 : ByteArray) : Option Bool :=
  some (decide ((200 : Int) < (s0.size : Int)))
def q48_c : VCode :=
 (.seq (.reg [o 2 (.mv (kb false))])
 (.seq (.reg [o 3 (.mv (t 0)), o 4 (.lenS (t 3)), o 5 (.bin .gtr (t 4) (k 200)), o 2 (.mv (t 5))])
 (.fz [2] .ret)))
def q48_F : VFn := ⟨true, 6, [.t 2], q48_c⟩
def q48_f (lo : Lo) : FnE := ⟨572, true, ⟨[0], [.s], [], (cs [.s])⟩, .b, [], (cs [.b]), (fun x => q48 lo x : ByteArray → Option Bool)⟩
theorem q48_e (lo : Lo) : ∀ x : ByteArray, evP (⟨pf, fs48 lo, [], 0⟩ : Tabs) q48_F ⟨[0], [.s], [], (cs [.s])⟩ (.b) (cs [.b]) x = q48 lo x := fun x => by kernel_rfl
theorem q48_S {P : Program} {fm : FM} {lo : Lo} (hlo : LoOK lo) (hS : Sound P fm ⟨pf, fs48 lo, [], 0⟩) (hm : P.follows .mixedOrders = true) (htie : ∀ f, fm f = 572 → fnTr P fm pf f = some (q48_F.slots, q48_F.res, q48_F.code.er)) : Sound P fm ⟨pf, q48_f lo :: fs48 lo, [], 0⟩ :=
  fn_sound hS hm [] (q48_f lo) rfl q48_F htie (by decide) rfl (Nat.le_of_ble_eq_true (by kernel_rfl)) (fun C hT => show LsOK (fun _ => False) [] C (⟨pf, fs48 lo, [], 0⟩ : Tabs) q48_c from ⟨trivial, ⟨trivial, trivial⟩⟩) (fun x y h => (q48_e lo x).trans h)
def fs49 (lo : Lo) : List FnE := q48_f lo :: fs48 lo
def q49 (lo : Lo) (s0 : ByteArray) : Option Bool :=
  some (decide ((200 : Int) < (s0.size : Int)))
def q49_c : VCode :=
 (.seq (.reg [o 2 (.mv (kb false))])
 (.seq (.reg [o 3 (.mv (t 0)), o 4 (.lenS (t 3)), o 5 (.bin .gtr (t 4) (k 200)), o 2 (.mv (t 5))])
 (.fz [2] .ret)))
def q49_F : VFn := ⟨true, 6, [.t 2], q49_c⟩
def q49_f (lo : Lo) : FnE := ⟨593, true, ⟨[0], [.s], [], (cs [.s])⟩, .b, [], (cs [.b]), (fun x => q49 lo x : ByteArray → Option Bool)⟩
theorem q49_e (lo : Lo) : ∀ x : ByteArray, evP (⟨pf, fs49 lo, [], 0⟩ : Tabs) q49_F ⟨[0], [.s], [], (cs [.s])⟩ (.b) (cs [.b]) x = q49 lo x := fun x => by kernel_rfl
theorem q49_S {P : Program} {fm : FM} {lo : Lo} (hlo : LoOK lo) (hS : Sound P fm ⟨pf, fs49 lo, [], 0⟩) (hm : P.follows .mixedOrders = true) (htie : ∀ f, fm f = 593 → fnTr P fm pf f = some (q49_F.slots, q49_F.res, q49_F.code.er)) : Sound P fm ⟨pf, q49_f lo :: fs49 lo, [], 0⟩ :=
  fn_sound hS hm [] (q49_f lo) rfl q49_F htie (by decide) rfl (Nat.le_of_ble_eq_true (by kernel_rfl)) (fun C hT => show LsOK (fun _ => False) [] C (⟨pf, fs49 lo, [], 0⟩ : Tabs) q49_c from ⟨trivial, ⟨trivial, trivial⟩⟩) (fun x y h => (q49_e lo x).trans h)
def fs50 (lo : Lo) : List FnE := q49_f lo :: fs49 lo
def fs51 (lo : Lo) : List FnE := fs50 lo
end Go.Abs.G52
namespace Go.Abs.G52
open Go Go.Abs
set_option maxRecDepth 100000
set_option linter.unusedVariables false
set_option maxHeartbeats 1000000
def fs52 (lo : Lo) : List FnE := fs51 lo
def q52_L16_b : VCode :=
 (.seq (.seq (.reg [o 20 (.mv (t 7)), o 21 (.mv (t 1)), o 22 (.bin .lss (t 20) (t 21))])
 (.cond (t 22) .skip
 (.exit 0)))
 (.seq (.blk 1 (.reg [o 25 (.mv (t 6)), o 26 (.bin .add (ks (⟨#[1]⟩)) (t 25)), o 27 (.bin .add (t 26) (ks (⟨#[1]⟩))), o 6 (.mv (t 27))]))
 (.reg [o 23 (.mv (t 7)), o 24 (.bin .add (t 23) (k 1)), o 7 (.mv (t 24))])))
def q52_L16_g : Sg := ⟨[0, 1, 6, 7], [.s, .i .i64, .s, .i .i64], [], (cs [.s, I, .s, I])⟩
def q52_L16_o : List Out1 := [⟨.exit 0, ⟨[0, 1, 6], [.s, .i .i64, .s], [], (cs [.s, I, .s])⟩⟩]
def q52_L16_s (lo : Lo) : ByteArray × Int × ByteArray × Int → Option ((ByteArray × Int × ByteArray × Int) ⊕ ((ByteArray × Int × ByteArray))) := fun x => match x with
  | (s0, q1, wide6, i7) => bif (decide (i7 < q1)) then (chk (Nat.ble ((ByteArray.mk #[1]).size + wide6.size) 9223372036854775807 = true) (chk (Nat.ble (((ByteArray.mk #[1]) ++ wide6).size + (ByteArray.mk #[1]).size) 9223372036854775807 = true) (some (.inl (s0, q1, (((ByteArray.mk #[1]) ++ wide6) ++ (ByteArray.mk #[1])), (IntKind.wrap .i64 (i7 + (1 : Int)))))))) else (some (.inr (s0, q1, wide6)))
theorem q52_L16_e (lo : Lo) : ∀ x : ByteArray × Int × ByteArray × Int, stepL (⟨pf, fs52 lo, [], 0⟩ : Tabs) [] q52_L16_g q52_L16_o q52_L16_b x = q52_L16_s lo x := fun x => by kernel_rfl
def q52_L16 (lo : Lo) : ByteArray × Int × ByteArray × Int → Option ((ByteArray × Int × ByteArray)) := lo.run (q52_L16_s lo)
def q52_L16_p (lo : Lo) : LpE := ⟨16, [], q52_L16_g, q52_L16_o, q52_L16 lo⟩
theorem q52_L16_k {lo : Lo} (hlo : LoOK lo) (C : Ctx) (hT : TOK (⟨pf, fs52 lo, [], 0⟩ : Tabs) C) : LpSound (fun _ => False) [] 0 C (.loop q52_L16_b.er) (q52_L16_p lo) :=
  loop_sound (T := (⟨pf, fs52 lo, [], 0⟩ : Tabs)) hT frNo (show LsOK (fun _ => False) [] C (⟨pf, fs52 lo, [], 0⟩ : Tabs) q52_L16_b from ⟨⟨trivial, ⟨trivial, trivial⟩⟩, ⟨trivial, trivial⟩⟩) (fun x y h => loopO_congr (q52_L16_e lo) (hlo _ _ _ h))
def q52_L5_b : VCode :=
 (.seq (.seq (.reg [o 57 (.mv (t 10)), o 58 (.bin .gtr (t 57) (k 0)), o 59 (.mv (t 58)), og 60 59 true (.mv (t 8)), og 61 59 true (.mv (t 10)), og 62 59 true (.iad 1 (t 60) (t 61)), og 63 59 true (.load false 1 (t 62)), og 64 59 true (.mv (t 8)), og 65 59 true (.mv (t 10)), og 66 59 true (.bin .sub (t 65) (k 1)), og 67 59 true (.iad 1 (t 64) (t 66)), og 68 59 true (.load false 1 (t 67)), og 69 59 true (.bin .lss (t 63) (t 68)), o 70 (.pick (t 59) (t 69) (kb false))])
 (.cond (t 70) .skip
 (.exit 4)))
 (.seq (.blk 5 (.reg [o 73 (.mv (t 8)), o 74 (.mv (t 10)), o 75 (.mv (t 8)), o 76 (.mv (t 10)), o 77 (.bin .sub (t 76) (k 1)), o 78 (.mv (t 8)), o 79 (.mv (t 10)), o 80 (.bin .sub (t 79) (k 1)), o 81 (.iad 1 (t 78) (t 80)), o 82 (.load false 1 (t 81)), o 83 (.mv (t 8)), o 84 (.mv (t 10)), o 85 (.iad 1 (t 83) (t 84)), o 86 (.load false 1 (t 85)), o 87 (.iad 1 (t 73) (t 74)), on (.store 1 (t 87) (t 82)), o 88 (.iad 1 (t 75) (t 77)), on (.store 1 (t 88) (t 86))]))
 (.reg [o 71 (.mv (t 10)), o 72 (.bin .sub (t 71) (k 1)), o 10 (.mv (t 72))])))
def q52_L5_g : Sg := ⟨[0, 1, 6, 8, 9, 10], [.s, .i .i64, .s, .ref 0, .i .i64, .i .i64], [.sq (cs [.s])], (cs [.s, I, .s, I, I, .l (cs [.s])])⟩
def q52_L5_o : List Out1 := [⟨.exit 4, ⟨[0, 1, 6, 8, 9], [.s, .i .i64, .s, .ref 0, .i .i64], [.sq (cs [.s])], (cs [.s, I, .s, I, .l (cs [.s])])⟩⟩]
def q52_L5_s (lo : Lo) : ByteArray × Int × ByteArray × Int × Int × (List ByteArray) → Option ((ByteArray × Int × ByteArray × Int × Int × (List ByteArray)) ⊕ ((ByteArray × Int × ByteArray × Int × (List ByteArray)))) := fun x => match x with
  | (s0, q1, wide6, i9, k10, out8) => bif (decide ((0 : Int) < k10)) then (chk (0 ≤ k10 ∧ k10 < (out8.length : Int)) (chk (0 ≤ (IntKind.wrap .i64 (k10 - (1 : Int))) ∧ (IntKind.wrap .i64 (k10 - (1 : Int))) < (out8.length : Int)) (bif (Op.bytesLess (out8.getD k10.toNat (ByteArray.mk #[])).toList (out8.getD ((IntKind.wrap .i64 (k10 - (1 : Int))).toNat) (ByteArray.mk #[])).toList) then (chk (0 ≤ (IntKind.wrap .i64 (k10 - (1 : Int))) ∧ (IntKind.wrap .i64 (k10 - (1 : Int))) < (out8.length : Int)) (chk (0 ≤ k10 ∧ k10 < (out8.length : Int)) (chk (0 ≤ k10 ∧ k10 < (out8.length : Int)) (chk (0 ≤ (IntKind.wrap .i64 (k10 - (1 : Int))) ∧ (IntKind.wrap .i64 (k10 - (1 : Int))) < ((out8.set k10.toNat (out8.getD ((IntKind.wrap .i64 (k10 - (1 : Int))).toNat) (ByteArray.mk #[]))).length : Int)) (some (.inl (s0, q1, wide6, i9, (IntKind.wrap .i64 (k10 - (1 : Int))), ((out8.set k10.toNat (out8.getD ((IntKind.wrap .i64 (k10 - (1 : Int))).toNat) (ByteArray.mk #[]))).set ((IntKind.wrap .i64 (k10 - (1 : Int))).toNat) (out8.getD k10.toNat (ByteArray.mk #[])))))))))) else (some (.inr (s0, q1, wide6, i9, out8)))))) else (some (.inr (s0, q1, wide6, i9, out8)))
theorem q52_L5_e (lo : Lo) : ∀ x : ByteArray × Int × ByteArray × Int × Int × (List ByteArray), stepL (⟨pf, fs52 lo, [q52_L16_p lo], 0⟩ : Tabs) [] q52_L5_g q52_L5_o q52_L5_b x = q52_L5_s lo x := fun x => by kernel_rfl
def q52_L5 (lo : Lo) : ByteArray × Int × ByteArray × Int × Int × (List ByteArray) → Option ((ByteArray × Int × ByteArray × Int × (List ByteArray))) := lo.run (q52_L5_s lo)
def q52_L5_p (lo : Lo) : LpE := ⟨5, [], q52_L5_g, q52_L5_o, q52_L5 lo⟩
theorem q52_L5_k {lo : Lo} (hlo : LoOK lo) (C : Ctx) (hT : TOK (⟨pf, fs52 lo, [q52_L16_p lo], 0⟩ : Tabs) C) : LpSound (fun _ => False) [] 0 C (.loop q52_L5_b.er) (q52_L5_p lo) :=
  loop_sound (T := (⟨pf, fs52 lo, [q52_L16_p lo], 0⟩ : Tabs)) hT frNo (show LsOK (fun _ => False) [] C (⟨pf, fs52 lo, [q52_L16_p lo], 0⟩ : Tabs) q52_L5_b from ⟨⟨trivial, ⟨trivial, trivial⟩⟩, ⟨trivial, trivial⟩⟩) (fun x y h => loopO_congr (q52_L5_e lo) (hlo _ _ _ h))
def q52_L3_b : VCode :=
 (.seq (.seq (.reg [o 28 (.mv (t 9)), o 29 (.mv (t 1)), o 30 (.bin .add (t 28) (t 29)), o 31 (.mv (t 6)), o 32 (.lenS (t 31)), o 33 (.bin .leq (t 30) (t 32)), o 34 (.mv (t 33)), og 35 34 true (.mv (t 9)), og 36 34 true (.mv (t 0)), og 37 34 true (.lenS (t 36)), og 38 34 true (.mv (t 1)), og 39 34 true (.bin .add (t 37) (t 38)), og 40 34 true (.bin .sub (t 39) (k 1)), og 41 34 true (.bin .lss (t 35) (t 40)), o 42 (.pick (t 34) (t 41) (kb false))])
 (.cond (t 42) .skip
 (.exit 2)))
 (.seq (.blk 3 (.seq (.reg [o 45 (.mv (t 8)), o 46 (.mv (t 6)), o 47 (.mv (t 9)), o 48 (.mv (t 9)), o 49 (.mv (t 1)), o 50 (.bin .add (t 48) (t 49)), o 51 (.slcS (t 46) (some (t 47)) (some (t 50))), o 52 (.bsl (cs [.s]) 1 [(0, (t 51))]), o 53 (.app (cs [.s]) 0 (t 45) (t 52)), o 8 (.mv (t 53))])
 (.seq (.reg [o 54 (.mv (t 8)), o 55 (.len (t 54)), o 56 (.bin .sub (t 55) (k 1)), o 10 (.mv (t 56))])
 (.blk 4 (.loop 5 q52_L5_b)))))
 (.reg [o 43 (.mv (t 9)), o 44 (.bin .add (t 43) (k 1)), o 9 (.mv (t 44))])))
def q52_L3_g : Sg := ⟨[0, 1, 6, 8, 9], [.s, .i .i64, .s, .ref 0, .i .i64], [.sq (cs [.s])], (cs [.s, I, .s, I, .l (cs [.s])])⟩
def q52_L3_o : List Out1 := [⟨.exit 2, ⟨[8], [.ref 0], [.sq (cs [.s])], (cs [.l (cs [.s])])⟩⟩]
def q52_L3_s (lo : Lo) : ByteArray × Int × ByteArray × Int × (List ByteArray) → Option ((ByteArray × Int × ByteArray × Int × (List ByteArray)) ⊕ (((List ByteArray)))) := fun x => match x with
  | (s0, q1, wide6, i9, out8) => bif (decide ((IntKind.wrap .i64 (i9 + q1)) ≤ (wide6.size : Int))) then (bif (decide (i9 < (IntKind.wrap .i64 ((IntKind.wrap .i64 ((s0.size : Int) + q1)) - (1 : Int))))) then (chk (0 ≤ i9 ∧ i9 ≤ (IntKind.wrap .i64 (i9 + q1)) ∧ (IntKind.wrap .i64 (i9 + q1)) ≤ (wide6.size : Int)) (chk (out8.length + ([(wide6.extract i9.toNat (IntKind.wrap .i64 (i9 + q1)).toNat)]).length ≤ maxEl) (Option.bind (q52_L5 lo (s0, q1, wide6, i9, (IntKind.wrap .i64 (((out8 ++ ([(wide6.extract i9.toNat (IntKind.wrap .i64 (i9 + q1)).toNat)])).length : Int) - (1 : Int))), (out8 ++ ([(wide6.extract i9.toNat (IntKind.wrap .i64 (i9 + q1)).toNat)])))) fun y169 => some (.inl (y169.1, y169.2.1, y169.2.2.1, (IntKind.wrap .i64 (y169.2.2.2.1 + (1 : Int))), y169.2.2.2.2))))) else (some (.inr out8))) else (some (.inr out8))
theorem q52_L3_e (lo : Lo) : ∀ x : ByteArray × Int × ByteArray × Int × (List ByteArray), stepL (⟨pf, fs52 lo, [q52_L5_p lo, q52_L16_p lo], 0⟩ : Tabs) [(8, none, false)] q52_L3_g q52_L3_o q52_L3_b x = q52_L3_s lo x := fun x => by kernel_rfl
def q52_L3 (lo : Lo) : ByteArray × Int × ByteArray × Int × (List ByteArray) → Option (((List ByteArray))) := lo.run (q52_L3_s lo)
def q52_L3_p (lo : Lo) : LpE := ⟨3, [(8, none, false)], q52_L3_g, q52_L3_o, q52_L3 lo⟩
theorem q52_L3_k {lo : Lo} (hlo : LoOK lo) (C : Ctx) (hT : TOK (⟨pf, fs52 lo, [q52_L5_p lo, q52_L16_p lo], 0⟩ : Tabs) C) : LpSound (fun _ => False) [] 0 C (.loop q52_L3_b.er) (q52_L3_p lo) :=
  loop_sound (T := (⟨pf, fs52 lo, [q52_L5_p lo, q52_L16_p lo], 0⟩ : Tabs)) hT frNo (show LsOK (fun _ => False) [] C (⟨pf, fs52 lo, [q52_L5_p lo, q52_L16_p lo], 0⟩ : Tabs) q52_L3_b from ⟨⟨trivial, ⟨trivial, trivial⟩⟩, ⟨⟨trivial, ⟨trivial, (lsGet (by kernel_rfl) (q52_L5_k hlo C (tok_ls hT)))⟩⟩, trivial⟩⟩) (fun x y h => loopO_congr (q52_L3_e lo) (hlo _ _ _ h))
def q52 (lo : Lo) (s0 : ByteArray) (q1 : Int) : Option ((List ByteArray) × Int) :=
  Option.bind (q49 lo s0) fun y167 => bif y167 then (some ([], (3 : Int))) else (bif (decide (q1 < (1 : Int))) then (some ([], (7 : Int))) else (bif (decide ((4 : Int) < q1)) then (some ([], (7 : Int))) else (Option.bind (q52_L16 lo (s0, q1, s0, (1 : Int))) fun y168 => Option.bind (q52_L3 lo (y168.1, y168.2.1, y168.2.2, (0 : Int), [])) fun y170 => some (y170, (0 : Int)))))
def q52_c : VCode :=
 (.seq (.reg [o 4 (.mv (ke (cs [.s]))), o 5 (.mv (k 0))])
 (.seq (.seq (.reg [o 11 (.mv (t 0)), o 12 (.call 593 [(t 11)])])
 (.cond (t 12) (.seq (.reg [o 4 (.mv (ke (cs [.s]))), o 5 (.mv (k 3))])
 (.fz [4, 5] .ret))
 .skip))
 (.seq (.seq (.reg [o 13 (.mv (t 1)), o 14 (.bin .lss (t 13) (k 1)), o 15 (.mv (t 14)), og 16 15 false (.mv (t 1)), og 17 15 false (.bin .gtr (t 16) (k 4)), o 18 (.pick (t 15) (kb true) (t 17))])
 (.cond (t 18) (.seq (.reg [o 4 (.mv (ke (cs [.s]))), o 5 (.mv (k 7))])
 (.fz [4, 5] .ret))
 .skip))
 (.seq (.reg [o 19 (.mv (t 0)), o 6 (.mv (t 19))])
 (.seq (.seq (.reg [o 7 (.mv (k 1))])
 (.blk 0 (.loop 16 q52_L16_b)))
 (.seq (.reg [o 8 (.mv (ke (cs [.s])))])
 (.seq (.seq (.reg [o 9 (.mv (k 0))])
 (.blk 2 (.loop 3 q52_L3_b)))
 (.seq (.reg [o 89 (.mv (t 8)), o 4 (.mv (t 89)), o 5 (.mv (k 0))])
 (.fz [4, 5] .ret)))))))))
def q52_F : VFn := ⟨true, 90, [.t 4, .t 5], q52_c⟩
def q52_f (lo : Lo) : FnE := ⟨576, true, ⟨[0, 1], [.s, .i .i64], [], (cs [.s, I])⟩, .tp [.l (cs [.s]), .i .i64], [], (cs [.l (cs [.s]), I]), (fun x => q52 lo x.1 x.2 : ByteArray × Int → Option ((List ByteArray) × Int))⟩
theorem q52_e (lo : Lo) : ∀ x : ByteArray × Int, evP (⟨pf, fs52 lo, [q52_L3_p lo, q52_L5_p lo, q52_L16_p lo], 0⟩ : Tabs) q52_F ⟨[0, 1], [.s, .i .i64], [], (cs [.s, I])⟩ (.tp [.l (cs [.s]), .i .i64]) (cs [.l (cs [.s]), I]) x = q52 lo x.1 x.2 := fun x => by kernel_rfl
theorem q52_S {P : Program} {fm : FM} {lo : Lo} (hlo : LoOK lo) (hS : Sound P fm ⟨pf, fs52 lo, [], 0⟩) (hm : P.follows .mixedOrders = true) (htie : ∀ f, fm f = 576 → fnTr P fm pf f = some (q52_F.slots, q52_F.res, q52_F.code.er)) : Sound P fm ⟨pf, q52_f lo :: fs52 lo, [], 0⟩ :=
  fn_sound hS hm [q52_L3_p lo, q52_L5_p lo, q52_L16_p lo] (q52_f lo) rfl q52_F htie (by decide) rfl (Nat.le_of_ble_eq_true (by kernel_rfl)) (fun C hT => show LsOK (fun _ => False) [] C (⟨pf, fs52 lo, [q52_L3_p lo, q52_L5_p lo, q52_L16_p lo], 0⟩ : Tabs) q52_c from ⟨trivial, ⟨⟨trivial, ⟨⟨trivial, trivial⟩, trivial⟩⟩, ⟨⟨trivial, ⟨⟨trivial, trivial⟩, trivial⟩⟩, ⟨trivial, ⟨⟨trivial, (lsGet (by kernel_rfl) (q52_L16_k hlo C (tok_ls hT)))⟩, ⟨trivial, ⟨⟨trivial, (lsGet (by kernel_rfl) (q52_L3_k hlo C (tok_ls hT)))⟩, ⟨trivial, trivial⟩⟩⟩⟩⟩⟩⟩⟩) (fun x y h => (q52_e lo x).trans h)
def fs53 (lo : Lo) : List FnE := q52_f lo :: fs52 lo
def q53_L8_b : VCode :=
 (.seq (.seq (.reg [o 14 (.mv (t 6)), o 15 (.mv (t 1)), o 16 (.len (t 15)), o 17 (.bin .lss (t 14) (t 16)), o 18 (.mv (t 17)), og 19 18 true (.mv (t 1)), og 20 18 true (.mv (t 6)), og 21 18 true (.iad 1 (t 19) (t 20)), og 22 18 true (.load false 1 (t 21)), og 23 18 true (.mv (t 0)), og 24 18 true (.mv (t 7)), og 25 18 true (.iad 1 (t 23) (t 24)), og 26 18 true (.load false 1 (t 25)), og 27 18 true (.bin .lss (t 22) (t 26)), o 28 (.pick (t 18) (t 27) (kb false))])
 (.cond (t 28) .skip
 (.exit 2)))
 (.blk 3 (.reg [o 29 (.mv (t 6)), o 30 (.bin .add (t 29) (k 1)), o 6 (.mv (t 30))])))
def q53_L8_g : Sg := ⟨[0, 1, 5, 6, 7], [.l (cs [.s]), .l (cs [.s]), .i .i64, .i .i64, .i .i64], [], (cs [.l (cs [.s]), .l (cs [.s]), I, I, I])⟩
def q53_L8_o : List Out1 := [⟨.exit 2, ⟨[0, 1, 5, 6, 7], [.l (cs [.s]), .l (cs [.s]), .i .i64, .i .i64, .i .i64], [], (cs [.l (cs [.s]), .l (cs [.s]), I, I, I])⟩⟩]
def q53_L8_s (lo : Lo) : (List ByteArray) × (List ByteArray) × Int × Int × Int → Option (((List ByteArray) × (List ByteArray) × Int × Int × Int) ⊕ (((List ByteArray) × (List ByteArray) × Int × Int × Int))) := fun x => match x with
  | (a0, b1, n5, k6, i7) => bif (decide (k6 < (b1.length : Int))) then (chk (0 ≤ k6 ∧ k6 < (b1.length : Int)) (chk (0 ≤ i7 ∧ i7 < (a0.length : Int)) (bif (Op.bytesLess (b1.getD k6.toNat (ByteArray.mk #[])).toList (a0.getD i7.toNat (ByteArray.mk #[])).toList) then (some (.inl (a0, b1, n5, (IntKind.wrap .i64 (k6 + (1 : Int))), i7))) else (some (.inr (a0, b1, n5, k6, i7)))))) else (some (.inr (a0, b1, n5, k6, i7)))
theorem q53_L8_e (lo : Lo) : ∀ x : (List ByteArray) × (List ByteArray) × Int × Int × Int, stepL (⟨pf, fs53 lo, [], 0⟩ : Tabs) [] q53_L8_g q53_L8_o q53_L8_b x = q53_L8_s lo x := fun x => by kernel_rfl
def q53_L8 (lo : Lo) : (List ByteArray) × (List ByteArray) × Int × Int × Int → Option (((List ByteArray) × (List ByteArray) × Int × Int × Int)) := lo.run (q53_L8_s lo)
def q53_L8_p (lo : Lo) : LpE := ⟨8, [], q53_L8_g, q53_L8_o, q53_L8 lo⟩
theorem q53_L8_k {lo : Lo} (hlo : LoOK lo) (C : Ctx) (hT : TOK (⟨pf, fs53 lo, [], 0⟩ : Tabs) C) : LpSound (fun _ => False) [] 0 C (.loop q53_L8_b.er) (q53_L8_p lo) :=
  loop_sound (T := (⟨pf, fs53 lo, [], 0⟩ : Tabs)) hT frNo (show LsOK (fun _ => False) [] C (⟨pf, fs53 lo, [], 0⟩ : Tabs) q53_L8_b from ⟨⟨trivial, ⟨trivial, trivial⟩⟩, trivial⟩) (fun x y h => loopO_congr (q53_L8_e lo) (hlo _ _ _ h))
def q53_L3_b : VCode :=
 (.seq (.seq (.reg [o 8 (.mv (t 7)), o 9 (.mv (t 0)), o 10 (.len (t 9)), o 11 (.bin .lss (t 8) (t 10))])
 (.cond (t 11) .skip
 (.exit 0)))
 (.seq (.blk 1 (.seq (.blk 2 (.loop 8 q53_L8_b))
 (.seq (.reg [o 31 (.mv (t 6)), o 32 (.mv (t 1)), o 33 (.len (t 32)), o 34 (.bin .lss (t 31) (t 33)), o 35 (.mv (t 34)), og 36 35 true (.mv (t 1)), og 37 35 true (.mv (t 6)), og 38 35 true (.iad 1 (t 36) (t 37)), og 39 35 true (.load false 1 (t 38)), og 40 35 true (.mv (t 0)), og 41 35 true (.mv (t 7)), og 42 35 true (.iad 1 (t 40) (t 41)), og 43 35 true (.load false 1 (t 42)), og 44 35 true (.bin .eql (t 39) (t 43)), o 45 (.pick (t 35) (t 44) (kb false))])
 (.cond (t 45) (.seq (.reg [o 46 (.mv (t 5)), o 47 (.bin .add (t 46) (k 1)), o 5 (.mv (t 47))])
 (.reg [o 48 (.mv (t 6)), o 49 (.bin .add (t 48) (k 1)), o 6 (.mv (t 49))]))
 .skip))))
 (.reg [o 12 (.mv (t 7)), o 13 (.bin .add (t 12) (k 1)), o 7 (.mv (t 13))])))
def q53_L3_g : Sg := ⟨[0, 1, 5, 6, 7], [.l (cs [.s]), .l (cs [.s]), .i .i64, .i .i64, .i .i64], [], (cs [.l (cs [.s]), .l (cs [.s]), I, I, I])⟩
def q53_L3_o : List Out1 := [⟨.exit 0, ⟨[5], [.i .i64], [], (cs [I])⟩⟩]
def q53_L3_s (lo : Lo) : (List ByteArray) × (List ByteArray) × Int × Int × Int → Option (((List ByteArray) × (List ByteArray) × Int × Int × Int) ⊕ Int) := fun x => match x with
  | (a0, b1, n5, k6, i7) => bif (decide (i7 < (a0.length : Int))) then (Option.bind (q53_L8 lo (a0, b1, n5, k6, i7)) fun y178 => bif (decide (y178.2.2.2.1 < (y178.2.1.length : Int))) then (chk (0 ≤ y178.2.2.2.1 ∧ y178.2.2.2.1 < (y178.2.1.length : Int)) (chk (0 ≤ y178.2.2.2.2 ∧ y178.2.2.2.2 < (y178.1.length : Int)) (bif (decide ((y178.2.1.getD y178.2.2.2.1.toNat (ByteArray.mk #[])) = (y178.1.getD y178.2.2.2.2.toNat (ByteArray.mk #[])))) then (some (.inl (y178.1, y178.2.1, (IntKind.wrap .i64 (y178.2.2.1 + (1 : Int))), (IntKind.wrap .i64 (y178.2.2.2.1 + (1 : Int))), (IntKind.wrap .i64 (y178.2.2.2.2 + (1 : Int)))))) else (some (.inl (y178.1, y178.2.1, y178.2.2.1, y178.2.2.2.1, (IntKind.wrap .i64 (y178.2.2.2.2 + (1 : Int))))))))) else (some (.inl (y178.1, y178.2.1, y178.2.2.1, y178.2.2.2.1, (IntKind.wrap .i64 (y178.2.2.2.2 + (1 : Int))))))) else (some (.inr n5))
theorem q53_L3_e (lo : Lo) : ∀ x : (List ByteArray) × (List ByteArray) × Int × Int × Int, stepL (⟨pf, fs53 lo, [q53_L8_p lo], 0⟩ : Tabs) [] q53_L3_g q53_L3_o q53_L3_b x = q53_L3_s lo x := fun x => by kernel_rfl
def q53_L3 (lo : Lo) : (List ByteArray) × (List ByteArray) × Int × Int × Int → Option Int := lo.run (q53_L3_s lo)
def q53_L3_p (lo : Lo) : LpE := ⟨3, [], q53_L3_g, q53_L3_o, q53_L3 lo⟩
theorem q53_L3_k {lo : Lo} (hlo : LoOK lo) (C : Ctx) (hT : TOK (⟨pf, fs53 lo, [q53_L8_p lo], 0⟩ : Tabs) C) : LpSound (fun _ => False) [] 0 C (.loop q53_L3_b.er) (q53_L3_p lo) :=
  loop_sound (T := (⟨pf, fs53 lo, [q53_L8_p lo], 0⟩ : Tabs)) hT frNo (show LsOK (fun _ => False) [] C (⟨pf, fs53 lo, [q53_L8_p lo], 0⟩ : Tabs) q53_L3_b from ⟨⟨trivial, ⟨trivial, trivial⟩⟩, ⟨⟨(lsGet (by kernel_rfl) (q53_L8_k hlo C (tok_ls hT))), ⟨trivial, ⟨⟨trivial, trivial⟩, trivial⟩⟩⟩, trivial⟩⟩) (fun x y h => loopO_congr (q53_L3_e lo) (hlo _ _ _ h))
def q53 (lo : Lo) (a0 : List ByteArray) (b1 : List ByteArray) : Option Int :=
  Option.bind (q53_L3 lo (a0, b1, (0 : Int), (0 : Int), (0 : Int))) fun y179 => some y179
def q53_c : VCode :=
 (.seq (.reg [o 4 (.mv (k 0))])
 (.seq (.reg [o 5 (.mv (k 0)), o 6 (.mv (k 0))])
 (.seq (.seq (.reg [o 7 (.mv (k 0))])
 (.blk 0 (.loop 3 q53_L3_b)))
 (.seq (.reg [o 50 (.mv (t 5)), o 4 (.mv (t 50))])
 (.fz [4] .ret)))))
def q53_F : VFn := ⟨true, 51, [.t 4], q53_c⟩
def q53_f (lo : Lo) : FnE := ⟨580, true, ⟨[0, 1], [.l (cs [.s]), .l (cs [.s])], [], (cs [.l (cs [.s]), .l (cs [.s])])⟩, .i .i64, [], (cs [I]), (fun x => q53 lo x.1 x.2 : (List ByteArray) × (List ByteArray) → Option Int)⟩
theorem q53_e (lo : Lo) : ∀ x : (List ByteArray) × (List ByteArray), evP (⟨pf, fs53 lo, [q53_L3_p lo, q53_L8_p lo], 0⟩ : Tabs) q53_F ⟨[0, 1], [.l (cs [.s]), .l (cs [.s])], [], (cs [.l (cs [.s]), .l (cs [.s])])⟩ (.i .i64) (cs [I]) x = q53 lo x.1 x.2 := fun x => by kernel_rfl
theorem q53_S {P : Program} {fm : FM} {lo : Lo} (hlo : LoOK lo) (hS : Sound P fm ⟨pf, fs53 lo, [], 0⟩) (hm : P.follows .mixedOrders = true) (htie : ∀ f, fm f = 580 → fnTr P fm pf f = some (q53_F.slots, q53_F.res, q53_F.code.er)) : Sound P fm ⟨pf, q53_f lo :: fs53 lo, [], 0⟩ :=
  fn_sound hS hm [q53_L3_p lo, q53_L8_p lo] (q53_f lo) rfl q53_F htie (by decide) rfl (Nat.le_of_ble_eq_true (by kernel_rfl)) (fun C hT => show LsOK (fun _ => False) [] C (⟨pf, fs53 lo, [q53_L3_p lo, q53_L8_p lo], 0⟩ : Tabs) q53_c from ⟨trivial, ⟨trivial, ⟨⟨trivial, (lsGet (by kernel_rfl) (q53_L3_k hlo C (tok_ls hT)))⟩, ⟨trivial, trivial⟩⟩⟩⟩) (fun x y h => (q53_e lo x).trans h)
def fs54 (lo : Lo) : List FnE := q53_f lo :: fs53 lo
def q54 (lo : Lo) (a0 : ByteArray) (b1 : ByteArray) (q2 : Int) : Option (Int × Int × Int) :=
  Option.bind (q49 lo a0) fun y173 => bif y173 then (some ((0 : Int), (0 : Int), (3 : Int))) else (Option.bind (q49 lo b1) fun y174 => bif y174 then (some ((0 : Int), (0 : Int), (3 : Int))) else (Option.bind (q52 lo a0 q2) fun y175 => Option.bind (q52 lo b1 q2) fun y176 => bif (!decide (y175.2 = (0 : Int))) then (some ((0 : Int), (0 : Int), y175.2)) else (bif (decide ((IntKind.wrap .i64 ((y175.1.length : Int) + (y176.1.length : Int))) = (0 : Int))) then (Option.bind (q45 lo (1 : Int) (1 : Int)) fun y177 => some (y177.1, y177.2, (0 : Int))) else (Option.bind (q53 lo y175.1 y176.1) fun y180 => Option.bind (q45 lo (IntKind.wrap .i64 ((2 : Int) * y180)) (IntKind.wrap .i64 ((y175.1.length : Int) + (y176.1.length : Int)))) fun y181 => some (y181.1, y181.2, (0 : Int))))))
def q54_c : VCode :=
 (.seq (.reg [o 6 (.alloc [.i .i64 0, .i .i64 0]), o 7 (.mv (k 0))])
 (.seq (.seq (.reg [o 12 (.mv (t 0)), o 13 (.call 593 [(t 12)]), o 14 (.mv (t 13)), og 15 14 false (.mv (t 1)), og 16 14 false (.call 593 [(t 15)]), o 17 (.pick (t 14) (kb true) (t 16))])
 (.cond (t 17) (.seq (.reg [o 18 (.build [.i .i64 0, .i .i64 0] []), on (.store 2 (t 6) (t 18)), o 7 (.mv (k 3))])
 (.fz [6, 7] .ret))
 .skip))
 (.seq (.reg [o 20 (.mv (t 0)), o 21 (.mv (t 2)), o 22 (.call 576 [(t 20), (t 21)]), o 19 (.mv (t 22)), o 23 (.ext (t 19) 0), o 24 (.ext (t 19) 1), o 8 (.mv (t 23)), o 9 (.mv (t 24))])
 (.seq (.reg [o 26 (.mv (t 1)), o 27 (.mv (t 2)), o 28 (.call 576 [(t 26), (t 27)]), o 25 (.mv (t 28)), o 29 (.ext (t 25) 0), o 30 (.ext (t 25) 1), o 10 (.mv (t 29)), o 11 (.mv (t 30))])
 (.seq (.seq (.reg [o 31 (.mv (t 9)), o 32 (.bin .neq (t 31) (k 0))])
 (.cond (t 32) (.seq (.reg [o 33 (.build [.i .i64 0, .i .i64 0] []), o 34 (.mv (t 9)), on (.store 2 (t 6) (t 33)), o 7 (.mv (t 34))])
 (.fz [6, 7] .ret))
 .skip))
 (.seq (.seq (.reg [o 35 (.mv (t 8)), o 36 (.len (t 35)), o 37 (.mv (t 10)), o 38 (.len (t 37)), o 39 (.bin .add (t 36) (t 38)), o 40 (.bin .eql (t 39) (k 0))])
 (.cond (t 40) (.seq (.reg [o 41 (.call 589 [(k 1), (k 1)]), on (.store 2 (t 6) (t 41)), o 7 (.mv (k 0))])
 (.fz [6, 7] .ret))
 .skip))
 (.seq (.reg [o 42 (.mv (t 8)), o 43 (.mv (t 10)), o 44 (.call 580 [(t 42), (t 43)]), o 45 (.bin .mul (k 2) (t 44)), o 46 (.mv (t 8)), o 47 (.len (t 46)), o 48 (.mv (t 10)), o 49 (.len (t 48)), o 50 (.bin .add (t 47) (t 49)), o 51 (.call 589 [(t 45), (t 50)]), on (.store 2 (t 6) (t 51)), o 7 (.mv (k 0))])
 (.fz [6, 7] .ret))))))))
def q54_F : VFn := ⟨true, 52, [.c 6 true 2, .t 7], q54_c⟩
def q54_f (lo : Lo) : FnE := ⟨578, true, ⟨[0, 1, 2], [.s, .s, .i .i64], [], (cs [.s, .s, I])⟩, .tp [.ag [.i .i64, .i .i64], .i .i64], [], (cs [I, I, I]), (fun x => q54 lo x.1 x.2.1 x.2.2 : ByteArray × ByteArray × Int → Option (Int × Int × Int))⟩
theorem q54_e (lo : Lo) : ∀ x : ByteArray × ByteArray × Int, evP (⟨pf, fs54 lo, [], 0⟩ : Tabs) q54_F ⟨[0, 1, 2], [.s, .s, .i .i64], [], (cs [.s, .s, I])⟩ (.tp [.ag [.i .i64, .i .i64], .i .i64]) (cs [I, I, I]) x = q54 lo x.1 x.2.1 x.2.2 := fun x => by kernel_rfl
theorem q54_S {P : Program} {fm : FM} {lo : Lo} (hlo : LoOK lo) (hS : Sound P fm ⟨pf, fs54 lo, [], 0⟩) (hm : P.follows .mixedOrders = true) (htie : ∀ f, fm f = 578 → fnTr P fm pf f = some (q54_F.slots, q54_F.res, q54_F.code.er)) : Sound P fm ⟨pf, q54_f lo :: fs54 lo, [], 0⟩ :=
  fn_sound hS hm [] (q54_f lo) rfl q54_F htie (by decide) rfl (Nat.le_of_ble_eq_true (by kernel_rfl)) (fun C hT => show LsOK (fun _ => False) [] C (⟨pf, fs54 lo, [], 0⟩ : Tabs) q54_c from ⟨trivial, ⟨⟨trivial, ⟨⟨trivial, trivial⟩, trivial⟩⟩, ⟨trivial, ⟨trivial, ⟨⟨trivial, ⟨⟨trivial, trivial⟩, trivial⟩⟩, ⟨⟨trivial, ⟨⟨trivial, trivial⟩, trivial⟩⟩, ⟨trivial, trivial⟩⟩⟩⟩⟩⟩⟩) (fun x y h => (q54_e lo x).trans h)
def fs55 (lo : Lo) : List FnE := q54_f lo :: fs54 lo
def fs56 (lo : Lo) : List FnE := fs55 lo
def fs57 (lo : Lo) : List FnE := fs56 lo
def fs58 (lo : Lo) : List FnE := fs57 lo
def fs59 (lo : Lo) : List FnE := fs58 lo
end Go.Abs.G52
namespace Go.Abs.G52
open Go Go.Abs
set_option maxRecDepth 100000
set_option linter.unusedVariables false
set_option maxHeartbeats 1000000
def fs60 (lo : Lo) : List FnE := fs59 lo
def q60 (lo : Lo) (a0 : ByteArray) (b1 : ByteArray) (most2 : Int) : Option (Bool × Int) :=
  Option.bind (q5 lo a0 b1) fun y236 => bif (decide (y236.2 = (0 : Int))) then (some ((decide (y236.1 ≤ most2)), y236.2)) else (some (false, y236.2))
def q60_c : VCode :=
 (.seq (.reg [o 6 (.mv (kb false)), o 7 (.mv (k 0))])
 (.seq (.reg [o 11 (.mv (t 0)), o 12 (.mv (t 1)), o 13 (.call 571 [(t 11), (t 12)]), o 10 (.mv (t 13)), o 14 (.ext (t 10) 0), o 15 (.ext (t 10) 1), o 8 (.mv (t 14)), o 9 (.mv (t 15))])
 (.seq (.reg [o 16 (.mv (t 9)), o 17 (.bin .eql (t 16) (k 0)), o 18 (.mv (t 17)), og 19 18 true (.mv (t 8)), og 20 18 true (.mv (t 2)), og 21 18 true (.bin .leq (t 19) (t 20)), o 22 (.pick (t 18) (t 21) (kb false)), o 23 (.mv (t 9)), o 6 (.mv (t 22)), o 7 (.mv (t 23))])
 (.fz [6, 7] .ret))))
def q60_F : VFn := ⟨true, 24, [.t 6, .t 7], q60_c⟩
def q60_f (lo : Lo) : FnE := ⟨584, true, ⟨[0, 1, 2], [.s, .s, .i .i64], [], (cs [.s, .s, I])⟩, .tp [.b, .i .i64], [], (cs [.b, I]), (fun x => q60 lo x.1 x.2.1 x.2.2 : ByteArray × ByteArray × Int → Option (Bool × Int))⟩
theorem q60_e (lo : Lo) : ∀ x : ByteArray × ByteArray × Int, evP (⟨pf, fs60 lo, [], 0⟩ : Tabs) q60_F ⟨[0, 1, 2], [.s, .s, .i .i64], [], (cs [.s, .s, I])⟩ (.tp [.b, .i .i64]) (cs [.b, I]) x = q60 lo x.1 x.2.1 x.2.2 := fun x => by kernel_rfl
theorem q60_S {P : Program} {fm : FM} {lo : Lo} (hlo : LoOK lo) (hS : Sound P fm ⟨pf, fs60 lo, [], 0⟩) (hm : P.follows .mixedOrders = true) (htie : ∀ f, fm f = 584 → fnTr P fm pf f = some (q60_F.slots, q60_F.res, q60_F.code.er)) : Sound P fm ⟨pf, q60_f lo :: fs60 lo, [], 0⟩ :=
  fn_sound hS hm [] (q60_f lo) rfl q60_F htie (by decide) rfl (Nat.le_of_ble_eq_true (by kernel_rfl)) (fun C hT => show LsOK (fun _ => False) [] C (⟨pf, fs60 lo, [], 0⟩ : Tabs) q60_c from ⟨trivial, ⟨trivial, ⟨trivial, trivial⟩⟩⟩) (fun x y h => (q60_e lo x).trans h)
def fs61 (lo : Lo) : List FnE := q60_f lo :: fs60 lo
def q61_L20_b : VCode :=
 (.seq (.seq (.reg [o 11 (.mv (t 6)), o 12 (.mv (t 1)), o 13 (.lenS (t 12)), o 14 (.bin .leq (t 11) (t 13))])
 (.cond (t 14) .skip
 (.exit 0)))
 (.seq (.blk 1 (.reg [o 17 (.mv (t 5)), o 18 (.mv (t 6)), o 19 (.bsl (cs [I]) 1 [(0, (t 18))]), o 20 (.app (cs [I]) 0 (t 17) (t 19)), o 5 (.mv (t 20))]))
 (.reg [o 15 (.mv (t 6)), o 16 (.bin .add (t 15) (k 1)), o 6 (.mv (t 16))])))
def q61_L20_g : Sg := ⟨[0, 1, 5, 6], [.s, .s, .ref 0, .i .i64], [.sq (cs [I])], (cs [.s, .s, I, .l (cs [I])])⟩
def q61_L20_o : List Out1 := [⟨.exit 0, ⟨[0, 1, 5], [.s, .s, .ref 0], [.sq (cs [I])], (cs [.s, .s, .l (cs [I])])⟩⟩]
def q61_L20_s (lo : Lo) : ByteArray × ByteArray × Int × (List Int) → Option ((ByteArray × ByteArray × Int × (List Int)) ⊕ ((ByteArray × ByteArray × (List Int)))) := fun x => match x with
  | (a0, b1, k6, d5) => bif (decide (k6 ≤ (b1.size : Int))) then (chk (d5.length + [k6].length ≤ maxEl) (some (.inl (a0, b1, (IntKind.wrap .i64 (k6 + (1 : Int))), (d5 ++ [k6]))))) else (some (.inr (a0, b1, d5)))
theorem q61_L20_e (lo : Lo) : ∀ x : ByteArray × ByteArray × Int × (List Int), stepL (⟨pf, fs61 lo, [], 0⟩ : Tabs) [(5, none, false)] q61_L20_g q61_L20_o q61_L20_b x = q61_L20_s lo x := fun x => by kernel_rfl
def q61_L20 (lo : Lo) : ByteArray × ByteArray × Int × (List Int) → Option ((ByteArray × ByteArray × (List Int))) := lo.run (q61_L20_s lo)
def q61_L20_p (lo : Lo) : LpE := ⟨20, [(5, none, false)], q61_L20_g, q61_L20_o, q61_L20 lo⟩
theorem q61_L20_k {lo : Lo} (hlo : LoOK lo) (C : Ctx) (hT : TOK (⟨pf, fs61 lo, [], 0⟩ : Tabs) C) : LpSound (fun _ => False) [] 0 C (.loop q61_L20_b.er) (q61_L20_p lo) :=
  loop_sound (T := (⟨pf, fs61 lo, [], 0⟩ : Tabs)) hT frNo (show LsOK (fun _ => False) [] C (⟨pf, fs61 lo, [], 0⟩ : Tabs) q61_L20_b from ⟨⟨trivial, ⟨trivial, trivial⟩⟩, ⟨trivial, trivial⟩⟩) (fun x y h => loopO_congr (q61_L20_e lo) (hlo _ _ _ h))
def q61_J11_b : VCode :=
 (.reg [o 49 (.mv (t 8)), o 50 (.mv (t 10)), o 51 (.mv (t 5)), o 52 (.mv (t 9)), o 53 (.bin .add (t 52) (k 1)), o 54 (.iad 1 (t 51) (t 53)), o 55 (.load false 1 (t 54)), o 56 (.bin .add (t 55) (k 1)), o 57 (.mv (t 8)), o 58 (.mv (t 9)), o 59 (.iad 1 (t 57) (t 58)), o 60 (.load false 1 (t 59)), o 61 (.bin .add (t 60) (k 1)), o 62 (.mm false [(t 50), (t 56), (t 61)]), o 63 (.bsl (cs [I]) 1 [(0, (t 62))]), o 64 (.app (cs [I]) 0 (t 49) (t 63)), o 8 (.mv (t 64))])
def q61_J11_g : Sg := ⟨[0, 1, 5, 7, 8, 9, 10], [.s, .s, .ref 0, .i .i64, .ref 1, .i .i64, .i .i64], [.sq (cs [I]), .sq (cs [I])], (cs [.s, .s, I, I, I, .l (cs [I]), .l (cs [I])])⟩
def q61_J11_o : List Out1 := [⟨.nor, ⟨[0, 1, 5, 7, 8, 9], [.s, .s, .ref 0, .i .i64, .ref 1, .i .i64], [.sq (cs [I]), .sq (cs [I])], (cs [.s, .s, I, I, .l (cs [I]), .l (cs [I])])⟩⟩]
def q61_J11 (lo : Lo) : ByteArray × ByteArray × Int × Int × Int × (List Int) × (List Int) → Option ((ByteArray × ByteArray × Int × Int × (List Int) × (List Int))) := fun x => match x with
  | (a0, b1, i7, k9, n10, d5, next8) => chk (0 ≤ (IntKind.wrap .i64 (k9 + (1 : Int))) ∧ (IntKind.wrap .i64 (k9 + (1 : Int))) < (d5.length : Int)) (chk (0 ≤ k9 ∧ k9 < (next8.length : Int)) (chk (next8.length + ([(min (min n10 (IntKind.wrap .i64 ((d5.getD ((IntKind.wrap .i64 (k9 + (1 : Int))).toNat) (0 : Int)) + (1 : Int)))) (IntKind.wrap .i64 ((next8.getD k9.toNat (0 : Int)) + (1 : Int))))]).length ≤ maxEl) (some (a0, b1, i7, k9, d5, (next8 ++ ([(min (min n10 (IntKind.wrap .i64 ((d5.getD ((IntKind.wrap .i64 (k9 + (1 : Int))).toNat) (0 : Int)) + (1 : Int)))) (IntKind.wrap .i64 ((next8.getD k9.toNat (0 : Int)) + (1 : Int))))]))))))
theorem q61_J11_e (lo : Lo) : ∀ x : ByteArray × ByteArray × Int × Int × Int × (List Int) × (List Int), stepJ (⟨pf, fs61 lo, [q61_L20_p lo], 0⟩ : Tabs) q61_J11_g q61_J11_o q61_J11_b x = q61_J11 lo x := fun x => by kernel_rfl
def q61_J11_p (lo : Lo) : LpE := ⟨11, [], q61_J11_g, q61_J11_o, q61_J11 lo⟩
theorem q61_J11_k {lo : Lo} (hlo : LoOK lo) (C : Ctx) (hT : TOK (⟨pf, fs61 lo, [q61_L20_p lo], 0⟩ : Tabs) C) : LpSound (fun _ => False) [] 0 C q61_J11_b.er (q61_J11_p lo) :=
  jn_sound (T := (⟨pf, fs61 lo, [q61_L20_p lo], 0⟩ : Tabs)) hT frNo (show LsOK (fun _ => False) [] C (⟨pf, fs61 lo, [q61_L20_p lo], 0⟩ : Tabs) q61_J11_b from trivial) (fun x y h => (q61_J11_e lo x).trans h)
def q61_L6_b : VCode :=
 (.seq (.seq (.reg [o 30 (.mv (t 9)), o 31 (.mv (t 1)), o 32 (.lenS (t 31)), o 33 (.bin .lss (t 30) (t 32))])
 (.cond (t 33) .skip
 (.exit 4)))
 (.seq (.blk 5 (.seq (.reg [o 36 (.mv (t 5)), o 37 (.mv (t 9)), o 38 (.iad 1 (t 36) (t 37)), o 39 (.load false 1 (t 38)), o 10 (.mv (t 39))])
 (.seq (.seq (.reg [o 40 (.mv (t 0)), o 41 (.mv (t 7)), o 42 (.idx (t 40) (t 41)), o 43 (.mv (t 1)), o 44 (.mv (t 9)), o 45 (.idx (t 43) (t 44)), o 46 (.bin .neq (t 42) (t 45))])
 (.cond (t 46) (.reg [o 47 (.mv (t 10)), o 48 (.bin .add (t 47) (k 1)), o 10 (.mv (t 48))])
 .skip))
 (.jn 11 q61_J11_b))))
 (.reg [o 34 (.mv (t 9)), o 35 (.bin .add (t 34) (k 1)), o 9 (.mv (t 35))])))
def q61_L6_g : Sg := ⟨[0, 1, 5, 7, 8, 9], [.s, .s, .ref 0, .i .i64, .ref 1, .i .i64], [.sq (cs [I]), .sq (cs [I])], (cs [.s, .s, I, I, .l (cs [I]), .l (cs [I])])⟩
def q61_L6_o : List Out1 := [⟨.exit 4, ⟨[0, 1, 7, 8], [.s, .s, .i .i64, .ref 0], [.sq (cs [I])], (cs [.s, .s, I, .l (cs [I])])⟩⟩]
def q61_L6_s (lo : Lo) : ByteArray × ByteArray × Int × Int × (List Int) × (List Int) → Option ((ByteArray × ByteArray × Int × Int × (List Int) × (List Int)) ⊕ ((ByteArray × ByteArray × Int × (List Int)))) := fun x => match x with
  | (a0, b1, i7, k9, d5, next8) => bif (decide (k9 < (b1.size : Int))) then (chk (0 ≤ k9 ∧ k9 < (d5.length : Int)) (chk (0 ≤ i7 ∧ i7 < (a0.size : Int)) (chk (0 ≤ k9 ∧ k9 < (b1.size : Int)) (bif (!decide ((byteI a0 i7) = (byteI b1 k9))) then (Option.bind (q61_J11 lo (a0, b1, i7, k9, (IntKind.wrap .i64 ((d5.getD k9.toNat (0 : Int)) + (1 : Int))), d5, next8)) fun y241 => some (.inl (y241.1, y241.2.1, y241.2.2.1, (IntKind.wrap .i64 (y241.2.2.2.1 + (1 : Int))), y241.2.2.2.2.1, y241.2.2.2.2.2))) else (Option.bind (q61_J11 lo (a0, b1, i7, k9, d5.getD k9.toNat (0 : Int), d5, next8)) fun y242 => some (.inl (y242.1, y242.2.1, y242.2.2.1, (IntKind.wrap .i64 (y242.2.2.2.1 + (1 : Int))), y242.2.2.2.2.1, y242.2.2.2.2.2))))))) else (some (.inr (a0, b1, i7, next8)))
theorem q61_L6_e (lo : Lo) : ∀ x : ByteArray × ByteArray × Int × Int × (List Int) × (List Int), stepL (⟨pf, fs61 lo, [q61_J11_p lo, q61_L20_p lo], 0⟩ : Tabs) [] q61_L6_g q61_L6_o q61_L6_b x = q61_L6_s lo x := fun x => by kernel_rfl
def q61_L6 (lo : Lo) : ByteArray × ByteArray × Int × Int × (List Int) × (List Int) → Option ((ByteArray × ByteArray × Int × (List Int))) := lo.run (q61_L6_s lo)
def q61_L6_p (lo : Lo) : LpE := ⟨6, [], q61_L6_g, q61_L6_o, q61_L6 lo⟩
theorem q61_L6_k {lo : Lo} (hlo : LoOK lo) (C : Ctx) (hT : TOK (⟨pf, fs61 lo, [q61_J11_p lo, q61_L20_p lo], 0⟩ : Tabs) C) : LpSound (fun _ => False) [] 0 C (.loop q61_L6_b.er) (q61_L6_p lo) :=
  loop_sound (T := (⟨pf, fs61 lo, [q61_J11_p lo, q61_L20_p lo], 0⟩ : Tabs)) hT frNo (show LsOK (fun _ => False) [] C (⟨pf, fs61 lo, [q61_J11_p lo, q61_L20_p lo], 0⟩ : Tabs) q61_L6_b from ⟨⟨trivial, ⟨trivial, trivial⟩⟩, ⟨⟨trivial, ⟨⟨trivial, ⟨trivial, trivial⟩⟩, (lsGet (by kernel_rfl) (q61_J11_k hlo C (tok_ls hT)))⟩⟩, trivial⟩⟩) (fun x y h => loopO_congr (q61_L6_e lo) (hlo _ _ _ h))
def q61_L3_b : VCode :=
 (.seq (.seq (.reg [o 21 (.mv (t 7)), o 22 (.mv (t 0)), o 23 (.lenS (t 22)), o 24 (.bin .lss (t 21) (t 23))])
 (.cond (t 24) .skip
 (.exit 2)))
 (.seq (.blk 3 (.seq (.reg [o 27 (.mv (t 7)), o 28 (.bin .add (t 27) (k 1)), o 29 (.lit (cs [I]) [(t 28)]), o 8 (.mv (t 29))])
 (.seq (.seq (.reg [o 9 (.mv (k 0))])
 (.blk 4 (.loop 6 q61_L6_b)))
 (.reg [o 65 (.mv (t 8)), o 5 (.mv (t 65))]))))
 (.reg [o 25 (.mv (t 7)), o 26 (.bin .add (t 25) (k 1)), o 7 (.mv (t 26))])))
def q61_L3_g : Sg := ⟨[0, 1, 5, 7], [.s, .s, .ref 0, .i .i64], [.sq (cs [I])], (cs [.s, .s, I, .l (cs [I])])⟩
def q61_L3_o : List Out1 := [⟨.exit 2, ⟨[1, 5], [.s, .ref 0], [.sq (cs [I])], (cs [.s, .l (cs [I])])⟩⟩]
def q61_L3_s (lo : Lo) : ByteArray × ByteArray × Int × (List Int) → Option ((ByteArray × ByteArray × Int × (List Int)) ⊕ ((ByteArray × (List Int)))) := fun x => match x with
  | (a0, b1, i7, d5) => bif (decide (i7 < (a0.size : Int))) then (Option.bind (q61_L6 lo (a0, b1, i7, (0 : Int), d5, [(IntKind.wrap .i64 (i7 + (1 : Int)))])) fun y243 => some (.inl (y243.1, y243.2.1, (IntKind.wrap .i64 (y243.2.2.1 + (1 : Int))), y243.2.2.2))) else (some (.inr (b1, d5)))
theorem q61_L3_e (lo : Lo) : ∀ x : ByteArray × ByteArray × Int × (List Int), stepL (⟨pf, fs61 lo, [q61_L6_p lo, q61_J11_p lo, q61_L20_p lo], 0⟩ : Tabs) [] q61_L3_g q61_L3_o q61_L3_b x = q61_L3_s lo x := fun x => by kernel_rfl
def q61_L3 (lo : Lo) : ByteArray × ByteArray × Int × (List Int) → Option ((ByteArray × (List Int))) := lo.run (q61_L3_s lo)
def q61_L3_p (lo : Lo) : LpE := ⟨3, [], q61_L3_g, q61_L3_o, q61_L3 lo⟩
theorem q61_L3_k {lo : Lo} (hlo : LoOK lo) (C : Ctx) (hT : TOK (⟨pf, fs61 lo, [q61_L6_p lo, q61_J11_p lo, q61_L20_p lo], 0⟩ : Tabs) C) : LpSound (fun _ => False) [] 0 C (.loop q61_L3_b.er) (q61_L3_p lo) :=
  loop_sound (T := (⟨pf, fs61 lo, [q61_L6_p lo, q61_J11_p lo, q61_L20_p lo], 0⟩ : Tabs)) hT frNo (show LsOK (fun _ => False) [] C (⟨pf, fs61 lo, [q61_L6_p lo, q61_J11_p lo, q61_L20_p lo], 0⟩ : Tabs) q61_L3_b from ⟨⟨trivial, ⟨trivial, trivial⟩⟩, ⟨⟨trivial, ⟨⟨trivial, (lsGet (by kernel_rfl) (q61_L6_k hlo C (tok_ls hT)))⟩, trivial⟩⟩, trivial⟩⟩) (fun x y h => loopO_congr (q61_L3_e lo) (hlo _ _ _ h))
def q61 (lo : Lo) (a0 : ByteArray) (b1 : ByteArray) : Option Int :=
  Option.bind (q61_L20 lo (a0, b1, (0 : Int), [])) fun y240 => Option.bind (q61_L3 lo (y240.1, y240.2.1, (0 : Int), y240.2.2)) fun y244 => chk (0 ≤ (y244.1.size : Int) ∧ (y244.1.size : Int) < (y244.2.length : Int)) (some (y244.2.getD ((y244.1.size : Int).toNat) (0 : Int)))
def q61_c : VCode :=
 (.seq (.reg [o 4 (.mv (k 0))])
 (.seq (.reg [o 5 (.mv (ke (cs [I])))])
 (.seq (.seq (.reg [o 6 (.mv (k 0))])
 (.blk 0 (.loop 20 q61_L20_b)))
 (.seq (.seq (.reg [o 7 (.mv (k 0))])
 (.blk 2 (.loop 3 q61_L3_b)))
 (.seq (.reg [o 66 (.mv (t 5)), o 67 (.mv (t 1)), o 68 (.lenS (t 67)), o 69 (.iad 1 (t 66) (t 68)), o 70 (.load false 1 (t 69)), o 4 (.mv (t 70))])
 (.fz [4] .ret))))))
def q61_F : VFn := ⟨true, 71, [.t 4], q61_c⟩
def q61_f (lo : Lo) : FnE := ⟨585, true, ⟨[0, 1], [.s, .s], [], (cs [.s, .s])⟩, .i .i64, [], (cs [I]), (fun x => q61 lo x.1 x.2 : ByteArray × ByteArray → Option Int)⟩
theorem q61_e (lo : Lo) : ∀ x : ByteArray × ByteArray, evP (⟨pf, fs61 lo, [q61_L3_p lo, q61_L6_p lo, q61_J11_p lo, q61_L20_p lo], 0⟩ : Tabs) q61_F ⟨[0, 1], [.s, .s], [], (cs [.s, .s])⟩ (.i .i64) (cs [I]) x = q61 lo x.1 x.2 := fun x => by kernel_rfl
theorem q61_S {P : Program} {fm : FM} {lo : Lo} (hlo : LoOK lo) (hS : Sound P fm ⟨pf, fs61 lo, [], 0⟩) (hm : P.follows .mixedOrders = true) (htie : ∀ f, fm f = 585 → fnTr P fm pf f = some (q61_F.slots, q61_F.res, q61_F.code.er)) : Sound P fm ⟨pf, q61_f lo :: fs61 lo, [], 0⟩ :=
  fn_sound hS hm [q61_L3_p lo, q61_L6_p lo, q61_J11_p lo, q61_L20_p lo] (q61_f lo) rfl q61_F htie (by decide) rfl (Nat.le_of_ble_eq_true (by kernel_rfl)) (fun C hT => show LsOK (fun _ => False) [] C (⟨pf, fs61 lo, [q61_L3_p lo, q61_L6_p lo, q61_J11_p lo, q61_L20_p lo], 0⟩ : Tabs) q61_c from ⟨trivial, ⟨trivial, ⟨⟨trivial, (lsGet (by kernel_rfl) (q61_L20_k hlo C (tok_ls hT)))⟩, ⟨⟨trivial, (lsGet (by kernel_rfl) (q61_L3_k hlo C (tok_ls hT)))⟩, ⟨trivial, trivial⟩⟩⟩⟩⟩) (fun x y h => (q61_e lo x).trans h)
def fs62 (lo : Lo) : List FnE := q61_f lo :: fs61 lo
def fs63 (lo : Lo) : List FnE := fs62 lo
end Go.Abs.G52
namespace Go.Abs.G52
open Go Go.Abs
set_option maxRecDepth 100000
set_option linter.unusedVariables false
set_option maxHeartbeats 1000000
def fs64 (lo : Lo) : List FnE := fs63 lo
def fs65 (lo : Lo) : List FnE := fs64 lo
def q65 (lo : Lo) (v0_0 : Int) (v0_1 : Int) (v0_2 : ByteArray) : Option Bool :=
  bif (decide (v0_0 = (0 : Int))) then (bif (decide (v0_1 = (0 : Int))) then (some (decide (v0_2 = (ByteArray.mk #[])))) else (some false)) else (bif (decide (v0_0 = (1 : Int))) then (some (decide (v0_2 = (ByteArray.mk #[])))) else (bif (decide (v0_0 = (2 : Int))) then (bif (decide (v0_1 = (0 : Int))) then (some (decide ((v0_2.size : Int) ≤ (200 : Int)))) else (some false)) else (bif (decide (v0_0 = (3 : Int))) then (bif (decide ((1 : Int) ≤ v0_1)) then (some (decide (v0_2 = (ByteArray.mk #[])))) else (some false)) else (some false))))
def q65_c : VCode :=
 (.seq (.reg [o 1 (.box (t 0)), o 2 (.mv (kb false))])
 (.seq (.seq (.reg [o 3 (.fad 0 (t 1)), o 4 (.load false 1 (t 3))])
 (.blk 0 (.seq (.reg [o 6 (.bin .eql (t 4) (k 0)), o 5 (.mv (t 6))])
 (.cond (t 5) (.seq (.reg [o 7 (.fad 1 (t 1)), o 8 (.load false 1 (t 7)), o 9 (.bin .eql (t 8) (k 0)), o 10 (.mv (t 9)), og 11 10 true (.fad 2 (t 1)), og 12 10 true (.load false 1 (t 11)), og 13 10 true (.bin .eql (t 12) (ks (⟨#[]⟩))), o 14 (.pick (t 10) (t 13) (kb false)), o 2 (.mv (t 14))])
 (.fz [2] .ret))
 (.seq (.reg [o 16 (.bin .eql (t 4) (k 1)), o 15 (.mv (t 16))])
 (.cond (t 15) (.seq (.reg [o 17 (.fad 2 (t 1)), o 18 (.load false 1 (t 17)), o 19 (.bin .eql (t 18) (ks (⟨#[]⟩))), o 2 (.mv (t 19))])
 (.fz [2] .ret))
 (.seq (.reg [o 21 (.bin .eql (t 4) (k 2)), o 20 (.mv (t 21))])
 (.cond (t 20) (.seq (.reg [o 22 (.fad 1 (t 1)), o 23 (.load false 1 (t 22)), o 24 (.bin .eql (t 23) (k 0)), o 25 (.mv (t 24)), og 26 25 true (.fad 2 (t 1)), og 27 25 true (.load false 1 (t 26)), og 28 25 true (.lenS (t 27)), og 29 25 true (.bin .leq (t 28) (k 200)), o 30 (.pick (t 25) (t 29) (kb false)), o 2 (.mv (t 30))])
 (.fz [2] .ret))
 (.seq (.reg [o 32 (.bin .eql (t 4) (k 3)), o 31 (.mv (t 32))])
 (.cond (t 31) (.seq (.reg [o 33 (.fad 1 (t 1)), o 34 (.load false 1 (t 33)), o 35 (.bin .geq (t 34) (k 1)), o 36 (.mv (t 35)), og 37 36 true (.fad 2 (t 1)), og 38 36 true (.load false 1 (t 37)), og 39 36 true (.bin .eql (t 38) (ks (⟨#[]⟩))), o 40 (.pick (t 36) (t 39) (kb false)), o 2 (.mv (t 40))])
 (.fz [2] .ret))
 .skip))))))))))
 (.seq (.reg [o 2 (.mv (kb false))])
 (.fz [2] .ret))))
def q65_F : VFn := ⟨true, 41, [.t 2], q65_c⟩
def q65_f (lo : Lo) : FnE := ⟨283, true, ⟨[0], [.ag [.i .i64, .i .i64, .s]], [], (cs [I, I, .s])⟩, .b, [], (cs [.b]), (fun x => q65 lo x.1 x.2.1 x.2.2 : Int × Int × ByteArray → Option Bool)⟩
theorem q65_e (lo : Lo) : ∀ x : Int × Int × ByteArray, evP (⟨pf, fs65 lo, [], 0⟩ : Tabs) q65_F ⟨[0], [.ag [.i .i64, .i .i64, .s]], [], (cs [I, I, .s])⟩ (.b) (cs [.b]) x = q65 lo x.1 x.2.1 x.2.2 := fun x => by kernel_rfl
theorem q65_S {P : Program} {fm : FM} {lo : Lo} (hlo : LoOK lo) (hS : Sound P fm ⟨pf, fs65 lo, [], 0⟩) (hm : P.follows .mixedOrders = true) (htie : ∀ f, fm f = 283 → fnTr P fm pf f = some (q65_F.slots, q65_F.res, q65_F.code.er)) : Sound P fm ⟨pf, q65_f lo :: fs65 lo, [], 0⟩ :=
  fn_sound hS hm [] (q65_f lo) rfl q65_F htie (by decide) rfl (Nat.le_of_ble_eq_true (by kernel_rfl)) (fun C hT => show LsOK (fun _ => False) [] C (⟨pf, fs65 lo, [], 0⟩ : Tabs) q65_c from ⟨trivial, ⟨⟨trivial, ⟨trivial, ⟨⟨trivial, trivial⟩, ⟨trivial, ⟨⟨trivial, trivial⟩, ⟨trivial, ⟨⟨trivial, trivial⟩, ⟨trivial, ⟨⟨trivial, trivial⟩, trivial⟩⟩⟩⟩⟩⟩⟩⟩⟩, ⟨trivial, trivial⟩⟩⟩) (fun x y h => (q65_e lo x).trans h)
def fs66 (lo : Lo) : List FnE := q65_f lo :: fs65 lo
def q66_J12_b : VCode :=
 (.cond (t 10) (.seq (.reg [o 13 (.fad 2 (t 1)), o 14 (.load false 1 (t 13)), o 15 (.bin .geq (t 14) (k 0)), o 16 (.mv (t 15)), og 17 16 true (.fad 2 (t 1)), og 18 16 true (.load false 1 (t 17)), og 19 16 true (.bin .leq (t 18) (k 200)), o 20 (.pick (t 16) (t 19) (kb false)), o 2 (.mv (t 20))])
 (.fz [2] .ret))
 (.seq (.reg [o 22 (.bin .eql (t 4) (k 3)), o 21 (.mv (t 22))])
 (.cond (t 21) (.seq (.reg [o 23 (.fad 2 (t 1)), o 24 (.load false 1 (t 23)), o 25 (.bin .geq (t 24) (k 0)), o 26 (.mv (t 25)), og 27 26 true (.fad 2 (t 1)), og 28 26 true (.load false 1 (t 27)), og 29 26 true (.bin .leq (t 28) (k 100)), o 30 (.pick (t 26) (t 29) (kb false)), o 2 (.mv (t 30))])
 (.fz [2] .ret))
 .skip)))
def q66_J12_g : Sg := ⟨[1, 4, 10], [.ptr 0 0 0, .i .i64, .b], [.st [.i .i64, .i .i64, .i .i64]], (cs [I, .b, I, I, I])⟩
def q66_J12_o : List Out1 := [⟨.ret, ⟨[2], [.b], [], (cs [.b])⟩⟩, ⟨.nor, ⟨[], [], [], (cs [])⟩⟩]
def q66_J12 (lo : Lo) : Int × Bool × Int × Int × Int → Option (Bool ⊕ Unit) := fun x => match x with
  | (v4, v10, c1_0, c1_1, c1_2) => bif v10 then (bif (decide ((0 : Int) ≤ c1_2)) then (some (.inl (decide (c1_2 ≤ (200 : Int))))) else (some (.inl false))) else (bif (decide (v4 = (3 : Int))) then (bif (decide ((0 : Int) ≤ c1_2)) then (some (.inl (decide (c1_2 ≤ (100 : Int))))) else (some (.inl false))) else (some (.inr ())))
theorem q66_J12_e (lo : Lo) : ∀ x : Int × Bool × Int × Int × Int, stepJ (⟨pf, fs66 lo, [], 0⟩ : Tabs) q66_J12_g q66_J12_o q66_J12_b x = q66_J12 lo x := fun x => by kernel_rfl
def q66_J12_p (lo : Lo) : LpE := ⟨12, [], q66_J12_g, q66_J12_o, q66_J12 lo⟩
theorem q66_J12_k {lo : Lo} (hlo : LoOK lo) (C : Ctx) (hT : TOK (⟨pf, fs66 lo, [], 0⟩ : Tabs) C) : LpSound (fun _ => False) [] 0 C q66_J12_b.er (q66_J12_p lo) :=
  jn_sound (T := (⟨pf, fs66 lo, [], 0⟩ : Tabs)) hT frNo (show LsOK (fun _ => False) [] C (⟨pf, fs66 lo, [], 0⟩ : Tabs) q66_J12_b from ⟨⟨trivial, trivial⟩, ⟨trivial, ⟨⟨trivial, trivial⟩, trivial⟩⟩⟩) (fun x y h => (q66_J12_e lo x).trans h)
def q66 (lo : Lo) (c0_0 : Int) (c0_1 : Int) (c0_2 : Int) : Option Bool :=
  bif (decide (c0_1 = (1 : Int))) then (some (decide (c0_2 = (0 : Int)))) else (bif (decide (c0_1 = (2 : Int))) then (Option.bind (q66_J12 lo (c0_1, true, c0_0, c0_1, c0_2)) fun y290 => alt2 y290 (fun y291 => some y291) (fun y292 => some false)) else (Option.bind (q66_J12 lo (c0_1, (decide (c0_1 = (4 : Int))), c0_0, c0_1, c0_2)) fun y293 => alt2 y293 (fun y294 => some y294) (fun y295 => some false)))
def q66_c : VCode :=
 (.seq (.reg [o 1 (.box (t 0)), o 2 (.mv (kb false))])
 (.seq (.seq (.reg [o 3 (.fad 1 (t 1)), o 4 (.load false 1 (t 3))])
 (.blk 0 (.seq (.reg [o 6 (.bin .eql (t 4) (k 1)), o 5 (.mv (t 6))])
 (.cond (t 5) (.seq (.reg [o 7 (.fad 2 (t 1)), o 8 (.load false 1 (t 7)), o 9 (.bin .eql (t 8) (k 0)), o 2 (.mv (t 9))])
 (.fz [2] .ret))
 (.seq (.seq (.reg [o 11 (.bin .eql (t 4) (k 2)), o 10 (.mv (t 11))])
 (.cond (t 10) .skip
 (.reg [o 12 (.bin .eql (t 4) (k 4)), o 10 (.mv (t 12))])))
 (.jn 12 q66_J12_b))))))
 (.seq (.reg [o 2 (.mv (kb false))])
 (.fz [2] .ret))))
def q66_F : VFn := ⟨true, 31, [.t 2], q66_c⟩
def q66_f (lo : Lo) : FnE := ⟨597, true, ⟨[0], [.ag [.i .i64, .i .i64, .i .i64]], [], (cs [I, I, I])⟩, .b, [], (cs [.b]), (fun x => q66 lo x.1 x.2.1 x.2.2 : Int × Int × Int → Option Bool)⟩
theorem q66_e (lo : Lo) : ∀ x : Int × Int × Int, evP (⟨pf, fs66 lo, [q66_J12_p lo], 0⟩ : Tabs) q66_F ⟨[0], [.ag [.i .i64, .i .i64, .i .i64]], [], (cs [I, I, I])⟩ (.b) (cs [.b]) x = q66 lo x.1 x.2.1 x.2.2 := fun x => by kernel_rfl
theorem q66_S {P : Program} {fm : FM} {lo : Lo} (hlo : LoOK lo) (hS : Sound P fm ⟨pf, fs66 lo, [], 0⟩) (hm : P.follows .mixedOrders = true) (htie : ∀ f, fm f = 597 → fnTr P fm pf f = some (q66_F.slots, q66_F.res, q66_F.code.er)) : Sound P fm ⟨pf, q66_f lo :: fs66 lo, [], 0⟩ :=
  fn_sound hS hm [q66_J12_p lo] (q66_f lo) rfl q66_F htie (by decide) rfl (Nat.le_of_ble_eq_true (by kernel_rfl)) (fun C hT => show LsOK (fun _ => False) [] C (⟨pf, fs66 lo, [q66_J12_p lo], 0⟩ : Tabs) q66_c from ⟨trivial, ⟨⟨trivial, ⟨trivial, ⟨⟨trivial, trivial⟩, ⟨⟨trivial, ⟨trivial, trivial⟩⟩, (lsGet (by kernel_rfl) (q66_J12_k hlo C (tok_ls hT)))⟩⟩⟩⟩, ⟨trivial, trivial⟩⟩⟩) (fun x y h => (q66_e lo x).trans h)
def fs67 (lo : Lo) : List FnE := q66_f lo :: fs66 lo
end Go.Abs.G52
namespace Go.Abs.G52
open Go Go.Abs
set_option maxRecDepth 100000
set_option linter.unusedVariables false
set_option maxHeartbeats 1000000
def q67 (lo : Lo) (x0_0 : Int) (x0_1 : List (Int × Int × ByteArray)) (y1_0 : Int) (y1_1 : List (Int × Int × ByteArray)) (c2_0 : Int) (c2_1 : Int) (c2_2 : Int) : Option (Bool × Int) :=
  bif (decide (c2_0 < (0 : Int))) then (some (false, (6 : Int))) else (bif (decide ((x0_1.length : Int) ≤ c2_0)) then (some (false, (6 : Int))) else (bif (decide ((y1_1.length : Int) ≤ c2_0)) then (some (false, (6 : Int))) else (chk (0 ≤ c2_0 ∧ c2_0 < (x0_1.length : Int)) (chk (0 ≤ c2_0 ∧ c2_0 < (y1_1.length : Int)) (Option.bind (q65 lo ((x0_1.getD c2_0.toNat ((0 : Int), (0 : Int), (ByteArray.mk #[]))).1) ((x0_1.getD c2_0.toNat ((0 : Int), (0 : Int), (ByteArray.mk #[]))).2.1) ((x0_1.getD c2_0.toNat ((0 : Int), (0 : Int), (ByteArray.mk #[]))).2.2)) fun y288 => bif (!y288) then (some (false, (1 : Int))) else (Option.bind (q65 lo ((y1_1.getD c2_0.toNat ((0 : Int), (0 : Int), (ByteArray.mk #[]))).1) ((y1_1.getD c2_0.toNat ((0 : Int), (0 : Int), (ByteArray.mk #[]))).2.1) ((y1_1.getD c2_0.toNat ((0 : Int), (0 : Int), (ByteArray.mk #[]))).2.2)) fun y289 => bif (!y289) then (some (false, (1 : Int))) else (Option.bind (q66 lo c2_0 c2_1 c2_2) fun y296 => bif (!y296) then (some (false, (1 : Int))) else (bif (!decide ((x0_1.getD c2_0.toNat ((0 : Int), (0 : Int), (ByteArray.mk #[]))).1 = (2 : Int))) then (some (((decide ((x0_1.getD c2_0.toNat ((0 : Int), (0 : Int), (ByteArray.mk #[]))).1 = (y1_1.getD c2_0.toNat ((0 : Int), (0 : Int), (ByteArray.mk #[]))).1)) && ((decide ((x0_1.getD c2_0.toNat ((0 : Int), (0 : Int), (ByteArray.mk #[]))).2.1 = (y1_1.getD c2_0.toNat ((0 : Int), (0 : Int), (ByteArray.mk #[]))).2.1)) && ((decide ((x0_1.getD c2_0.toNat ((0 : Int), (0 : Int), (ByteArray.mk #[]))).2.2 = (y1_1.getD c2_0.toNat ((0 : Int), (0 : Int), (ByteArray.mk #[]))).2.2)) && true))), (0 : Int))) else (bif (!decide ((y1_1.getD c2_0.toNat ((0 : Int), (0 : Int), (ByteArray.mk #[]))).1 = (2 : Int))) then (some (((decide ((x0_1.getD c2_0.toNat ((0 : Int), (0 : Int), (ByteArray.mk #[]))).1 = (y1_1.getD c2_0.toNat ((0 : Int), (0 : Int), (ByteArray.mk #[]))).1)) && ((decide ((x0_1.getD c2_0.toNat ((0 : Int), (0 : Int), (ByteArray.mk #[]))).2.1 = (y1_1.getD c2_0.toNat ((0 : Int), (0 : Int), (ByteArray.mk #[]))).2.1)) && ((decide ((x0_1.getD c2_0.toNat ((0 : Int), (0 : Int), (ByteArray.mk #[]))).2.2 = (y1_1.getD c2_0.toNat ((0 : Int), (0 : Int), (ByteArray.mk #[]))).2.2)) && true))), (0 : Int))) else (bif (decide (c2_1 = (2 : Int))) then (Option.bind (q60 lo ((x0_1.getD c2_0.toNat ((0 : Int), (0 : Int), (ByteArray.mk #[]))).2.2) ((y1_1.getD c2_0.toNat ((0 : Int), (0 : Int), (ByteArray.mk #[]))).2.2) c2_2) fun y297 => some (y297.1, y297.2)) else (bif (decide (c2_1 = (3 : Int))) then (Option.bind (q29 lo ((x0_1.getD c2_0.toNat ((0 : Int), (0 : Int), (ByteArray.mk #[]))).2.2) ((y1_1.getD c2_0.toNat ((0 : Int), (0 : Int), (ByteArray.mk #[]))).2.2) (2 : Int)) fun y298 => bif (decide (y298.2.2 = (0 : Int))) then (some ((decide ((IntKind.wrap .i64 (c2_2 * y298.2.1)) ≤ (IntKind.wrap .i64 ((100 : Int) * y298.1)))), y298.2.2)) else (some (false, y298.2.2))) else (bif (decide (c2_1 = (4 : Int))) then (chk (0 ≤ (0 : Int) ∧ (0 : Int) ≤ (min c2_2 (((x0_1.getD c2_0.toNat ((0 : Int), (0 : Int), (ByteArray.mk #[]))).2.2).size : Int)) ∧ (min c2_2 (((x0_1.getD c2_0.toNat ((0 : Int), (0 : Int), (ByteArray.mk #[]))).2.2).size : Int)) ≤ (((x0_1.getD c2_0.toNat ((0 : Int), (0 : Int), (ByteArray.mk #[]))).2.2).size : Int)) (chk (0 ≤ (0 : Int) ∧ (0 : Int) ≤ (min c2_2 (((y1_1.getD c2_0.toNat ((0 : Int), (0 : Int), (ByteArray.mk #[]))).2.2).size : Int)) ∧ (min c2_2 (((y1_1.getD c2_0.toNat ((0 : Int), (0 : Int), (ByteArray.mk #[]))).2.2).size : Int)) ≤ (((y1_1.getD c2_0.toNat ((0 : Int), (0 : Int), (ByteArray.mk #[]))).2.2).size : Int)) (some ((decide ((((x0_1.getD c2_0.toNat ((0 : Int), (0 : Int), (ByteArray.mk #[]))).2.2).extract 0 (min c2_2 (((x0_1.getD c2_0.toNat ((0 : Int), (0 : Int), (ByteArray.mk #[]))).2.2).size : Int)).toNat) = (((y1_1.getD c2_0.toNat ((0 : Int), (0 : Int), (ByteArray.mk #[]))).2.2).extract 0 (min c2_2 (((y1_1.getD c2_0.toNat ((0 : Int), (0 : Int), (ByteArray.mk #[]))).2.2).size : Int)).toNat))), (0 : Int))))) else (some ((decide ((x0_1.getD c2_0.toNat ((0 : Int), (0 : Int), (ByteArray.mk #[]))).2.2 = (y1_1.getD c2_0.toNat ((0 : Int), (0 : Int), (ByteArray.mk #[]))).2.2)), (0 : Int)))))))))))))))
def q67_c : VCode :=
 (.seq (.reg [o 3 (.box (t 0)), o 4 (.box (t 1)), o 5 (.box (t 2)), o 6 (.mv (kb false)), o 7 (.mv (k 0))])
 (.seq (.seq (.reg [o 15 (.fad 0 (t 5)), o 16 (.load false 1 (t 15)), o 17 (.bin .lss (t 16) (k 0)), o 18 (.mv (t 17)), og 19 18 false (.fad 0 (t 5)), og 20 18 false (.load false 1 (t 19)), og 21 18 false (.fad 1 (t 3)), og 22 18 false (.load false 1 (t 21)), og 23 18 false (.len (t 22)), og 24 18 false (.bin .geq (t 20) (t 23)), o 25 (.pick (t 18) (kb true) (t 24)), o 26 (.mv (t 25)), og 27 26 false (.fad 0 (t 5)), og 28 26 false (.load false 1 (t 27)), og 29 26 false (.fad 1 (t 4)), og 30 26 false (.load false 1 (t 29)), og 31 26 false (.len (t 30)), og 32 26 false (.bin .geq (t 28) (t 31)), o 33 (.pick (t 26) (kb true) (t 32))])
 (.cond (t 33) (.seq (.reg [o 6 (.mv (kb false)), o 7 (.mv (k 6))])
 (.fz [6, 7] .ret))
 .skip))
 (.seq (.reg [o 34 (.fad 1 (t 3)), ⟨some 35, .load false 1 (t 34), none, true, false⟩, o 36 (.fad 0 (t 5)), ⟨some 37, .load false 1 (t 36), none, true, false⟩, ⟨some 38, .iad 3 (t 35) (t 37), none, true, false⟩, ⟨some 39, .load true 3 (t 38), none, true, false⟩, o 40 (.fad 1 (t 4)), ⟨some 41, .load false 1 (t 40), none, true, false⟩, o 42 (.fad 0 (t 5)), ⟨some 43, .load false 1 (t 42), none, true, false⟩, ⟨some 44, .iad 3 (t 41) (t 43), none, true, false⟩, ⟨some 45, .load true 3 (t 44), none, true, false⟩, o 8 (.alloc [.i .i64 0, .i .i64 0, .s (⟨#[]⟩)]), o 9 (.alloc [.i .i64 0, .i .i64 0, .s (⟨#[]⟩)]), ⟨none, .store 3 (t 8) (t 39), none, false, true⟩, on (.store 3 (t 9) (t 45))])
 (.seq (.seq (.reg [o 46 (.load true 3 (t 8)), o 47 (.call 283 [(t 46)]), o 48 (.not (t 47)), o 49 (.mv (t 48)), og 50 49 false (.load true 3 (t 9)), og 51 49 false (.call 283 [(t 50)]), og 52 49 false (.not (t 51)), o 53 (.pick (t 49) (kb true) (t 52)), o 54 (.mv (t 53)), og 55 54 false (.load true 3 (t 5)), og 56 54 false (.call 597 [(t 55)]), og 57 54 false (.not (t 56)), o 58 (.pick (t 54) (kb true) (t 57))])
 (.cond (t 58) (.seq (.reg [o 6 (.mv (kb false)), o 7 (.mv (k 1))])
 (.fz [6, 7] .ret))
 .skip))
 (.seq (.seq (.reg [o 59 (.fad 0 (t 8)), o 60 (.load false 1 (t 59)), o 61 (.bin .neq (t 60) (k 2)), o 62 (.mv (t 61)), og 63 62 false (.fad 0 (t 9)), og 64 62 false (.load false 1 (t 63)), og 65 62 false (.bin .neq (t 64) (k 2)), o 66 (.pick (t 62) (kb true) (t 65))])
 (.cond (t 66) (.seq (.reg [o 67 (.load true 3 (t 8)), o 68 (.load true 3 (t 9)), o 69 (.eqa false [1, 1, 2] (t 67) (t 68)), o 6 (.mv (t 69)), o 7 (.mv (k 0))])
 (.fz [6, 7] .ret))
 .skip))
 (.seq (.reg [o 70 (.fad 2 (t 8)), o 71 (.load false 1 (t 70)), o 72 (.fad 2 (t 9)), o 73 (.load false 1 (t 72)), o 10 (.mv (t 71)), o 11 (.mv (t 73))])
 (.seq (.seq (.reg [o 74 (.fad 1 (t 5)), o 75 (.load false 1 (t 74))])
 (.blk 0 (.seq (.reg [o 77 (.bin .eql (t 75) (k 2)), o 76 (.mv (t 77))])
 (.cond (t 76) (.seq (.reg [o 78 (.mv (t 10)), o 79 (.mv (t 11)), o 80 (.fad 2 (t 5)), o 81 (.load false 1 (t 80)), o 82 (.call 584 [(t 78), (t 79), (t 81)]), o 83 (.ext (t 82) 0), o 84 (.ext (t 82) 1), o 6 (.mv (t 83)), o 7 (.mv (t 84))])
 (.fz [6, 7] .ret))
 (.seq (.reg [o 86 (.bin .eql (t 75) (k 3)), o 85 (.mv (t 86))])
 (.cond (t 85) (.seq (.reg [o 88 (.mv (t 10)), o 89 (.mv (t 11)), o 90 (.call 577 [(t 88), (t 89), (k 2)]), o 87 (.mv (t 90)), o 91 (.ext (t 87) 0), o 92 (.ext (t 87) 1), o 12 (.alloc [.i .i64 0, .i .i64 0]), on (.store 2 (t 12) (t 91)), o 13 (.mv (t 92))])
 (.seq (.reg [o 93 (.mv (t 13)), o 94 (.bin .eql (t 93) (k 0)), o 95 (.mv (t 94)), og 96 95 true (.fad 0 (t 12)), og 97 95 true (.load false 1 (t 96)), og 98 95 true (.bin .mul (k 100) (t 97)), og 99 95 true (.fad 2 (t 5)), og 100 95 true (.load false 1 (t 99)), og 101 95 true (.fad 1 (t 12)), og 102 95 true (.load false 1 (t 101)), og 103 95 true (.bin .mul (t 100) (t 102)), og 104 95 true (.bin .geq (t 98) (t 103)), o 105 (.pick (t 95) (t 104) (kb false)), o 106 (.mv (t 13)), o 6 (.mv (t 105)), o 7 (.mv (t 106))])
 (.fz [6, 7] .ret)))
 (.seq (.reg [o 108 (.bin .eql (t 75) (k 4)), o 107 (.mv (t 108))])
 (.cond (t 107) (.seq (.reg [o 109 (.fad 2 (t 5)), o 110 (.load false 1 (t 109)), o 14 (.mv (t 110))])
 (.seq (.reg [o 111 (.mv (t 10)), o 112 (.mv (t 14)), o 113 (.mv (t 10)), o 114 (.lenS (t 113)), o 115 (.mm false [(t 112), (t 114)]), o 116 (.slcS (t 111) none (some (t 115))), o 117 (.mv (t 11)), o 118 (.mv (t 14)), o 119 (.mv (t 11)), o 120 (.lenS (t 119)), o 121 (.mm false [(t 118), (t 120)]), o 122 (.slcS (t 117) none (some (t 121))), o 123 (.bin .eql (t 116) (t 122)), o 6 (.mv (t 123)), o 7 (.mv (k 0))])
 (.fz [6, 7] .ret)))
 .skip))))))))
 (.seq (.reg [o 124 (.mv (t 10)), o 125 (.mv (t 11)), o 126 (.bin .eql (t 124) (t 125)), o 6 (.mv (t 126)), o 7 (.mv (k 0))])
 (.fz [6, 7] .ret)))))))))
def q67_F : VFn := ⟨true, 127, [.t 6, .t 7], q67_c⟩
def q67_f (lo : Lo) : FnE := ⟨587, true, ⟨[0, 1, 2], [.ag [.i .i64, .l (cs [I, I, .s])], .ag [.i .i64, .l (cs [I, I, .s])], .ag [.i .i64, .i .i64, .i .i64]], [], (cs [I, .l (cs [I, I, .s]), I, .l (cs [I, I, .s]), I, I, I])⟩, .tp [.b, .i .i64], [], (cs [.b, I]), (fun x => q67 lo x.1 x.2.1 x.2.2.1 x.2.2.2.1 x.2.2.2.2.1 x.2.2.2.2.2.1 x.2.2.2.2.2.2 : Int × (List (Int × Int × ByteArray)) × Int × (List (Int × Int × ByteArray)) × Int × Int × Int → Option (Bool × Int))⟩
theorem q67_e (lo : Lo) : ∀ x : Int × (List (Int × Int × ByteArray)) × Int × (List (Int × Int × ByteArray)) × Int × Int × Int, evP (⟨pf, fs67 lo, [], 0⟩ : Tabs) q67_F ⟨[0, 1, 2], [.ag [.i .i64, .l (cs [I, I, .s])], .ag [.i .i64, .l (cs [I, I, .s])], .ag [.i .i64, .i .i64, .i .i64]], [], (cs [I, .l (cs [I, I, .s]), I, .l (cs [I, I, .s]), I, I, I])⟩ (.tp [.b, .i .i64]) (cs [.b, I]) x = q67 lo x.1 x.2.1 x.2.2.1 x.2.2.2.1 x.2.2.2.2.1 x.2.2.2.2.2.1 x.2.2.2.2.2.2 := fun x => by kernel_rfl
theorem q67_S {P : Program} {fm : FM} {lo : Lo} (hlo : LoOK lo) (hS : Sound P fm ⟨pf, fs67 lo, [], 0⟩) (hm : P.follows .mixedOrders = true) (htie : ∀ f, fm f = 587 → fnTr P fm pf f = some (q67_F.slots, q67_F.res, q67_F.code.er)) : Sound P fm ⟨pf, q67_f lo :: fs67 lo, [], 0⟩ :=
  fn_sound hS hm [] (q67_f lo) rfl q67_F htie (by decide) rfl (Nat.le_of_ble_eq_true (by kernel_rfl)) (fun C hT => show LsOK (fun _ => False) [] C (⟨pf, fs67 lo, [], 0⟩ : Tabs) q67_c from ⟨trivial, ⟨⟨trivial, ⟨⟨trivial, trivial⟩, trivial⟩⟩, ⟨trivial, ⟨⟨trivial, ⟨⟨trivial, trivial⟩, trivial⟩⟩, ⟨⟨trivial, ⟨⟨trivial, trivial⟩, trivial⟩⟩, ⟨trivial, ⟨⟨trivial, ⟨trivial, ⟨⟨trivial, trivial⟩, ⟨trivial, ⟨⟨trivial, ⟨trivial, trivial⟩⟩, ⟨trivial, ⟨⟨trivial, ⟨trivial, trivial⟩⟩, trivial⟩⟩⟩⟩⟩⟩⟩, ⟨trivial, trivial⟩⟩⟩⟩⟩⟩⟩⟩) (fun x y h => (q67_e lo x).trans h)
def fs68 (lo : Lo) : List FnE := q67_f lo :: fs67 lo
def q68 (lo : Lo) (v0_0 : Int) (v0_1 : Int) (v0_2 : ByteArray) : Option Bool :=
  bif (decide (v0_0 = (0 : Int))) then (bif (decide (v0_1 = (0 : Int))) then (some (decide (v0_2 = (ByteArray.mk #[])))) else (some false)) else (bif (decide (v0_0 = (1 : Int))) then (some (decide (v0_2 = (ByteArray.mk #[])))) else (bif (decide (v0_0 = (2 : Int))) then (bif (decide (v0_1 = (0 : Int))) then (some (decide ((v0_2.size : Int) ≤ (200 : Int)))) else (some false)) else (bif (decide (v0_0 = (3 : Int))) then (bif (decide ((1 : Int) ≤ v0_1)) then (some (decide (v0_2 = (ByteArray.mk #[])))) else (some false)) else (some false))))
def q68_c : VCode :=
 (.seq (.reg [o 1 (.box (t 0)), o 2 (.mv (kb false))])
 (.seq (.seq (.reg [o 3 (.fad 0 (t 1)), o 4 (.load false 1 (t 3))])
 (.blk 0 (.seq (.reg [o 6 (.bin .eql (t 4) (k 0)), o 5 (.mv (t 6))])
 (.cond (t 5) (.seq (.reg [o 7 (.fad 1 (t 1)), o 8 (.load false 1 (t 7)), o 9 (.bin .eql (t 8) (k 0)), o 10 (.mv (t 9)), og 11 10 true (.fad 2 (t 1)), og 12 10 true (.load false 1 (t 11)), og 13 10 true (.bin .eql (t 12) (ks (⟨#[]⟩))), o 14 (.pick (t 10) (t 13) (kb false)), o 2 (.mv (t 14))])
 (.fz [2] .ret))
 (.seq (.reg [o 16 (.bin .eql (t 4) (k 1)), o 15 (.mv (t 16))])
 (.cond (t 15) (.seq (.reg [o 17 (.fad 2 (t 1)), o 18 (.load false 1 (t 17)), o 19 (.bin .eql (t 18) (ks (⟨#[]⟩))), o 2 (.mv (t 19))])
 (.fz [2] .ret))
 (.seq (.reg [o 21 (.bin .eql (t 4) (k 2)), o 20 (.mv (t 21))])
 (.cond (t 20) (.seq (.reg [o 22 (.fad 1 (t 1)), o 23 (.load false 1 (t 22)), o 24 (.bin .eql (t 23) (k 0)), o 25 (.mv (t 24)), og 26 25 true (.fad 2 (t 1)), og 27 25 true (.load false 1 (t 26)), og 28 25 true (.lenS (t 27)), og 29 25 true (.bin .leq (t 28) (k 200)), o 30 (.pick (t 25) (t 29) (kb false)), o 2 (.mv (t 30))])
 (.fz [2] .ret))
 .skip))))))))
 (.seq (.reg [o 31 (.fad 0 (t 1)), o 32 (.load false 1 (t 31)), o 33 (.bin .eql (t 32) (k 3)), o 34 (.mv (t 33)), og 35 34 true (.fad 1 (t 1)), og 36 34 true (.load false 1 (t 35)), og 37 34 true (.bin .geq (t 36) (k 1)), o 38 (.pick (t 34) (t 37) (kb false)), o 39 (.mv (t 38)), og 40 39 true (.fad 2 (t 1)), og 41 39 true (.load false 1 (t 40)), og 42 39 true (.bin .eql (t 41) (ks (⟨#[]⟩))), o 43 (.pick (t 39) (t 42) (kb false)), o 2 (.mv (t 43))])
 (.fz [2] .ret))))
def q68_F : VFn := ⟨true, 44, [.t 2], q68_c⟩
def q68_f (lo : Lo) : FnE := ⟨284, true, ⟨[0], [.ag [.i .i64, .i .i64, .s]], [], (cs [I, I, .s])⟩, .b, [], (cs [.b]), (fun x => q68 lo x.1 x.2.1 x.2.2 : Int × Int × ByteArray → Option Bool)⟩
theorem q68_e (lo : Lo) : ∀ x : Int × Int × ByteArray, evP (⟨pf, fs68 lo, [], 0⟩ : Tabs) q68_F ⟨[0], [.ag [.i .i64, .i .i64, .s]], [], (cs [I, I, .s])⟩ (.b) (cs [.b]) x = q68 lo x.1 x.2.1 x.2.2 := fun x => by kernel_rfl
theorem q68_S {P : Program} {fm : FM} {lo : Lo} (hlo : LoOK lo) (hS : Sound P fm ⟨pf, fs68 lo, [], 0⟩) (hm : P.follows .mixedOrders = true) (htie : ∀ f, fm f = 284 → fnTr P fm pf f = some (q68_F.slots, q68_F.res, q68_F.code.er)) : Sound P fm ⟨pf, q68_f lo :: fs68 lo, [], 0⟩ :=
  fn_sound hS hm [] (q68_f lo) rfl q68_F htie (by decide) rfl (Nat.le_of_ble_eq_true (by kernel_rfl)) (fun C hT => show LsOK (fun _ => False) [] C (⟨pf, fs68 lo, [], 0⟩ : Tabs) q68_c from ⟨trivial, ⟨⟨trivial, ⟨trivial, ⟨⟨trivial, trivial⟩, ⟨trivial, ⟨⟨trivial, trivial⟩, ⟨trivial, ⟨⟨trivial, trivial⟩, trivial⟩⟩⟩⟩⟩⟩⟩, ⟨trivial, trivial⟩⟩⟩) (fun x y h => (q68_e lo x).trans h)
def fs69 (lo : Lo) : List FnE := q68_f lo :: fs68 lo
def q69_J12_b : VCode :=
 (.cond (t 10) (.seq (.reg [o 13 (.fad 2 (t 1)), o 14 (.load false 1 (t 13)), o 15 (.bin .geq (t 14) (k 0)), o 16 (.mv (t 15)), og 17 16 true (.fad 2 (t 1)), og 18 16 true (.load false 1 (t 17)), og 19 16 true (.bin .leq (t 18) (k 200)), o 20 (.pick (t 16) (t 19) (kb false)), o 2 (.mv (t 20))])
 (.fz [2] .ret))
 (.seq (.reg [o 22 (.bin .eql (t 4) (k 3)), o 21 (.mv (t 22))])
 (.cond (t 21) (.seq (.reg [o 23 (.fad 2 (t 1)), o 24 (.load false 1 (t 23)), o 25 (.bin .geq (t 24) (k 0)), o 26 (.mv (t 25)), og 27 26 true (.fad 2 (t 1)), og 28 26 true (.load false 1 (t 27)), og 29 26 true (.bin .leq (t 28) (k 100)), o 30 (.pick (t 26) (t 29) (kb false)), o 2 (.mv (t 30))])
 (.fz [2] .ret))
 .skip)))
def q69_J12_g : Sg := ⟨[1, 4, 10], [.ptr 0 0 0, .i .i64, .b], [.st [.i .i64, .i .i64, .i .i64]], (cs [I, .b, I, I, I])⟩
def q69_J12_o : List Out1 := [⟨.ret, ⟨[2], [.b], [], (cs [.b])⟩⟩, ⟨.nor, ⟨[], [], [], (cs [])⟩⟩]
def q69_J12 (lo : Lo) : Int × Bool × Int × Int × Int → Option (Bool ⊕ Unit) := fun x => match x with
  | (v4, v10, c1_0, c1_1, c1_2) => bif v10 then (bif (decide ((0 : Int) ≤ c1_2)) then (some (.inl (decide (c1_2 ≤ (200 : Int))))) else (some (.inl false))) else (bif (decide (v4 = (3 : Int))) then (bif (decide ((0 : Int) ≤ c1_2)) then (some (.inl (decide (c1_2 ≤ (100 : Int))))) else (some (.inl false))) else (some (.inr ())))
theorem q69_J12_e (lo : Lo) : ∀ x : Int × Bool × Int × Int × Int, stepJ (⟨pf, fs69 lo, [], 0⟩ : Tabs) q69_J12_g q69_J12_o q69_J12_b x = q69_J12 lo x := fun x => by kernel_rfl
def q69_J12_p (lo : Lo) : LpE := ⟨12, [], q69_J12_g, q69_J12_o, q69_J12 lo⟩
theorem q69_J12_k {lo : Lo} (hlo : LoOK lo) (C : Ctx) (hT : TOK (⟨pf, fs69 lo, [], 0⟩ : Tabs) C) : LpSound (fun _ => False) [] 0 C q69_J12_b.er (q69_J12_p lo) :=
  jn_sound (T := (⟨pf, fs69 lo, [], 0⟩ : Tabs)) hT frNo (show LsOK (fun _ => False) [] C (⟨pf, fs69 lo, [], 0⟩ : Tabs) q69_J12_b from ⟨⟨trivial, trivial⟩, ⟨trivial, ⟨⟨trivial, trivial⟩, trivial⟩⟩⟩) (fun x y h => (q69_J12_e lo x).trans h)
def q69 (lo : Lo) (c0_0 : Int) (c0_1 : Int) (c0_2 : Int) : Option Bool :=
  bif (decide (c0_1 = (1 : Int))) then (some (decide (c0_2 = (0 : Int)))) else (bif (decide (c0_1 = (2 : Int))) then (Option.bind (q69_J12 lo (c0_1, true, c0_0, c0_1, c0_2)) fun y302 => alt2 y302 (fun y303 => some y303) (fun y304 => some false)) else (Option.bind (q69_J12 lo (c0_1, (decide (c0_1 = (4 : Int))), c0_0, c0_1, c0_2)) fun y305 => alt2 y305 (fun y306 => some y306) (fun y307 => some false)))
def q69_c : VCode :=
 (.seq (.reg [o 1 (.box (t 0)), o 2 (.mv (kb false))])
 (.seq (.seq (.reg [o 3 (.fad 1 (t 1)), o 4 (.load false 1 (t 3))])
 (.blk 0 (.seq (.reg [o 6 (.bin .eql (t 4) (k 1)), o 5 (.mv (t 6))])
 (.cond (t 5) (.seq (.reg [o 7 (.fad 2 (t 1)), o 8 (.load false 1 (t 7)), o 9 (.bin .eql (t 8) (k 0)), o 2 (.mv (t 9))])
 (.fz [2] .ret))
 (.seq (.seq (.reg [o 11 (.bin .eql (t 4) (k 2)), o 10 (.mv (t 11))])
 (.cond (t 10) .skip
 (.reg [o 12 (.bin .eql (t 4) (k 4)), o 10 (.mv (t 12))])))
 (.jn 12 q69_J12_b))))))
 (.seq (.reg [o 2 (.mv (kb false))])
 (.fz [2] .ret))))
def q69_F : VFn := ⟨true, 31, [.t 2], q69_c⟩
def q69_f (lo : Lo) : FnE := ⟨610, true, ⟨[0], [.ag [.i .i64, .i .i64, .i .i64]], [], (cs [I, I, I])⟩, .b, [], (cs [.b]), (fun x => q69 lo x.1 x.2.1 x.2.2 : Int × Int × Int → Option Bool)⟩
theorem q69_e (lo : Lo) : ∀ x : Int × Int × Int, evP (⟨pf, fs69 lo, [q69_J12_p lo], 0⟩ : Tabs) q69_F ⟨[0], [.ag [.i .i64, .i .i64, .i .i64]], [], (cs [I, I, I])⟩ (.b) (cs [.b]) x = q69 lo x.1 x.2.1 x.2.2 := fun x => by kernel_rfl
theorem q69_S {P : Program} {fm : FM} {lo : Lo} (hlo : LoOK lo) (hS : Sound P fm ⟨pf, fs69 lo, [], 0⟩) (hm : P.follows .mixedOrders = true) (htie : ∀ f, fm f = 610 → fnTr P fm pf f = some (q69_F.slots, q69_F.res, q69_F.code.er)) : Sound P fm ⟨pf, q69_f lo :: fs69 lo, [], 0⟩ :=
  fn_sound hS hm [q69_J12_p lo] (q69_f lo) rfl q69_F htie (by decide) rfl (Nat.le_of_ble_eq_true (by kernel_rfl)) (fun C hT => show LsOK (fun _ => False) [] C (⟨pf, fs69 lo, [q69_J12_p lo], 0⟩ : Tabs) q69_c from ⟨trivial, ⟨⟨trivial, ⟨trivial, ⟨⟨trivial, trivial⟩, ⟨⟨trivial, ⟨trivial, trivial⟩⟩, (lsGet (by kernel_rfl) (q69_J12_k hlo C (tok_ls hT)))⟩⟩⟩⟩, ⟨trivial, trivial⟩⟩⟩) (fun x y h => (q69_e lo x).trans h)
def fs70 (lo : Lo) : List FnE := q69_f lo :: fs69 lo
def q70 (lo : Lo) (x0_0 : Int) (x0_1 : List (Int × Int × ByteArray)) (y1_0 : Int) (y1_1 : List (Int × Int × ByteArray)) (c2_0 : Int) (c2_1 : Int) (c2_2 : Int) : Option Int :=
  bif (decide (c2_0 < (0 : Int))) then (some (6 : Int)) else (bif (decide ((x0_1.length : Int) ≤ c2_0)) then (some (6 : Int)) else (bif (decide ((y1_1.length : Int) ≤ c2_0)) then (some (6 : Int)) else (chk (0 ≤ c2_0 ∧ c2_0 < (x0_1.length : Int)) (Option.bind (q68 lo ((x0_1.getD c2_0.toNat ((0 : Int), (0 : Int), (ByteArray.mk #[]))).1) ((x0_1.getD c2_0.toNat ((0 : Int), (0 : Int), (ByteArray.mk #[]))).2.1) ((x0_1.getD c2_0.toNat ((0 : Int), (0 : Int), (ByteArray.mk #[]))).2.2)) fun y300 => bif (!y300) then (some (1 : Int)) else (chk (0 ≤ c2_0 ∧ c2_0 < (y1_1.length : Int)) (Option.bind (q68 lo ((y1_1.getD c2_0.toNat ((0 : Int), (0 : Int), (ByteArray.mk #[]))).1) ((y1_1.getD c2_0.toNat ((0 : Int), (0 : Int), (ByteArray.mk #[]))).2.1) ((y1_1.getD c2_0.toNat ((0 : Int), (0 : Int), (ByteArray.mk #[]))).2.2)) fun y301 => bif (!y301) then (some (1 : Int)) else (Option.bind (q69 lo c2_0 c2_1 c2_2) fun y308 => bif (!y308) then (some (1 : Int)) else (some (0 : Int)))))))))
def q70_c : VCode :=
 (.seq (.reg [o 3 (.box (t 0)), o 4 (.box (t 1)), o 5 (.box (t 2)), o 6 (.mv (k 0))])
 (.seq (.seq (.reg [o 7 (.fad 0 (t 5)), o 8 (.load false 1 (t 7)), o 9 (.bin .lss (t 8) (k 0)), o 10 (.mv (t 9)), og 11 10 false (.fad 0 (t 5)), og 12 10 false (.load false 1 (t 11)), og 13 10 false (.fad 1 (t 3)), og 14 10 false (.load false 1 (t 13)), og 15 10 false (.len (t 14)), og 16 10 false (.bin .geq (t 12) (t 15)), o 17 (.pick (t 10) (kb true) (t 16)), o 18 (.mv (t 17)), og 19 18 false (.fad 0 (t 5)), og 20 18 false (.load false 1 (t 19)), og 21 18 false (.fad 1 (t 4)), og 22 18 false (.load false 1 (t 21)), og 23 18 false (.len (t 22)), og 24 18 false (.bin .geq (t 20) (t 23)), o 25 (.pick (t 18) (kb true) (t 24))])
 (.cond (t 25) (.seq (.reg [o 6 (.mv (k 6))])
 (.fz [6] .ret))
 .skip))
 (.seq (.seq (.reg [o 26 (.fad 1 (t 3)), o 27 (.load false 1 (t 26)), o 28 (.fad 0 (t 5)), o 29 (.load false 1 (t 28)), o 30 (.iad 3 (t 27) (t 29)), o 31 (.load true 3 (t 30)), o 32 (.call 284 [(t 31)]), o 33 (.not (t 32)), o 34 (.mv (t 33)), og 35 34 false (.fad 1 (t 4)), og 36 34 false (.load false 1 (t 35)), og 37 34 false (.fad 0 (t 5)), og 38 34 false (.load false 1 (t 37)), og 39 34 false (.iad 3 (t 36) (t 38)), og 40 34 false (.load true 3 (t 39)), og 41 34 false (.call 284 [(t 40)]), og 42 34 false (.not (t 41)), o 43 (.pick (t 34) (kb true) (t 42)), o 44 (.mv (t 43)), og 45 44 false (.load true 3 (t 5)), og 46 44 false (.call 610 [(t 45)]), og 47 44 false (.not (t 46)), o 48 (.pick (t 44) (kb true) (t 47))])
 (.cond (t 48) (.seq (.reg [o 6 (.mv (k 1))])
 (.fz [6] .ret))
 .skip))
 (.seq (.reg [o 6 (.mv (k 0))])
 (.fz [6] .ret)))))
def q70_F : VFn := ⟨true, 49, [.t 6], q70_c⟩
def q70_f (lo : Lo) : FnE := ⟨598, true, ⟨[0, 1, 2], [.ag [.i .i64, .l (cs [I, I, .s])], .ag [.i .i64, .l (cs [I, I, .s])], .ag [.i .i64, .i .i64, .i .i64]], [], (cs [I, .l (cs [I, I, .s]), I, .l (cs [I, I, .s]), I, I, I])⟩, .i .i64, [], (cs [I]), (fun x => q70 lo x.1 x.2.1 x.2.2.1 x.2.2.2.1 x.2.2.2.2.1 x.2.2.2.2.2.1 x.2.2.2.2.2.2 : Int × (List (Int × Int × ByteArray)) × Int × (List (Int × Int × ByteArray)) × Int × Int × Int → Option Int)⟩
theorem q70_e (lo : Lo) : ∀ x : Int × (List (Int × Int × ByteArray)) × Int × (List (Int × Int × ByteArray)) × Int × Int × Int, evP (⟨pf, fs70 lo, [], 0⟩ : Tabs) q70_F ⟨[0, 1, 2], [.ag [.i .i64, .l (cs [I, I, .s])], .ag [.i .i64, .l (cs [I, I, .s])], .ag [.i .i64, .i .i64, .i .i64]], [], (cs [I, .l (cs [I, I, .s]), I, .l (cs [I, I, .s]), I, I, I])⟩ (.i .i64) (cs [I]) x = q70 lo x.1 x.2.1 x.2.2.1 x.2.2.2.1 x.2.2.2.2.1 x.2.2.2.2.2.1 x.2.2.2.2.2.2 := fun x => by kernel_rfl
theorem q70_S {P : Program} {fm : FM} {lo : Lo} (hlo : LoOK lo) (hS : Sound P fm ⟨pf, fs70 lo, [], 0⟩) (hm : P.follows .mixedOrders = true) (htie : ∀ f, fm f = 598 → fnTr P fm pf f = some (q70_F.slots, q70_F.res, q70_F.code.er)) : Sound P fm ⟨pf, q70_f lo :: fs70 lo, [], 0⟩ :=
  fn_sound hS hm [] (q70_f lo) rfl q70_F htie (by decide) rfl (Nat.le_of_ble_eq_true (by kernel_rfl)) (fun C hT => show LsOK (fun _ => False) [] C (⟨pf, fs70 lo, [], 0⟩ : Tabs) q70_c from ⟨trivial, ⟨⟨trivial, ⟨⟨trivial, trivial⟩, trivial⟩⟩, ⟨⟨trivial, ⟨⟨trivial, trivial⟩, trivial⟩⟩, ⟨trivial, trivial⟩⟩⟩⟩) (fun x y h => (q70_e lo x).trans h)
def fs71 (lo : Lo) : List FnE := q70_f lo :: fs70 lo
def q71 (lo : Lo) (a0 : Int) (b1 : Int) : Option Int :=
  bif (decide (a0 < b1)) then (some (-1 : Int)) else (bif (decide (b1 < a0)) then (some (1 : Int)) else (some (0 : Int)))
def q71_c : VCode :=
 (.seq (.reg [o 4 (.mv (k 0))])
 (.seq (.seq (.reg [o 5 (.mv (t 0)), o 6 (.mv (t 1)), o 7 (.bin .lss (t 5) (t 6))])
 (.cond (t 7) (.seq (.reg [o 4 (.mv (k (-1)))])
 (.fz [4] .ret))
 .skip))
 (.seq (.seq (.reg [o 8 (.mv (t 0)), o 9 (.mv (t 1)), o 10 (.bin .gtr (t 8) (t 9))])
 (.cond (t 10) (.seq (.reg [o 4 (.mv (k 1))])
 (.fz [4] .ret))
 .skip))
 (.seq (.reg [o 4 (.mv (k 0))])
 (.fz [4] .ret)))))
def q71_F : VFn := ⟨true, 11, [.t 4], q71_c⟩
def q71_f (lo : Lo) : FnE := ⟨303, true, ⟨[0, 1], [.i .i64, .i .i64], [], (cs [I, I])⟩, .i .i64, [], (cs [I]), (fun x => q71 lo x.1 x.2 : Int × Int → Option Int)⟩
theorem q71_e (lo : Lo) : ∀ x : Int × Int, evP (⟨pf, fs71 lo, [], 0⟩ : Tabs) q71_F ⟨[0, 1], [.i .i64, .i .i64], [], (cs [I, I])⟩ (.i .i64) (cs [I]) x = q71 lo x.1 x.2 := fun x => by kernel_rfl
theorem q71_S {P : Program} {fm : FM} {lo : Lo} (hlo : LoOK lo) (hS : Sound P fm ⟨pf, fs71 lo, [], 0⟩) (hm : P.follows .mixedOrders = true) (htie : ∀ f, fm f = 303 → fnTr P fm pf f = some (q71_F.slots, q71_F.res, q71_F.code.er)) : Sound P fm ⟨pf, q71_f lo :: fs71 lo, [], 0⟩ :=
  fn_sound hS hm [] (q71_f lo) rfl q71_F htie (by decide) rfl (Nat.le_of_ble_eq_true (by kernel_rfl)) (fun C hT => show LsOK (fun _ => False) [] C (⟨pf, fs71 lo, [], 0⟩ : Tabs) q71_c from ⟨trivial, ⟨⟨trivial, ⟨⟨trivial, trivial⟩, trivial⟩⟩, ⟨⟨trivial, ⟨⟨trivial, trivial⟩, trivial⟩⟩, ⟨trivial, trivial⟩⟩⟩⟩) (fun x y h => (q71_e lo x).trans h)
def fs72 (lo : Lo) : List FnE := q71_f lo :: fs71 lo
def q72_L3_b : VCode :=
 (.seq (.seq (.reg [o 6 (.mv (t 5)), o 7 (.mv (t 0)), o 8 (.lenS (t 7)), o 9 (.bin .lss (t 6) (t 8)), o 10 (.mv (t 9)), og 11 10 true (.mv (t 5)), og 12 10 true (.mv (t 1)), og 13 10 true (.lenS (t 12)), og 14 10 true (.bin .lss (t 11) (t 13)), o 15 (.pick (t 10) (t 14) (kb false))])
 (.cond (t 15) .skip
 (.exit 0)))
 (.seq (.blk 1 (.seq (.reg [o 18 (.mv (t 0)), o 19 (.mv (t 5)), o 20 (.idx (t 18) (t 19)), o 21 (.mv (t 1)), o 22 (.mv (t 5)), o 23 (.idx (t 21) (t 22)), o 24 (.bin .neq (t 20) (t 23))])
 (.cond (t 24) (.seq (.reg [o 25 (.mv (t 0)), o 26 (.mv (t 5)), o 27 (.idx (t 25) (t 26)), o 28 (.conv .i64 (t 27)), o 29 (.mv (t 1)), o 30 (.mv (t 5)), o 31 (.idx (t 29) (t 30)), o 32 (.conv .i64 (t 31)), o 33 (.call 303 [(t 28), (t 32)]), o 4 (.mv (t 33))])
 (.fz [4] .ret))
 .skip)))
 (.reg [o 16 (.mv (t 5)), o 17 (.bin .add (t 16) (k 1)), o 5 (.mv (t 17))])))
def q72_L3_g : Sg := ⟨[0, 1, 5], [.s, .s, .i .i64], [], (cs [.s, .s, I])⟩
def q72_L3_o : List Out1 := [⟨.ret, ⟨[4], [.i .i64], [], (cs [I])⟩⟩, ⟨.exit 0, ⟨[0, 1], [.s, .s], [], (cs [.s, .s])⟩⟩]
def q72_L3_s (lo : Lo) : ByteArray × ByteArray × Int → Option ((ByteArray × ByteArray × Int) ⊕ (Int ⊕ (ByteArray × ByteArray))) := fun x => match x with
  | (a0, b1, i5) => bif (decide (i5 < (a0.size : Int))) then (bif (decide (i5 < (b1.size : Int))) then (chk (0 ≤ i5 ∧ i5 < (a0.size : Int)) (chk (0 ≤ i5 ∧ i5 < (b1.size : Int)) (bif (!decide ((byteI a0 i5) = (byteI b1 i5))) then (chk (0 ≤ i5 ∧ i5 < (a0.size : Int)) (chk (0 ≤ i5 ∧ i5 < (b1.size : Int)) (Option.bind (q71 lo (IntKind.wrap .i64 (byteI a0 i5)) (IntKind.wrap .i64 (byteI b1 i5))) fun y312 => some (.inr (.inl y312))))) else (some (.inl (a0, b1, (IntKind.wrap .i64 (i5 + (1 : Int))))))))) else (some (.inr (.inr (a0, b1))))) else (some (.inr (.inr (a0, b1))))
theorem q72_L3_e (lo : Lo) : ∀ x : ByteArray × ByteArray × Int, stepL (⟨pf, fs72 lo, [], 0⟩ : Tabs) [] q72_L3_g q72_L3_o q72_L3_b x = q72_L3_s lo x := fun x => by kernel_rfl
def q72_L3 (lo : Lo) : ByteArray × ByteArray × Int → Option (Int ⊕ (ByteArray × ByteArray)) := lo.run (q72_L3_s lo)
def q72_L3_p (lo : Lo) : LpE := ⟨3, [], q72_L3_g, q72_L3_o, q72_L3 lo⟩
theorem q72_L3_k {lo : Lo} (hlo : LoOK lo) (C : Ctx) (hT : TOK (⟨pf, fs72 lo, [], 0⟩ : Tabs) C) : LpSound (fun _ => False) [] 0 C (.loop q72_L3_b.er) (q72_L3_p lo) :=
  loop_sound (T := (⟨pf, fs72 lo, [], 0⟩ : Tabs)) hT frNo (show LsOK (fun _ => False) [] C (⟨pf, fs72 lo, [], 0⟩ : Tabs) q72_L3_b from ⟨⟨trivial, ⟨trivial, trivial⟩⟩, ⟨⟨trivial, ⟨⟨trivial, trivial⟩, trivial⟩⟩, trivial⟩⟩) (fun x y h => loopO_congr (q72_L3_e lo) (hlo _ _ _ h))
def q72 (lo : Lo) (a0 : ByteArray) (b1 : ByteArray) : Option Int :=
  Option.bind (q72_L3 lo (a0, b1, (0 : Int))) fun y313 => alt2 y313 (fun y314 => some y314) (fun y315 => Option.bind (q71 lo (y315.1.size : Int) (y315.2.size : Int)) fun y316 => some y316)
def q72_c : VCode :=
 (.seq (.reg [o 4 (.mv (k 0))])
 (.seq (.seq (.reg [o 5 (.mv (k 0))])
 (.blk 0 (.loop 3 q72_L3_b)))
 (.seq (.reg [o 34 (.mv (t 0)), o 35 (.lenS (t 34)), o 36 (.mv (t 1)), o 37 (.lenS (t 36)), o 38 (.call 303 [(t 35), (t 37)]), o 4 (.mv (t 38))])
 (.fz [4] .ret))))
def q72_F : VFn := ⟨true, 39, [.t 4], q72_c⟩
def q72_f (lo : Lo) : FnE := ⟨320, true, ⟨[0, 1], [.s, .s], [], (cs [.s, .s])⟩, .i .i64, [], (cs [I]), (fun x => q72 lo x.1 x.2 : ByteArray × ByteArray → Option Int)⟩
theorem q72_e (lo : Lo) : ∀ x : ByteArray × ByteArray, evP (⟨pf, fs72 lo, [q72_L3_p lo], 0⟩ : Tabs) q72_F ⟨[0, 1], [.s, .s], [], (cs [.s, .s])⟩ (.i .i64) (cs [I]) x = q72 lo x.1 x.2 := fun x => by kernel_rfl
theorem q72_S {P : Program} {fm : FM} {lo : Lo} (hlo : LoOK lo) (hS : Sound P fm ⟨pf, fs72 lo, [], 0⟩) (hm : P.follows .mixedOrders = true) (htie : ∀ f, fm f = 320 → fnTr P fm pf f = some (q72_F.slots, q72_F.res, q72_F.code.er)) : Sound P fm ⟨pf, q72_f lo :: fs72 lo, [], 0⟩ :=
  fn_sound hS hm [q72_L3_p lo] (q72_f lo) rfl q72_F htie (by decide) rfl (Nat.le_of_ble_eq_true (by kernel_rfl)) (fun C hT => show LsOK (fun _ => False) [] C (⟨pf, fs72 lo, [q72_L3_p lo], 0⟩ : Tabs) q72_c from ⟨trivial, ⟨⟨trivial, (lsGet (by kernel_rfl) (q72_L3_k hlo C (tok_ls hT)))⟩, ⟨trivial, trivial⟩⟩⟩) (fun x y h => (q72_e lo x).trans h)
def fs73 (lo : Lo) : List FnE := q72_f lo :: fs72 lo
def q73 (lo : Lo) (a0_0 : Int) (a0_1 : Int) (a0_2 : ByteArray) (b1_0 : Int) (b1_1 : Int) (b1_2 : ByteArray) : Option Int :=
  Option.bind (q71 lo a0_0 b1_0) fun y310 => bif (!decide (y310 = (0 : Int))) then (some y310) else (Option.bind (q71 lo a0_1 b1_1) fun y311 => bif (!decide (y311 = (0 : Int))) then (some y311) else (Option.bind (q72 lo a0_2 b1_2) fun y317 => some y317))
def q73_c : VCode :=
 (.seq (.reg [o 2 (.box (t 0)), o 3 (.box (t 1)), o 4 (.mv (k 0))])
 (.seq (.seq (.reg [o 7 (.fad 0 (t 2)), o 8 (.load false 1 (t 7)), o 9 (.fad 0 (t 3)), o 10 (.load false 1 (t 9)), o 11 (.call 303 [(t 8), (t 10)]), o 5 (.mv (t 11))])
 (.seq (.reg [o 12 (.mv (t 5)), o 13 (.bin .neq (t 12) (k 0))])
 (.cond (t 13) (.seq (.reg [o 14 (.mv (t 5)), o 4 (.mv (t 14))])
 (.fz [4] .ret))
 .skip)))
 (.seq (.seq (.reg [o 15 (.fad 1 (t 2)), o 16 (.load false 1 (t 15)), o 17 (.fad 1 (t 3)), o 18 (.load false 1 (t 17)), o 19 (.call 303 [(t 16), (t 18)]), o 6 (.mv (t 19))])
 (.seq (.reg [o 20 (.mv (t 6)), o 21 (.bin .neq (t 20) (k 0))])
 (.cond (t 21) (.seq (.reg [o 22 (.mv (t 6)), o 4 (.mv (t 22))])
 (.fz [4] .ret))
 .skip)))
 (.seq (.reg [o 23 (.fad 2 (t 2)), o 24 (.load false 1 (t 23)), o 25 (.fad 2 (t 3)), o 26 (.load false 1 (t 25)), o 27 (.call 320 [(t 24), (t 26)]), o 4 (.mv (t 27))])
 (.fz [4] .ret)))))
def q73_F : VFn := ⟨true, 28, [.t 4], q73_c⟩
def q73_f (lo : Lo) : FnE := ⟨302, true, ⟨[0, 1], [.ag [.i .i64, .i .i64, .s], .ag [.i .i64, .i .i64, .s]], [], (cs [I, I, .s, I, I, .s])⟩, .i .i64, [], (cs [I]), (fun x => q73 lo x.1 x.2.1 x.2.2.1 x.2.2.2.1 x.2.2.2.2.1 x.2.2.2.2.2 : Int × Int × ByteArray × Int × Int × ByteArray → Option Int)⟩
theorem q73_e (lo : Lo) : ∀ x : Int × Int × ByteArray × Int × Int × ByteArray, evP (⟨pf, fs73 lo, [], 0⟩ : Tabs) q73_F ⟨[0, 1], [.ag [.i .i64, .i .i64, .s], .ag [.i .i64, .i .i64, .s]], [], (cs [I, I, .s, I, I, .s])⟩ (.i .i64) (cs [I]) x = q73 lo x.1 x.2.1 x.2.2.1 x.2.2.2.1 x.2.2.2.2.1 x.2.2.2.2.2 := fun x => by kernel_rfl
theorem q73_S {P : Program} {fm : FM} {lo : Lo} (hlo : LoOK lo) (hS : Sound P fm ⟨pf, fs73 lo, [], 0⟩) (hm : P.follows .mixedOrders = true) (htie : ∀ f, fm f = 302 → fnTr P fm pf f = some (q73_F.slots, q73_F.res, q73_F.code.er)) : Sound P fm ⟨pf, q73_f lo :: fs73 lo, [], 0⟩ :=
  fn_sound hS hm [] (q73_f lo) rfl q73_F htie (by decide) rfl (Nat.le_of_ble_eq_true (by kernel_rfl)) (fun C hT => show LsOK (fun _ => False) [] C (⟨pf, fs73 lo, [], 0⟩ : Tabs) q73_c from ⟨trivial, ⟨⟨trivial, ⟨trivial, ⟨⟨trivial, trivial⟩, trivial⟩⟩⟩, ⟨⟨trivial, ⟨trivial, ⟨⟨trivial, trivial⟩, trivial⟩⟩⟩, ⟨trivial, trivial⟩⟩⟩⟩) (fun x y h => (q73_e lo x).trans h)
def fs74 (lo : Lo) : List FnE := q73_f lo :: fs73 lo
def q74 (lo : Lo) (s0 : ByteArray) (n1 : Int) : Option ByteArray :=
  chk (0 ≤ (0 : Int) ∧ (0 : Int) ≤ (min n1 (s0.size : Int)) ∧ (min n1 (s0.size : Int)) ≤ (s0.size : Int)) (some (s0.extract 0 (min n1 (s0.size : Int)).toNat))
def q74_c : VCode :=
 (.seq (.reg [o 4 (.mv (ks (⟨#[]⟩)))])
 (.seq (.reg [o 5 (.mv (t 0)), o 6 (.mv (t 1)), o 7 (.mv (t 0)), o 8 (.lenS (t 7)), o 9 (.mm false [(t 6), (t 8)]), o 10 (.slcS (t 5) none (some (t 9))), o 4 (.mv (t 10))])
 (.fz [4] .ret)))
def q74_F : VFn := ⟨true, 11, [.t 4], q74_c⟩
def q74_f (lo : Lo) : FnE := ⟨599, true, ⟨[0, 1], [.s, .i .i64], [], (cs [.s, I])⟩, .s, [], (cs [.s]), (fun x => q74 lo x.1 x.2 : ByteArray × Int → Option ByteArray)⟩
theorem q74_e (lo : Lo) : ∀ x : ByteArray × Int, evP (⟨pf, fs74 lo, [], 0⟩ : Tabs) q74_F ⟨[0, 1], [.s, .i .i64], [], (cs [.s, I])⟩ (.s) (cs [.s]) x = q74 lo x.1 x.2 := fun x => by kernel_rfl
theorem q74_S {P : Program} {fm : FM} {lo : Lo} (hlo : LoOK lo) (hS : Sound P fm ⟨pf, fs74 lo, [], 0⟩) (hm : P.follows .mixedOrders = true) (htie : ∀ f, fm f = 599 → fnTr P fm pf f = some (q74_F.slots, q74_F.res, q74_F.code.er)) : Sound P fm ⟨pf, q74_f lo :: fs74 lo, [], 0⟩ :=
  fn_sound hS hm [] (q74_f lo) rfl q74_F htie (by decide) rfl (Nat.le_of_ble_eq_true (by kernel_rfl)) (fun C hT => show LsOK (fun _ => False) [] C (⟨pf, fs74 lo, [], 0⟩ : Tabs) q74_c from ⟨trivial, ⟨trivial, trivial⟩⟩) (fun x y h => (q74_e lo x).trans h)
def fs75 (lo : Lo) : List FnE := q74_f lo :: fs74 lo
def q75 (lo : Lo) (x0_0 : Int) (x0_1 : List (Int × Int × ByteArray)) (y1_0 : Int) (y1_1 : List (Int × Int × ByteArray)) (c2_0 : Int) (c2_1 : Int) (c2_2 : Int) : Option (Bool × Int) :=
  Option.bind (q70 lo x0_0 x0_1 y1_0 y1_1 c2_0 c2_1 c2_2) fun y309 => bif (!decide (y309 = (0 : Int))) then (some (false, y309)) else (chk (0 ≤ c2_0 ∧ c2_0 < (x0_1.length : Int)) (chk (0 ≤ c2_0 ∧ c2_0 < (y1_1.length : Int)) (bif (!decide ((x0_1.getD c2_0.toNat ((0 : Int), (0 : Int), (ByteArray.mk #[]))).1 = (2 : Int))) then (Option.bind (q73 lo ((x0_1.getD c2_0.toNat ((0 : Int), (0 : Int), (ByteArray.mk #[]))).1) ((x0_1.getD c2_0.toNat ((0 : Int), (0 : Int), (ByteArray.mk #[]))).2.1) ((x0_1.getD c2_0.toNat ((0 : Int), (0 : Int), (ByteArray.mk #[]))).2.2) ((y1_1.getD c2_0.toNat ((0 : Int), (0 : Int), (ByteArray.mk #[]))).1) ((y1_1.getD c2_0.toNat ((0 : Int), (0 : Int), (ByteArray.mk #[]))).2.1) ((y1_1.getD c2_0.toNat ((0 : Int), (0 : Int), (ByteArray.mk #[]))).2.2)) fun y318 => some ((decide (y318 = (0 : Int))), (0 : Int))) else (bif (!decide ((y1_1.getD c2_0.toNat ((0 : Int), (0 : Int), (ByteArray.mk #[]))).1 = (2 : Int))) then (Option.bind (q73 lo ((x0_1.getD c2_0.toNat ((0 : Int), (0 : Int), (ByteArray.mk #[]))).1) ((x0_1.getD c2_0.toNat ((0 : Int), (0 : Int), (ByteArray.mk #[]))).2.1) ((x0_1.getD c2_0.toNat ((0 : Int), (0 : Int), (ByteArray.mk #[]))).2.2) ((y1_1.getD c2_0.toNat ((0 : Int), (0 : Int), (ByteArray.mk #[]))).1) ((y1_1.getD c2_0.toNat ((0 : Int), (0 : Int), (ByteArray.mk #[]))).2.1) ((y1_1.getD c2_0.toNat ((0 : Int), (0 : Int), (ByteArray.mk #[]))).2.2)) fun y319 => some ((decide (y319 = (0 : Int))), (0 : Int))) else (bif (decide (c2_1 = (1 : Int))) then (Option.bind (q73 lo ((x0_1.getD c2_0.toNat ((0 : Int), (0 : Int), (ByteArray.mk #[]))).1) ((x0_1.getD c2_0.toNat ((0 : Int), (0 : Int), (ByteArray.mk #[]))).2.1) ((x0_1.getD c2_0.toNat ((0 : Int), (0 : Int), (ByteArray.mk #[]))).2.2) ((y1_1.getD c2_0.toNat ((0 : Int), (0 : Int), (ByteArray.mk #[]))).1) ((y1_1.getD c2_0.toNat ((0 : Int), (0 : Int), (ByteArray.mk #[]))).2.1) ((y1_1.getD c2_0.toNat ((0 : Int), (0 : Int), (ByteArray.mk #[]))).2.2)) fun y320 => some ((decide (y320 = (0 : Int))), (0 : Int))) else (bif (decide (c2_1 = (2 : Int))) then (Option.bind (q61 lo ((x0_1.getD c2_0.toNat ((0 : Int), (0 : Int), (ByteArray.mk #[]))).2.2) ((y1_1.getD c2_0.toNat ((0 : Int), (0 : Int), (ByteArray.mk #[]))).2.2)) fun y321 => some ((decide (y321 ≤ c2_2)), (0 : Int))) else (bif (decide (c2_1 = (3 : Int))) then (Option.bind (q54 lo ((x0_1.getD c2_0.toNat ((0 : Int), (0 : Int), (ByteArray.mk #[]))).2.2) ((y1_1.getD c2_0.toNat ((0 : Int), (0 : Int), (ByteArray.mk #[]))).2.2) (2 : Int)) fun y322 => some ((decide ((IntKind.wrap .i64 (c2_2 * y322.2.1)) ≤ (IntKind.wrap .i64 ((100 : Int) * y322.1)))), (0 : Int))) else (Option.bind (q74 lo ((x0_1.getD c2_0.toNat ((0 : Int), (0 : Int), (ByteArray.mk #[]))).2.2) c2_2) fun y323 => Option.bind (q74 lo ((y1_1.getD c2_0.toNat ((0 : Int), (0 : Int), (ByteArray.mk #[]))).2.2) c2_2) fun y324 => some ((decide (y323 = y324)), (0 : Int))))))))))
def q75_c : VCode :=
 (.seq (.reg [o 3 (.box (t 0)), o 4 (.box (t 1)), o 5 (.box (t 2)), o 6 (.mv (kb false)), o 7 (.mv (k 0))])
 (.seq (.seq (.reg [o 13 (.load true 2 (t 3)), o 14 (.load true 2 (t 4)), o 15 (.load true 3 (t 5)), o 16 (.call 598 [(t 13), (t 14), (t 15)]), o 8 (.mv (t 16))])
 (.seq (.reg [o 17 (.mv (t 8)), o 18 (.bin .neq (t 17) (k 0))])
 (.cond (t 18) (.seq (.reg [o 19 (.mv (t 8)), o 6 (.mv (kb false)), o 7 (.mv (t 19))])
 (.fz [6, 7] .ret))
 .skip)))
 (.seq (.reg [o 20 (.fad 1 (t 3)), ⟨some 21, .load false 1 (t 20), none, true, false⟩, o 22 (.fad 0 (t 5)), ⟨some 23, .load false 1 (t 22), none, true, false⟩, ⟨some 24, .iad 3 (t 21) (t 23), none, true, false⟩, ⟨some 25, .load true 3 (t 24), none, true, false⟩, o 26 (.fad 1 (t 4)), ⟨some 27, .load false 1 (t 26), none, true, false⟩, o 28 (.fad 0 (t 5)), ⟨some 29, .load false 1 (t 28), none, true, false⟩, ⟨some 30, .iad 3 (t 27) (t 29), none, true, false⟩, ⟨some 31, .load true 3 (t 30), none, true, false⟩, o 9 (.alloc [.i .i64 0, .i .i64 0, .s (⟨#[]⟩)]), o 10 (.alloc [.i .i64 0, .i .i64 0, .s (⟨#[]⟩)]), ⟨none, .store 3 (t 9) (t 25), none, false, true⟩, on (.store 3 (t 10) (t 31))])
 (.seq (.seq (.reg [o 32 (.fad 0 (t 9)), o 33 (.load false 1 (t 32)), o 34 (.bin .neq (t 33) (k 2)), o 35 (.mv (t 34)), og 36 35 false (.fad 0 (t 10)), og 37 35 false (.load false 1 (t 36)), og 38 35 false (.bin .neq (t 37) (k 2)), o 39 (.pick (t 35) (kb true) (t 38)), o 40 (.mv (t 39)), og 41 40 false (.fad 1 (t 5)), og 42 40 false (.load false 1 (t 41)), og 43 40 false (.bin .eql (t 42) (k 1)), o 44 (.pick (t 40) (kb true) (t 43))])
 (.cond (t 44) (.seq (.reg [o 45 (.load true 3 (t 9)), o 46 (.load true 3 (t 10)), o 47 (.call 302 [(t 45), (t 46)]), o 48 (.bin .eql (t 47) (k 0)), o 6 (.mv (t 48)), o 7 (.mv (k 0))])
 (.fz [6, 7] .ret))
 .skip))
 (.seq (.seq (.reg [o 49 (.fad 1 (t 5)), o 50 (.load false 1 (t 49))])
 (.blk 0 (.seq (.reg [o 52 (.bin .eql (t 50) (k 2)), o 51 (.mv (t 52))])
 (.cond (t 51) (.seq (.reg [o 53 (.fad 2 (t 9)), o 54 (.load false 1 (t 53)), o 55 (.fad 2 (t 10)), o 56 (.load false 1 (t 55)), o 57 (.call 585 [(t 54), (t 56)]), o 58 (.fad 2 (t 5)), o 59 (.load false 1 (t 58)), o 60 (.bin .leq (t 57) (t 59)), o 6 (.mv (t 60)), o 7 (.mv (k 0))])
 (.fz [6, 7] .ret))
 (.seq (.reg [o 62 (.bin .eql (t 50) (k 3)), o 61 (.mv (t 62))])
 (.cond (t 61) (.seq (.reg [o 64 (.fad 2 (t 9)), o 65 (.load false 1 (t 64)), o 66 (.fad 2 (t 10)), o 67 (.load false 1 (t 66)), o 68 (.call 578 [(t 65), (t 67), (k 2)]), o 63 (.mv (t 68)), o 69 (.ext (t 63) 0), o 70 (.ext (t 63) 1), o 11 (.alloc [.i .i64 0, .i .i64 0]), on (.store 2 (t 11) (t 69)), o 12 (.mv (t 70))])
 (.seq (.reg [o 71 (.fad 0 (t 11)), o 72 (.load false 1 (t 71)), o 73 (.bin .mul (k 100) (t 72)), o 74 (.fad 2 (t 5)), o 75 (.load false 1 (t 74)), o 76 (.fad 1 (t 11)), o 77 (.load false 1 (t 76)), o 78 (.bin .mul (t 75) (t 77)), o 79 (.bin .geq (t 73) (t 78)), o 6 (.mv (t 79)), o 7 (.mv (k 0))])
 (.fz [6, 7] .ret)))
 .skip))))))
 (.seq (.reg [o 80 (.fad 2 (t 9)), o 81 (.load false 1 (t 80)), o 82 (.fad 2 (t 5)), o 83 (.load false 1 (t 82)), o 84 (.call 599 [(t 81), (t 83)]), o 85 (.fad 2 (t 10)), o 86 (.load false 1 (t 85)), o 87 (.fad 2 (t 5)), o 88 (.load false 1 (t 87)), o 89 (.call 599 [(t 86), (t 88)]), o 90 (.bin .eql (t 84) (t 89)), o 6 (.mv (t 90)), o 7 (.mv (k 0))])
 (.fz [6, 7] .ret)))))))
def q75_F : VFn := ⟨true, 91, [.t 6, .t 7], q75_c⟩
def q75_f (lo : Lo) : FnE := ⟨588, true, ⟨[0, 1, 2], [.ag [.i .i64, .l (cs [I, I, .s])], .ag [.i .i64, .l (cs [I, I, .s])], .ag [.i .i64, .i .i64, .i .i64]], [], (cs [I, .l (cs [I, I, .s]), I, .l (cs [I, I, .s]), I, I, I])⟩, .tp [.b, .i .i64], [], (cs [.b, I]), (fun x => q75 lo x.1 x.2.1 x.2.2.1 x.2.2.2.1 x.2.2.2.2.1 x.2.2.2.2.2.1 x.2.2.2.2.2.2 : Int × (List (Int × Int × ByteArray)) × Int × (List (Int × Int × ByteArray)) × Int × Int × Int → Option (Bool × Int))⟩
theorem q75_e (lo : Lo) : ∀ x : Int × (List (Int × Int × ByteArray)) × Int × (List (Int × Int × ByteArray)) × Int × Int × Int, evP (⟨pf, fs75 lo, [], 0⟩ : Tabs) q75_F ⟨[0, 1, 2], [.ag [.i .i64, .l (cs [I, I, .s])], .ag [.i .i64, .l (cs [I, I, .s])], .ag [.i .i64, .i .i64, .i .i64]], [], (cs [I, .l (cs [I, I, .s]), I, .l (cs [I, I, .s]), I, I, I])⟩ (.tp [.b, .i .i64]) (cs [.b, I]) x = q75 lo x.1 x.2.1 x.2.2.1 x.2.2.2.1 x.2.2.2.2.1 x.2.2.2.2.2.1 x.2.2.2.2.2.2 := fun x => by kernel_rfl
theorem q75_S {P : Program} {fm : FM} {lo : Lo} (hlo : LoOK lo) (hS : Sound P fm ⟨pf, fs75 lo, [], 0⟩) (hm : P.follows .mixedOrders = true) (htie : ∀ f, fm f = 588 → fnTr P fm pf f = some (q75_F.slots, q75_F.res, q75_F.code.er)) : Sound P fm ⟨pf, q75_f lo :: fs75 lo, [], 0⟩ :=
  fn_sound hS hm [] (q75_f lo) rfl q75_F htie (by decide) rfl (Nat.le_of_ble_eq_true (by kernel_rfl)) (fun C hT => show LsOK (fun _ => False) [] C (⟨pf, fs75 lo, [], 0⟩ : Tabs) q75_c from ⟨trivial, ⟨⟨trivial, ⟨trivial, ⟨⟨trivial, trivial⟩, trivial⟩⟩⟩, ⟨trivial, ⟨⟨trivial, ⟨⟨trivial, trivial⟩, trivial⟩⟩, ⟨⟨trivial, ⟨trivial, ⟨⟨trivial, trivial⟩, ⟨trivial, ⟨⟨trivial, ⟨trivial, trivial⟩⟩, trivial⟩⟩⟩⟩⟩, ⟨trivial, trivial⟩⟩⟩⟩⟩⟩) (fun x y h => (q75_e lo x).trans h)
def fs76 (lo : Lo) : List FnE := q75_f lo :: fs75 lo
def q76_L6_b : VCode :=
 (.seq (.reg [o 39 (.bin .lss (t 38) (t 37))])
 (.seq (.cond (t 39) .skip
 (.exit 0))
 (.seq (.blk 1 (.seq (.reg [o 40 (.iad 3 (t 36) (t 38)), o 41 (.load true 3 (t 40)), o 8 (.alloc [.i .i64 0, .i .i64 0, .s (⟨#[]⟩)]), on (.store 3 (t 8) (t 41))])
 (.seq (.reg [o 42 (.fad 2 (t 8)), o 43 (.load false 1 (t 42)), o 44 (.lenS (t 43)), o 45 (.bin .gtr (t 44) (k 30)), o 46 (.mv (t 45)), og 47 46 true (.fad 2 (t 8)), og 48 46 true (.load false 1 (t 47)), og 49 46 true (.call 572 [(t 48)]), og 50 46 true (.not (t 49)), o 51 (.pick (t 46) (t 50) (kb false)), o 52 (.mv (t 51)), og 53 52 false (.fad 2 (t 8)), og 54 52 false (.load false 1 (t 53)), og 55 52 false (.lenS (t 54)), og 56 52 false (.bin .gtr (t 55) (k 300)), o 57 (.pick (t 52) (kb true) (t 56))])
 (.cond (t 57) (.seq (.reg [o 6 (.mv (kb true))])
 (.fz [6] .ret))
 .skip))))
 (.reg [o 58 (.bin .add (t 38) (k 1)), o 38 (.mv (t 58))]))))
def q76_L6_g : Sg := ⟨[3, 4, 5, 36, 37, 38], [.ptr 0 0 0, .ptr 1 0 0, .ptr 2 0 0, .ref 3, .i .i64, .i .i64], [.st [.i .i64, .l (cs [I, I, .s])], .st [.i .i64, .l (cs [I, I, .s])], .st [.i .i64, .i .i64, .i .i64], .sq (cs [I, I, .s])], (cs [I, I, I, .l (cs [I, I, .s]), I, .l (cs [I, I, .s]), I, I, I, .l (cs [I, I, .s])])⟩
def q76_L6_o : List Out1 := [⟨.ret, ⟨[6], [.b], [], (cs [.b])⟩⟩, ⟨.exit 0, ⟨[3, 4, 5], [.ptr 0 0 0, .ptr 1 0 0, .ptr 2 0 0], [.st [.i .i64, .l (cs [I, I, .s])], .st [.i .i64, .l (cs [I, I, .s])], .st [.i .i64, .i .i64, .i .i64]], (cs [I, .l (cs [I, I, .s]), I, .l (cs [I, I, .s]), I, I, I])⟩⟩]
def q76_L6_s (lo : Lo) : Int × Int × Int × (List (Int × Int × ByteArray)) × Int × (List (Int × Int × ByteArray)) × Int × Int × Int × (List (Int × Int × ByteArray)) → Option ((Int × Int × Int × (List (Int × Int × ByteArray)) × Int × (List (Int × Int × ByteArray)) × Int × Int × Int × (List (Int × Int × ByteArray))) ⊕ (Bool ⊕ (Int × (List (Int × Int × ByteArray)) × Int × (List (Int × Int × ByteArray)) × Int × Int × Int))) := fun x => match x with
  | (v37, v38, x3_0, x3_1, y4_0, y4_1, c5_0, c5_1, c5_2, v36) => bif (decide (v38 < v37)) then (chk (0 ≤ v38 ∧ v38 < (v36.length : Int)) (bif (decide ((30 : Int) < (((v36.getD v38.toNat ((0 : Int), (0 : Int), (ByteArray.mk #[]))).2.2).size : Int))) then (Option.bind (q48 lo ((v36.getD v38.toNat ((0 : Int), (0 : Int), (ByteArray.mk #[]))).2.2)) fun y284 => bif (!y284) then (some (.inr (.inl true))) else (bif (decide ((300 : Int) < (((v36.getD v38.toNat ((0 : Int), (0 : Int), (ByteArray.mk #[]))).2.2).size : Int))) then (some (.inr (.inl true))) else (some (.inl (v37, (IntKind.wrap .i64 (v38 + (1 : Int))), x3_0, x3_1, y4_0, y4_1, c5_0, c5_1, c5_2, v36))))) else (bif (decide ((300 : Int) < (((v36.getD v38.toNat ((0 : Int), (0 : Int), (ByteArray.mk #[]))).2.2).size : Int))) then (some (.inr (.inl true))) else (some (.inl (v37, (IntKind.wrap .i64 (v38 + (1 : Int))), x3_0, x3_1, y4_0, y4_1, c5_0, c5_1, c5_2, v36)))))) else (some (.inr (.inr (x3_0, x3_1, y4_0, y4_1, c5_0, c5_1, c5_2))))
theorem q76_L6_e (lo : Lo) : ∀ x : Int × Int × Int × (List (Int × Int × ByteArray)) × Int × (List (Int × Int × ByteArray)) × Int × Int × Int × (List (Int × Int × ByteArray)), stepL (⟨pf, fs76 lo, [], 0⟩ : Tabs) [] q76_L6_g q76_L6_o q76_L6_b x = q76_L6_s lo x := fun x => by kernel_rfl
def q76_L6 (lo : Lo) : Int × Int × Int × (List (Int × Int × ByteArray)) × Int × (List (Int × Int × ByteArray)) × Int × Int × Int × (List (Int × Int × ByteArray)) → Option (Bool ⊕ (Int × (List (Int × Int × ByteArray)) × Int × (List (Int × Int × ByteArray)) × Int × Int × Int)) := lo.run (q76_L6_s lo)
def q76_L6_p (lo : Lo) : LpE := ⟨6, [], q76_L6_g, q76_L6_o, q76_L6 lo⟩
theorem q76_L6_k {lo : Lo} (hlo : LoOK lo) (C : Ctx) (hT : TOK (⟨pf, fs76 lo, [], 0⟩ : Tabs) C) : LpSound (fun _ => False) [] 0 C (.loop q76_L6_b.er) (q76_L6_p lo) :=
  loop_sound (T := (⟨pf, fs76 lo, [], 0⟩ : Tabs)) hT frNo (show LsOK (fun _ => False) [] C (⟨pf, fs76 lo, [], 0⟩ : Tabs) q76_L6_b from ⟨trivial, ⟨⟨trivial, trivial⟩, ⟨⟨trivial, ⟨trivial, ⟨⟨trivial, trivial⟩, trivial⟩⟩⟩, trivial⟩⟩⟩) (fun x y h => loopO_congr (q76_L6_e lo) (hlo _ _ _ h))
def q76 (lo : Lo) (x0_0 : Int) (x0_1 : List (Int × Int × ByteArray)) (y1_0 : Int) (y1_1 : List (Int × Int × ByteArray)) (c2_0 : Int) (c2_1 : Int) (c2_2 : Int) : Option Bool :=
  Option.bind (q46 lo) fun y280 => bif (!y280) then (Option.bind (q46 lo) fun y281 => some y281) else (bif (decide ((20 : Int) < (x0_1.length : Int))) then (Option.bind (q46 lo) fun y282 => some y282) else (bif (decide ((20 : Int) < (y1_1.length : Int))) then (Option.bind (q46 lo) fun y283 => some y283) else (chk (x0_1.length ≤ maxEl) (chk (x0_1.length + y1_1.length ≤ maxEl) (Option.bind (q76_L6 lo (((x0_1 ++ y1_1).length : Int), (0 : Int), x0_0, x0_1, y1_0, y1_1, c2_0, c2_1, c2_2, (x0_1 ++ y1_1))) fun y285 => alt2 y285 (fun y286 => some y286) (fun y287 => Option.bind (q67 lo y287.1 y287.2.1 y287.2.2.1 y287.2.2.2.1 y287.2.2.2.2.1 y287.2.2.2.2.2.1 y287.2.2.2.2.2.2) fun y299 => Option.bind (q75 lo y287.1 y287.2.1 y287.2.2.1 y287.2.2.2.1 y287.2.2.2.2.1 y287.2.2.2.2.2.1 y287.2.2.2.2.2.2) fun y325 => Option.bind (q67 lo y287.2.2.1 y287.2.2.2.1 y287.1 y287.2.1 y287.2.2.2.2.1 y287.2.2.2.2.2.1 y287.2.2.2.2.2.2) fun y326 => bif (y299.1 == y325.1) then (bif (decide (y299.2 = y325.2)) then (bif (y326.1 == y299.1) then (some (decide (y326.2 = y299.2))) else (some false)) else (some false)) else (some false)))))))
def q76_c : VCode :=
 (.seq (.reg [o 3 (.box (t 0)), o 4 (.box (t 1)), o 5 (.box (t 2)), o 6 (.mv (kb false))])
 (.seq (.seq (.reg [o 15 (.call 570 []), o 16 (.not (t 15)), o 17 (.mv (t 16)), og 18 17 false (.fad 1 (t 3)), og 19 17 false (.load false 1 (t 18)), og 20 17 false (.len (t 19)), og 21 17 false (.bin .gtr (t 20) (k 20)), o 22 (.pick (t 17) (kb true) (t 21)), o 23 (.mv (t 22)), og 24 23 false (.fad 1 (t 4)), og 25 23 false (.load false 1 (t 24)), og 26 23 false (.len (t 25)), og 27 23 false (.bin .gtr (t 26) (k 20)), o 28 (.pick (t 23) (kb true) (t 27))])
 (.cond (t 28) (.seq (.reg [o 29 (.call 570 []), o 6 (.mv (t 29))])
 (.fz [6] .ret))
 .skip))
 (.seq (.seq (.reg [o 30 (.bsl (cs [I, I, .s]) 0 []), o 31 (.fad 1 (t 3)), o 32 (.load false 1 (t 31)), ⟨some 33, .app (cs [I, I, .s]) 0 (t 30) (t 32), none, false, true⟩, o 34 (.fad 1 (t 4)), ⟨some 35, .load false 1 (t 34), none, true, false⟩, o 36 (.app (cs [I, I, .s]) 0 (t 33) (t 35)), o 37 (.len (t 36)), o 38 (.mv (k 0))])
 (.blk 0 (.loop 6 q76_L6_b)))
 (.seq (.reg [o 60 (.load true 2 (t 3)), o 61 (.load true 2 (t 4)), o 62 (.load true 3 (t 5)), o 63 (.call 587 [(t 60), (t 61), (t 62)]), o 59 (.mv (t 63)), o 64 (.ext (t 59) 0), o 65 (.ext (t 59) 1), o 9 (.mv (t 64)), o 10 (.mv (t 65))])
 (.seq (.reg [o 67 (.load true 2 (t 3)), o 68 (.load true 2 (t 4)), o 69 (.load true 3 (t 5)), o 70 (.call 588 [(t 67), (t 68), (t 69)]), o 66 (.mv (t 70)), o 71 (.ext (t 66) 0), o 72 (.ext (t 66) 1), o 11 (.mv (t 71)), o 12 (.mv (t 72))])
 (.seq (.reg [o 74 (.load true 2 (t 4)), o 75 (.load true 2 (t 3)), o 76 (.load true 3 (t 5)), o 77 (.call 587 [(t 74), (t 75), (t 76)]), o 73 (.mv (t 77)), o 78 (.ext (t 73) 0), o 79 (.ext (t 73) 1), o 13 (.mv (t 78)), o 14 (.mv (t 79))])
 (.seq (.reg [o 80 (.mv (t 9)), o 81 (.mv (t 11)), o 82 (.beq false (t 80) (t 81)), o 83 (.mv (t 82)), og 84 83 true (.mv (t 10)), og 85 83 true (.mv (t 12)), og 86 83 true (.bin .eql (t 84) (t 85)), o 87 (.pick (t 83) (t 86) (kb false)), o 88 (.mv (t 87)), og 89 88 true (.mv (t 13)), og 90 88 true (.mv (t 9)), og 91 88 true (.beq false (t 89) (t 90)), o 92 (.pick (t 88) (t 91) (kb false)), o 93 (.mv (t 92)), og 94 93 true (.mv (t 14)), og 95 93 true (.mv (t 10)), og 96 93 true (.bin .eql (t 94) (t 95)), o 97 (.pick (t 93) (t 96) (kb false)), o 6 (.mv (t 97))])
 (.fz [6] .ret))))))))
def q76_F : VFn := ⟨true, 98, [.t 6], q76_c⟩
def q76_f (lo : Lo) : FnE := ⟨569, true, ⟨[0, 1, 2], [.ag [.i .i64, .l (cs [I, I, .s])], .ag [.i .i64, .l (cs [I, I, .s])], .ag [.i .i64, .i .i64, .i .i64]], [], (cs [I, .l (cs [I, I, .s]), I, .l (cs [I, I, .s]), I, I, I])⟩, .b, [], (cs [.b]), (fun x => q76 lo x.1 x.2.1 x.2.2.1 x.2.2.2.1 x.2.2.2.2.1 x.2.2.2.2.2.1 x.2.2.2.2.2.2 : Int × (List (Int × Int × ByteArray)) × Int × (List (Int × Int × ByteArray)) × Int × Int × Int → Option Bool)⟩
theorem q76_e (lo : Lo) : ∀ x : Int × (List (Int × Int × ByteArray)) × Int × (List (Int × Int × ByteArray)) × Int × Int × Int, evP (⟨pf, fs76 lo, [q76_L6_p lo], 0⟩ : Tabs) q76_F ⟨[0, 1, 2], [.ag [.i .i64, .l (cs [I, I, .s])], .ag [.i .i64, .l (cs [I, I, .s])], .ag [.i .i64, .i .i64, .i .i64]], [], (cs [I, .l (cs [I, I, .s]), I, .l (cs [I, I, .s]), I, I, I])⟩ (.b) (cs [.b]) x = q76 lo x.1 x.2.1 x.2.2.1 x.2.2.2.1 x.2.2.2.2.1 x.2.2.2.2.2.1 x.2.2.2.2.2.2 := fun x => by kernel_rfl
theorem q76_S {P : Program} {fm : FM} {lo : Lo} (hlo : LoOK lo) (hS : Sound P fm ⟨pf, fs76 lo, [], 0⟩) (hm : P.follows .mixedOrders = true) (htie : ∀ f, fm f = 569 → fnTr P fm pf f = some (q76_F.slots, q76_F.res, q76_F.code.er)) : Sound P fm ⟨pf, q76_f lo :: fs76 lo, [], 0⟩ :=
  fn_sound hS hm [q76_L6_p lo] (q76_f lo) rfl q76_F htie (by decide) rfl (Nat.le_of_ble_eq_true (by kernel_rfl)) (fun C hT => show LsOK (fun _ => False) [] C (⟨pf, fs76 lo, [q76_L6_p lo], 0⟩ : Tabs) q76_c from ⟨trivial, ⟨⟨trivial, ⟨⟨trivial, trivial⟩, trivial⟩⟩, ⟨⟨trivial, (lsGet (by kernel_rfl) (q76_L6_k hlo C (tok_ls hT)))⟩, ⟨trivial, ⟨trivial, ⟨trivial, ⟨trivial, trivial⟩⟩⟩⟩⟩⟩⟩) (fun x y h => (q76_e lo x).trans h)
def fs77 (lo : Lo) : List FnE := q76_f lo :: fs76 lo
end Go.Abs.G52
