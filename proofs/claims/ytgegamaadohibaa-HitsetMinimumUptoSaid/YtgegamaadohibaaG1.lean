/- Functions of the program as functions of data (written by program). No condition. -/
import Derived.Test.YtgegamaadohibaaG
set_option linter.unusedVariables false
set_option linter.unusedSimpArgs false
set_option linter.unusedSectionVars false
namespace Go.Abs.G39
open Go Go.Abs
set_option maxRecDepth 100000
set_option linter.unusedVariables false
set_option maxHeartbeats 1000000
def q51_q (F : (List (Int × (List (Int × Int)))) × Int × (List Int) × (List ((List Int))) × Int × (List Int) → Option ((List (Int × (List (Int × Int)))) × Bool × (List Int) × (List ((List Int))) × Int × (List Int))) : FnE := ⟨432, false, ⟨[0, 1, 2], [.ptr 0 0 0, .l (cs [I, .l (cs [I, I])]), .i .i64], [.st [.l (cs [I]), .l (cs [.l (cs [I])]), .ref 1, .i .i64], .sq (cs [I])], (cs [.l (cs [I, .l (cs [I, I])]), I, .l (cs [I]), .l (cs [.l (cs [I])]), I, .l (cs [I])])⟩, .tp [.l (cs [I, .l (cs [I, I])]), .b], [.st [.l (cs [I]), .l (cs [.l (cs [I])]), .ref 1, .i .i64], .sq (cs [I])], (cs [.l (cs [I, .l (cs [I, I])]), .b, .l (cs [I]), .l (cs [.l (cs [I])]), I, .l (cs [I])]), F⟩
def q51_r (lo : Lo) (rec : (List (Int × (List (Int × Int)))) × Int × (List Int) × (List ((List Int))) × Int × (List Int) → Option ((List (Int × (List (Int × Int)))) × Bool × (List Int) × (List ((List Int))) × Int × (List Int))) (proof1 : List (Int × (List (Int × Int)))) (bound2 : Int) (s0_0 : List Int) (s0_1 : List ((List Int))) (s0_2 : Int) (h1 : List Int) : Option ((List (Int × (List (Int × Int)))) × Bool × (List Int) × (List ((List Int))) × Int × (List Int)) :=
  bif (decide ((proof1.length : Int) = (0 : Int))) then (some (([] : List (Int × (List (Int × Int)))), false, s0_0, s0_1, s0_2, h1)) else (chk (0 ≤ (0 : Int) ∧ (0 : Int) < (proof1.length : Int)) (chk (0 ≤ (1 : Int) ∧ (1 : Int) ≤ (proof1.length : Int) ∧ (proof1.length : Int) ≤ (proof1.length : Int)) (bif (decide ((proof1.getD 0 ((0 : Int), [])).1 = (-1 : Int))) then (bif (decide ((((proof1.getD 0 ((0 : Int), [])).2).length : Int) = (0 : Int))) then (bif (decide (bound2 ≤ (0 : Int))) then (some (((proof1.take (proof1.length : Int).toNat).drop 1), true, s0_0, s0_1, s0_2, h1)) else (Option.bind (q38 lo s0_0 s0_1 s0_2 h1) fun y167 => chk (y167.2.2.2.2.length = h1.length) (some (((proof1.take (proof1.length : Int).toNat).drop 1), y167.1, y167.2.1, y167.2.2.1, y167.2.2.2.1, y167.2.2.2.2)))) else (bif (decide ((proof1.getD 0 ((0 : Int), [])).1 = (-1 : Int))) then (Option.bind (q50 lo ((proof1.getD 0 ((0 : Int), [])).2) bound2 s0_0 s0_1 s0_2 h1) fun y175 => chk (y175.2.2.2.2.length = h1.length) (some (((proof1.take (proof1.length : Int).toNat).drop 1), y175.1, y175.2.1, y175.2.2.1, y175.2.2.2.1, y175.2.2.2.2))) else (bif (decide ((proof1.getD 0 ((0 : Int), [])).1 < (0 : Int))) then (some (([] : List (Int × (List (Int × Int)))), false, s0_0, s0_1, s0_2, h1)) else (bif (decide ((h1.length : Int) ≤ (proof1.getD 0 ((0 : Int), [])).1)) then (some (([] : List (Int × (List (Int × Int)))), false, s0_0, s0_1, s0_2, h1)) else (bif (decide ((0 : Int) < (((proof1.getD 0 ((0 : Int), [])).2).length : Int))) then (some (([] : List (Int × (List (Int × Int)))), false, s0_0, s0_1, s0_2, h1)) else (chk (0 ≤ (proof1.getD 0 ((0 : Int), [])).1 ∧ (proof1.getD 0 ((0 : Int), [])).1 < (h1.length : Int)) (bif (!decide (h1.getD (((proof1.getD 0 ((0 : Int), [])).1).toNat) (0 : Int) = (0 : Int))) then (some (([] : List (Int × (List (Int × Int)))), false, s0_0, s0_1, s0_2, h1)) else (chk (0 ≤ (proof1.getD 0 ((0 : Int), [])).1 ∧ (proof1.getD 0 ((0 : Int), [])).1 < (h1.length : Int)) (chk (0 ≤ (proof1.getD 0 ((0 : Int), [])).1 ∧ (proof1.getD 0 ((0 : Int), [])).1 < (s0_0.length : Int)) (Option.bind (rec (((proof1.take (proof1.length : Int).toNat).drop 1), (IntKind.wrap .i64 (bound2 - (s0_0.getD (((proof1.getD 0 ((0 : Int), [])).1).toNat) (0 : Int)))), s0_0, s0_1, s0_2, (h1.set (((proof1.getD 0 ((0 : Int), [])).1).toNat) (1 : Int)))) fun y176 => chk (y176.2.2.2.2.2.length = (h1.set (((proof1.getD 0 ((0 : Int), [])).1).toNat) (1 : Int)).length) (bif y176.2.1 then (chk (0 ≤ (proof1.getD 0 ((0 : Int), [])).1 ∧ (proof1.getD 0 ((0 : Int), [])).1 < (y176.2.2.2.2.2.length : Int)) (Option.bind (rec (y176.1, bound2, y176.2.2.1, y176.2.2.2.1, y176.2.2.2.2.1, (y176.2.2.2.2.2.set (((proof1.getD 0 ((0 : Int), [])).1).toNat) (2 : Int)))) fun y177 => chk (y177.2.2.2.2.2.length = (y176.2.2.2.2.2.set (((proof1.getD 0 ((0 : Int), [])).1).toNat) (2 : Int)).length) (chk (0 ≤ (proof1.getD 0 ((0 : Int), [])).1 ∧ (proof1.getD 0 ((0 : Int), [])).1 < (y177.2.2.2.2.2.length : Int)) (some (y177.1, y177.2.1, y177.2.2.1, y177.2.2.2.1, y177.2.2.2.2.1, (y177.2.2.2.2.2.set (((proof1.getD 0 ((0 : Int), [])).1).toNat) (0 : Int))))))) else (chk (0 ≤ (proof1.getD 0 ((0 : Int), [])).1 ∧ (proof1.getD 0 ((0 : Int), [])).1 < (y176.2.2.2.2.2.length : Int)) (some (y176.1, y176.2.1, y176.2.2.1, y176.2.2.2.1, y176.2.2.2.2.1, (y176.2.2.2.2.2.set (((proof1.getD 0 ((0 : Int), [])).1).toNat) (0 : Int)))))))))))))))) else (bif (decide ((proof1.getD 0 ((0 : Int), [])).1 = (-1 : Int))) then (Option.bind (q50 lo ((proof1.getD 0 ((0 : Int), [])).2) bound2 s0_0 s0_1 s0_2 h1) fun y178 => chk (y178.2.2.2.2.length = h1.length) (some (((proof1.take (proof1.length : Int).toNat).drop 1), y178.1, y178.2.1, y178.2.2.1, y178.2.2.2.1, y178.2.2.2.2))) else (bif (decide ((proof1.getD 0 ((0 : Int), [])).1 < (0 : Int))) then (some (([] : List (Int × (List (Int × Int)))), false, s0_0, s0_1, s0_2, h1)) else (bif (decide ((h1.length : Int) ≤ (proof1.getD 0 ((0 : Int), [])).1)) then (some (([] : List (Int × (List (Int × Int)))), false, s0_0, s0_1, s0_2, h1)) else (bif (decide ((0 : Int) < (((proof1.getD 0 ((0 : Int), [])).2).length : Int))) then (some (([] : List (Int × (List (Int × Int)))), false, s0_0, s0_1, s0_2, h1)) else (chk (0 ≤ (proof1.getD 0 ((0 : Int), [])).1 ∧ (proof1.getD 0 ((0 : Int), [])).1 < (h1.length : Int)) (bif (!decide (h1.getD (((proof1.getD 0 ((0 : Int), [])).1).toNat) (0 : Int) = (0 : Int))) then (some (([] : List (Int × (List (Int × Int)))), false, s0_0, s0_1, s0_2, h1)) else (chk (0 ≤ (proof1.getD 0 ((0 : Int), [])).1 ∧ (proof1.getD 0 ((0 : Int), [])).1 < (h1.length : Int)) (chk (0 ≤ (proof1.getD 0 ((0 : Int), [])).1 ∧ (proof1.getD 0 ((0 : Int), [])).1 < (s0_0.length : Int)) (Option.bind (rec (((proof1.take (proof1.length : Int).toNat).drop 1), (IntKind.wrap .i64 (bound2 - (s0_0.getD (((proof1.getD 0 ((0 : Int), [])).1).toNat) (0 : Int)))), s0_0, s0_1, s0_2, (h1.set (((proof1.getD 0 ((0 : Int), [])).1).toNat) (1 : Int)))) fun y179 => chk (y179.2.2.2.2.2.length = (h1.set (((proof1.getD 0 ((0 : Int), [])).1).toNat) (1 : Int)).length) (bif y179.2.1 then (chk (0 ≤ (proof1.getD 0 ((0 : Int), [])).1 ∧ (proof1.getD 0 ((0 : Int), [])).1 < (y179.2.2.2.2.2.length : Int)) (Option.bind (rec (y179.1, bound2, y179.2.2.1, y179.2.2.2.1, y179.2.2.2.2.1, (y179.2.2.2.2.2.set (((proof1.getD 0 ((0 : Int), [])).1).toNat) (2 : Int)))) fun y180 => chk (y180.2.2.2.2.2.length = (y179.2.2.2.2.2.set (((proof1.getD 0 ((0 : Int), [])).1).toNat) (2 : Int)).length) (chk (0 ≤ (proof1.getD 0 ((0 : Int), [])).1 ∧ (proof1.getD 0 ((0 : Int), [])).1 < (y180.2.2.2.2.2.length : Int)) (some (y180.1, y180.2.1, y180.2.2.1, y180.2.2.2.1, y180.2.2.2.2.1, (y180.2.2.2.2.2.set (((proof1.getD 0 ((0 : Int), [])).1).toNat) (0 : Int))))))) else (chk (0 ≤ (proof1.getD 0 ((0 : Int), [])).1 ∧ (proof1.getD 0 ((0 : Int), [])).1 < (y179.2.2.2.2.2.length : Int)) (some (y179.1, y179.2.1, y179.2.2.1, y179.2.2.2.1, y179.2.2.2.2.1, (y179.2.2.2.2.2.set (((proof1.getD 0 ((0 : Int), [])).1).toNat) (0 : Int))))))))))))))))))
def q51_n (lo : Lo) : Nat → (List (Int × (List (Int × Int)))) × Int × (List Int) × (List ((List Int))) × Int × (List Int) → Option ((List (Int × (List (Int × Int)))) × Bool × (List Int) × (List ((List Int))) × Int × (List Int))
  | 0, _ => none
  | n + 1, x => q51_r lo (q51_n lo n) x.1 x.2.1 x.2.2.1 x.2.2.2.1 x.2.2.2.2.1 x.2.2.2.2.2
def q51 (lo : Lo) (proof1 : List (Int × (List (Int × Int)))) (bound2 : Int) (s0_0 : List Int) (s0_1 : List ((List Int))) (s0_2 : Int) (h1 : List Int) : Option ((List (Int × (List (Int × Int)))) × Bool × (List Int) × (List ((List Int))) × Int × (List Int)) := lo.run (fixS (q51_n lo)) (0, (proof1, bound2, s0_0, s0_1, s0_2, h1))
def q51_c : VCode :=
 (.seq (.reg [o 6 (.mv (ke (cs [I, .l (cs [I, I])]))), o 7 (.mv (kb false))])
 (.seq (.seq (.reg [o 11 (.mv (t 1)), o 12 (.len (t 11)), o 13 (.bin .eql (t 12) (k 0))])
 (.cond (t 13) (.seq (.reg [o 6 (.mv (ke (cs [I, .l (cs [I, I])]))), o 7 (.mv (kb false))])
 .ret)
 .skip))
 (.seq (.reg [o 14 (.mv (t 1)), ⟨some 15, .iad 2 (t 14) (k 0), none, true, false⟩, ⟨some 16, .load true 2 (t 15), none, true, false⟩, o 17 (.mv (t 1)), o 18 (.slcR 2 (t 17) (some (k 1)) none), o 8 (.alloc [.i .i64 0, .e (cs [I, I])]), on (.store 2 (t 8) (t 16)), o 9 (.mv (t 18))])
 (.seq (.blk 0 (.seq (.reg [o 20 (.fad 0 (t 8)), o 21 (.load false 1 (t 20)), o 22 (.bin .eql (t 21) (k (-1))), o 23 (.mv (t 22)), og 24 23 true (.fad 1 (t 8)), og 25 23 true (.load false 1 (t 24)), og 26 23 true (.len (t 25)), og 27 23 true (.bin .eql (t 26) (k 0)), o 28 (.pick (t 23) (t 27) (kb false)), o 19 (.mv (t 28))])
 (.cond (t 19) (.seq (.reg [o 29 (.mv (t 9)), o 30 (.mv (t 2)), o 31 (.bin .leq (t 30) (k 0)), o 32 (.mv (t 31)), og 33 32 false (.mv (t 0)), og 34 32 false (.call 444 [(t 33)]), o 35 (.pick (t 32) (kb true) (t 34)), o 6 (.mv (t 29)), o 7 (.mv (t 35))])
 .ret)
 (.seq (.reg [o 37 (.fad 0 (t 8)), o 38 (.load false 1 (t 37)), o 39 (.bin .eql (t 38) (k (-1))), o 36 (.mv (t 39))])
 (.cond (t 36) (.seq (.reg [o 40 (.mv (t 9)), o 41 (.mv (t 0)), o 42 (.fad 1 (t 8)), o 43 (.load false 1 (t 42)), o 44 (.mv (t 2)), o 45 (.call 446 [(t 41), (t 43), (t 44)]), o 6 (.mv (t 40)), o 7 (.mv (t 45))])
 .ret)
 (.seq (.reg [o 47 (.fad 0 (t 8)), o 48 (.load false 1 (t 47)), o 49 (.bin .lss (t 48) (k 0)), o 50 (.mv (t 49)), og 51 50 false (.fad 0 (t 8)), og 52 50 false (.load false 1 (t 51)), og 53 50 false (.mv (t 0)), og 54 50 false (.nilc (t 53)), og 55 50 false (.fad 2 (t 54)), og 56 50 false (.load false 1 (t 55)), og 57 50 false (.len (t 56)), og 58 50 false (.bin .geq (t 52) (t 57)), o 59 (.pick (t 50) (kb true) (t 58)), o 60 (.mv (t 59)), og 61 60 false (.fad 1 (t 8)), og 62 60 false (.load false 1 (t 61)), og 63 60 false (.len (t 62)), og 64 60 false (.bin .gtr (t 63) (k 0)), o 65 (.pick (t 60) (kb true) (t 64)), o 66 (.mv (t 65)), og 67 66 false (.mv (t 0)), og 68 66 false (.nilc (t 67)), og 69 66 false (.fad 2 (t 68)), og 70 66 false (.load false 1 (t 69)), og 71 66 false (.fad 0 (t 8)), og 72 66 false (.load false 1 (t 71)), og 73 66 false (.iad 1 (t 70) (t 72)), og 74 66 false (.load false 1 (t 73)), og 75 66 false (.bin .neq (t 74) (k 0)), o 76 (.pick (t 66) (kb true) (t 75)), o 46 (.mv (t 76))])
 (.cond (t 46) (.seq (.reg [o 6 (.mv (ke (cs [I, .l (cs [I, I])]))), o 7 (.mv (kb false))])
 .ret)
 .skip)))))))
 (.seq (.reg [o 77 (.mv (t 0)), o 78 (.nilc (t 77)), o 79 (.fad 2 (t 78)), o 80 (.load false 1 (t 79)), o 81 (.fad 0 (t 8)), o 82 (.load false 1 (t 81)), o 83 (.iad 1 (t 80) (t 82)), on (.store 1 (t 83) (k 1))])
 (.seq (.reg [o 85 (.mv (t 0)), o 86 (.mv (t 9)), o 87 (.mv (t 2)), o 88 (.mv (t 0)), o 89 (.nilc (t 88)), o 90 (.fad 0 (t 89)), o 91 (.fad 0 (t 90)), o 92 (.load false 1 (t 91)), o 93 (.fad 0 (t 8)), o 94 (.load false 1 (t 93)), o 95 (.iad 1 (t 92) (t 94)), o 96 (.load false 1 (t 95)), o 97 (.bin .sub (t 87) (t 96)), o 98 (.call 432 [(t 85), (t 86), (t 97)]), o 84 (.mv (t 98)), o 99 (.ext (t 84) 0), o 100 (.ext (t 84) 1), o 9 (.mv (t 99)), o 10 (.mv (t 100))])
 (.seq (.seq (.reg [o 101 (.mv (t 10))])
 (.cond (t 101) (.seq (.reg [o 102 (.mv (t 0)), o 103 (.nilc (t 102)), o 104 (.fad 2 (t 103)), o 105 (.load false 1 (t 104)), o 106 (.fad 0 (t 8)), o 107 (.load false 1 (t 106)), o 108 (.iad 1 (t 105) (t 107)), on (.store 1 (t 108) (k 2))])
 (.reg [o 110 (.mv (t 0)), o 111 (.mv (t 9)), o 112 (.mv (t 2)), o 113 (.call 432 [(t 110), (t 111), (t 112)]), o 109 (.mv (t 113)), o 114 (.ext (t 109) 0), o 115 (.ext (t 109) 1), o 9 (.mv (t 114)), o 10 (.mv (t 115))]))
 .skip))
 (.seq (.reg [o 116 (.mv (t 0)), o 117 (.nilc (t 116)), o 118 (.fad 2 (t 117)), o 119 (.load false 1 (t 118)), o 120 (.fad 0 (t 8)), o 121 (.load false 1 (t 120)), o 122 (.iad 1 (t 119) (t 121)), on (.store 1 (t 122) (k 0))])
 (.seq (.reg [o 123 (.mv (t 9)), o 124 (.mv (t 10)), o 6 (.mv (t 123)), o 7 (.mv (t 124))])
 .ret)))))))))
def q51_F : VFn := ⟨true, 125, [.t 6, .t 7], q51_c⟩
def q51_f (lo : Lo) : FnE := ⟨432, false, ⟨[0, 1, 2], [.ptr 0 0 0, .l (cs [I, .l (cs [I, I])]), .i .i64], [.st [.l (cs [I]), .l (cs [.l (cs [I])]), .ref 1, .i .i64], .sq (cs [I])], (cs [.l (cs [I, .l (cs [I, I])]), I, .l (cs [I]), .l (cs [.l (cs [I])]), I, .l (cs [I])])⟩, .tp [.l (cs [I, .l (cs [I, I])]), .b], [.st [.l (cs [I]), .l (cs [.l (cs [I])]), .ref 1, .i .i64], .sq (cs [I])], (cs [.l (cs [I, .l (cs [I, I])]), .b, .l (cs [I]), .l (cs [.l (cs [I])]), I, .l (cs [I])]), (fun x => q51 lo x.1 x.2.1 x.2.2.1 x.2.2.2.1 x.2.2.2.2.1 x.2.2.2.2.2 : (List (Int × (List (Int × Int)))) × Int × (List Int) × (List ((List Int))) × Int × (List Int) → Option ((List (Int × (List (Int × Int)))) × Bool × (List Int) × (List ((List Int))) × Int × (List Int)))⟩
theorem q51_e (lo : Lo) (rec : (List (Int × (List (Int × Int)))) × Int × (List Int) × (List ((List Int))) × Int × (List Int) → Option ((List (Int × (List (Int × Int)))) × Bool × (List Int) × (List ((List Int))) × Int × (List Int))) : ∀ x : (List (Int × (List (Int × Int)))) × Int × (List Int) × (List ((List Int))) × Int × (List Int), evI (⟨pf, q51_q rec :: fs51 lo, [], 2⟩ : Tabs) q51_F ⟨[0, 1, 2], [.ptr 0 0 0, .l (cs [I, .l (cs [I, I])]), .i .i64], [.st [.l (cs [I]), .l (cs [.l (cs [I])]), .ref 1, .i .i64], .sq (cs [I])], (cs [.l (cs [I, .l (cs [I, I])]), I, .l (cs [I]), .l (cs [.l (cs [I])]), I, .l (cs [I])])⟩ (.tp [.l (cs [I, .l (cs [I, I])]), .b]) [.st [.l (cs [I]), .l (cs [.l (cs [I])]), .ref 1, .i .i64], .sq (cs [I])] (cs [.l (cs [I, .l (cs [I, I])]), .b, .l (cs [I]), .l (cs [.l (cs [I])]), I, .l (cs [I])]) x = q51_r lo rec x.1 x.2.1 x.2.2.1 x.2.2.2.1 x.2.2.2.2.1 x.2.2.2.2.2 := fun x => by kernel_rfl
theorem q51_S {P : Program} {fm : FM} {lo : Lo} (hlo : LoOK lo) (hS : Sound P fm ⟨pf, fs51 lo, [], 0⟩) (hm : P.follows .mixedOrders = true) (htie : ∀ f, fm f = 432 → fnTr P fm pf f = some (q51_F.slots, q51_F.res, q51_F.code.er)) : Sound P fm ⟨pf, q51_f lo :: fs51 lo, [], 0⟩ :=
  fnI_rec hS hm (q51_f lo) rfl (q51_n lo) (fun n => (fun (rec : (List (Int × (List (Int × Int)))) × Int × (List Int) × (List ((List Int))) × Int × (List Int) → Option ((List (Int × (List (Int × Int)))) × Bool × (List Int) × (List ((List Int))) × Int × (List Int))) => ([] : List LpE)) (q51_n lo n)) q51_F htie (by decide) rfl (Nat.le_of_ble_eq_true (by kernel_rfl)) (fun _ => rfl) (fun x y h => fix_lim (hlo _ _ _ h))
    (fun n C hT Fr H0 hf => (fun (rec : (List (Int × (List (Int × Int)))) × Int × (List Int) × (List ((List Int))) × Int × (List Int) → Option ((List (Int × (List (Int × Int)))) × Bool × (List Int) × (List ((List Int))) × Int × (List Int))) (hT : TOK (⟨pf, q51_q rec :: fs51 lo, [], 2⟩ : Tabs) C) => show LsOK Fr H0 C (⟨pf, q51_q rec :: fs51 lo, [], 2⟩ : Tabs) q51_c from ⟨trivial, ⟨⟨trivial, ⟨⟨trivial, trivial⟩, trivial⟩⟩, ⟨trivial, ⟨⟨trivial, ⟨⟨trivial, trivial⟩, ⟨trivial, ⟨⟨trivial, trivial⟩, ⟨trivial, ⟨⟨trivial, trivial⟩, trivial⟩⟩⟩⟩⟩⟩, ⟨trivial, ⟨trivial, ⟨⟨trivial, ⟨⟨trivial, trivial⟩, trivial⟩⟩, ⟨trivial, ⟨trivial, trivial⟩⟩⟩⟩⟩⟩⟩⟩⟩) (q51_n lo n) hT) (fun n x y h => (q51_e lo (q51_n lo n) x).trans h)
def fs52 (lo : Lo) : List FnE := q51_f lo :: fs51 lo
def q52 (lo : Lo) (in0_0 : List Int) (in0_1 : List ((List Int))) (bound1 : Int) (proof2 : List (Int × (List (Int × Int)))) : Option Bool :=
  Option.bind (q1 lo in0_0 in0_1) fun y165 => bif (!decide (y165 = (0 : Int))) then (some false) else (bif (decide (bound1 < (-1000000000000000 : Int))) then (some false) else (bif (decide ((1000000000000000 : Int) < bound1)) then (some false) else (Option.bind (q29 lo in0_0 in0_1 (0 : Int)) fun y166 => Option.bind (q51 lo proof2 bound1 y166.1 y166.2.1 y166.2.2.1 y166.2.2.2) fun y181 => chk (y181.2.2.2.2.2.length = y166.2.2.2.length) (bif y181.2.1 then (some (decide ((y181.1.length : Int) = (0 : Int)))) else (some false)))))
def q52_c : VCode :=
 (.seq (.reg [o 3 (.box (t 0)), o 6 (.mv (kb false))])
 (.seq (.seq (.reg [o 9 (.load true 2 (t 3)), o 10 (.call 401 [(t 9)]), o 11 (.bin .neq (t 10) (k 0)), o 12 (.mv (t 11)), og 13 12 false (.mv (t 1)), og 14 12 false (.bin .lss (t 13) (k (-1000000000000000))), o 15 (.pick (t 12) (kb true) (t 14)), o 16 (.mv (t 15)), og 17 16 false (.mv (t 1)), og 18 16 false (.bin .gtr (t 17) (k 1000000000000000)), o 19 (.pick (t 16) (kb true) (t 18))])
 (.cond (t 19) (.seq (.reg [o 6 (.mv (kb false))])
 (.fz [6] .ret))
 .skip))
 (.seq (.reg [o 21 (.load true 2 (t 3)), o 22 (.call 429 [(t 21), (k 0)]), o 23 (.mv (t 2)), o 24 (.mv (t 1)), o 25 (.call 432 [(t 22), (t 23), (t 24)]), o 20 (.mv (t 25)), o 26 (.ext (t 20) 0), o 27 (.ext (t 20) 1), o 7 (.mv (t 26)), o 8 (.mv (t 27))])
 (.seq (.reg [o 28 (.mv (t 8)), o 29 (.mv (t 28)), og 30 29 true (.mv (t 7)), og 31 29 true (.len (t 30)), og 32 29 true (.bin .eql (t 31) (k 0)), o 33 (.pick (t 29) (t 32) (kb false)), o 6 (.mv (t 33))])
 (.fz [6] .ret)))))
def q52_F : VFn := ⟨true, 34, [.t 6], q52_c⟩
def q52_f (lo : Lo) : FnE := ⟨411, true, ⟨[0, 1, 2], [.ag [.l (cs [I]), .l (cs [.l (cs [I])])], .i .i64, .l (cs [I, .l (cs [I, I])])], [], (cs [.l (cs [I]), .l (cs [.l (cs [I])]), I, .l (cs [I, .l (cs [I, I])])])⟩, .b, [], (cs [.b]), (fun x => q52 lo x.1 x.2.1 x.2.2.1 x.2.2.2 : (List Int) × (List ((List Int))) × Int × (List (Int × (List (Int × Int)))) → Option Bool)⟩
theorem q52_e (lo : Lo) : ∀ x : (List Int) × (List ((List Int))) × Int × (List (Int × (List (Int × Int)))), evP (⟨pf, fs52 lo, [], 0⟩ : Tabs) q52_F ⟨[0, 1, 2], [.ag [.l (cs [I]), .l (cs [.l (cs [I])])], .i .i64, .l (cs [I, .l (cs [I, I])])], [], (cs [.l (cs [I]), .l (cs [.l (cs [I])]), I, .l (cs [I, .l (cs [I, I])])])⟩ (.b) (cs [.b]) x = q52 lo x.1 x.2.1 x.2.2.1 x.2.2.2 := fun x => by kernel_rfl
theorem q52_S {P : Program} {fm : FM} {lo : Lo} (hlo : LoOK lo) (hS : Sound P fm ⟨pf, fs52 lo, [], 0⟩) (hm : P.follows .mixedOrders = true) (htie : ∀ f, fm f = 411 → fnTr P fm pf f = some (q52_F.slots, q52_F.res, q52_F.code.er)) : Sound P fm ⟨pf, q52_f lo :: fs52 lo, [], 0⟩ :=
  fn_sound hS hm [] (q52_f lo) rfl q52_F htie (by decide) rfl (Nat.le_of_ble_eq_true (by kernel_rfl)) (fun C hT => show LsOK (fun _ => False) [] C (⟨pf, fs52 lo, [], 0⟩ : Tabs) q52_c from ⟨trivial, ⟨⟨trivial, ⟨⟨trivial, trivial⟩, trivial⟩⟩, ⟨trivial, ⟨trivial, trivial⟩⟩⟩⟩) (fun x y h => (q52_e lo x).trans h)
def fs53 (lo : Lo) : List FnE := q52_f lo :: fs52 lo
def q53 (lo : Lo) : Option Bool :=
  Option.bind (q0 lo) fun y0 => Option.bind (q47 lo y0.1 y0.2 (10000 : Int)) fun y158 => bif (decide (y158.2.2 = (0 : Int))) then (bif (decide (y158.2.1 = (5 : Int))) then (Option.bind (q48 lo y158.1 ([(0 : Int), (1 : Int)])) fun y162 => bif y162 then (Option.bind (q0 lo) fun y163 => Option.bind (q49 lo) fun y164 => Option.bind (q52 lo y163.1 y163.2 (5 : Int) y164) fun y182 => bif y182 then (Option.bind (q0 lo) fun y183 => Option.bind (q49 lo) fun y184 => Option.bind (q52 lo y183.1 y183.2 (6 : Int) y184) fun y185 => bif (!y185) then (Option.bind (q0 lo) fun y186 => Option.bind (q52 lo y186.1 y186.2 (4 : Int) ([((-1 : Int), [((0 : Int), (1 : Int)), ((1 : Int), (2 : Int)), ((2 : Int), (1 : Int))])])) fun y187 => bif y187 then (Option.bind (q0 lo) fun y188 => Option.bind (q52 lo y188.1 y188.2 (5 : Int) ([((-1 : Int), [((0 : Int), (1 : Int)), ((1 : Int), (2 : Int)), ((2 : Int), (1 : Int))])])) fun y189 => some (!y189)) else (some false)) else (some false)) else (some false)) else (some false)) else (some false)) else (some false)
def q53_c : VCode :=
 (.seq (.reg [o 0 (.mv (kb false))])
 (.seq (.reg [o 6 (.call 420 []), o 7 (.call 409 [(t 6), (k 10000)]), o 5 (.mv (t 7)), o 8 (.ext (t 5) 0), o 9 (.ext (t 5) 1), o 10 (.ext (t 5) 2), o 1 (.mv (t 8)), o 2 (.mv (t 9)), o 3 (.mv (t 10))])
 (.seq (.reg [o 11 (.build [.i .i64 0, .i .i64 0] [(0, 1, (k 0)), (1, 1, (k 1))]), o 12 (.build [.i .i64 0, .i .i64 0] [(0, 1, (k 1)), (1, 1, (k 2))]), o 13 (.build [.i .i64 0, .i .i64 0] [(0, 1, (k 2)), (1, 1, (k 1))]), o 14 (.bsl (cs [I, I]) 3 [(0, (t 11)), (1, (t 12)), (2, (t 13))]), o 15 (.build [.i .i64 0, .e (cs [I, I])] [(0, 1, (k (-1))), (1, 1, (t 14))]), o 16 (.bsl (cs [I, .l (cs [I, I])]) 1 [(0, (t 15))]), o 4 (.mv (t 16))])
 (.seq (.reg [o 17 (.mv (t 3)), o 18 (.bin .eql (t 17) (k 0)), o 19 (.mv (t 18)), og 20 19 true (.mv (t 2)), og 21 19 true (.bin .eql (t 20) (k 5)), o 22 (.pick (t 19) (t 21) (kb false)), o 23 (.mv (t 22)), og 24 23 true (.mv (t 1)), og 25 23 true (.bsl (cs [I]) 2 [(0, (k 0)), (1, (k 1))]), og 26 23 true (.call 421 [(t 24), (t 25)]), o 27 (.pick (t 23) (t 26) (kb false)), o 28 (.mv (t 27)), og 29 28 true (.call 420 []), og 30 28 true (.call 422 []), og 31 28 true (.call 411 [(t 29), (k 5), (t 30)]), o 32 (.pick (t 28) (t 31) (kb false)), o 33 (.mv (t 32)), og 34 33 true (.call 420 []), og 35 33 true (.call 422 []), og 36 33 true (.call 411 [(t 34), (k 6), (t 35)]), og 37 33 true (.not (t 36)), o 38 (.pick (t 33) (t 37) (kb false)), o 39 (.mv (t 38)), og 40 39 true (.call 420 []), og 41 39 true (.mv (t 4)), og 42 39 true (.call 411 [(t 40), (k 4), (t 41)]), o 43 (.pick (t 39) (t 42) (kb false)), o 44 (.mv (t 43)), og 45 44 true (.call 420 []), og 46 44 true (.mv (t 4)), og 47 44 true (.call 411 [(t 45), (k 5), (t 46)]), og 48 44 true (.not (t 47)), o 49 (.pick (t 44) (t 48) (kb false)), o 0 (.mv (t 49))])
 (.fz [0] .ret)))))
def q53_F : VFn := ⟨true, 50, [.t 0], q53_c⟩
def q53_f (lo : Lo) : FnE := ⟨400, true, ⟨[], [], [], (cs [])⟩, .b, [], (cs [.b]), (fun x => q53 lo  : Unit → Option Bool)⟩
theorem q53_e (lo : Lo) : ∀ x : Unit, evP (⟨pf, fs53 lo, [], 0⟩ : Tabs) q53_F ⟨[], [], [], (cs [])⟩ (.b) (cs [.b]) x = q53 lo  := fun x => by kernel_rfl
theorem q53_S {P : Program} {fm : FM} {lo : Lo} (hlo : LoOK lo) (hS : Sound P fm ⟨pf, fs53 lo, [], 0⟩) (hm : P.follows .mixedOrders = true) (htie : ∀ f, fm f = 400 → fnTr P fm pf f = some (q53_F.slots, q53_F.res, q53_F.code.er)) : Sound P fm ⟨pf, q53_f lo :: fs53 lo, [], 0⟩ :=
  fn_sound hS hm [] (q53_f lo) rfl q53_F htie (by decide) rfl (Nat.le_of_ble_eq_true (by kernel_rfl)) (fun C hT => show LsOK (fun _ => False) [] C (⟨pf, fs53 lo, [], 0⟩ : Tabs) q53_c from ⟨trivial, ⟨trivial, ⟨trivial, ⟨trivial, trivial⟩⟩⟩⟩) (fun x y h => (q53_e lo x).trans h)
def fs54 (lo : Lo) : List FnE := q53_f lo :: fs53 lo
def q54_L22_b : VCode :=
 (.seq (.seq (.reg [o 18 (.mv (t 3)), o 19 (.fad 0 (t 1)), o 20 (.load false 1 (t 19)), o 21 (.len (t 20)), o 22 (.bin .lss (t 18) (t 21))])
 (.cond (t 22) .skip
 (.exit 0)))
 (.seq (.blk 1 (.seq (.reg [o 25 (.fad 0 (t 1)), o 26 (.load false 1 (t 25)), o 27 (.mv (t 3)), o 28 (.iad 1 (t 26) (t 27)), o 29 (.load false 1 (t 28)), o 30 (.bin .lss (t 29) (k 1)), o 31 (.mv (t 30)), og 32 31 false (.fad 0 (t 1)), og 33 31 false (.load false 1 (t 32)), og 34 31 false (.mv (t 3)), og 35 31 false (.iad 1 (t 33) (t 34)), og 36 31 false (.load false 1 (t 35)), og 37 31 false (.bin .gtr (t 36) (k 1000000)), o 38 (.pick (t 31) (kb true) (t 37))])
 (.cond (t 38) (.seq (.reg [o 2 (.mv (k 1))])
 (.fz [2] .ret))
 .skip)))
 (.reg [o 23 (.mv (t 3)), o 24 (.bin .add (t 23) (k 1)), o 3 (.mv (t 24))])))
def q54_L22_g : Sg := ⟨[1, 3], [.ptr 0 0 0, .i .i64], [.st [.l (cs [I]), .l (cs [.l (cs [I])])]], (cs [I, .l (cs [I]), .l (cs [.l (cs [I])])])⟩
def q54_L22_o : List Out1 := [⟨.ret, ⟨[2], [.i .i64], [], (cs [I])⟩⟩, ⟨.exit 0, ⟨[1], [.ptr 0 0 0], [.st [.l (cs [I]), .l (cs [.l (cs [I])])]], (cs [.l (cs [I]), .l (cs [.l (cs [I])])])⟩⟩]
def q54_L22_s (lo : Lo) : Int × (List Int) × (List ((List Int))) → Option ((Int × (List Int) × (List ((List Int)))) ⊕ (Int ⊕ ((List Int) × (List ((List Int)))))) := fun x => match x with
  | (i3, in1_0, in1_1) => bif (decide (i3 < (in1_0.length : Int))) then (chk (0 ≤ i3 ∧ i3 < (in1_0.length : Int)) (bif (decide ((in1_0.getD i3.toNat (0 : Int)) < (1 : Int))) then (some (.inr (.inl (1 : Int)))) else (chk (0 ≤ i3 ∧ i3 < (in1_0.length : Int)) (bif (decide ((1000000 : Int) < (in1_0.getD i3.toNat (0 : Int)))) then (some (.inr (.inl (1 : Int)))) else (some (.inl ((IntKind.wrap .i64 (i3 + (1 : Int))), in1_0, in1_1))))))) else (some (.inr (.inr (in1_0, in1_1))))
theorem q54_L22_e (lo : Lo) : ∀ x : Int × (List Int) × (List ((List Int))), stepL (⟨pf, fs54 lo, [], 0⟩ : Tabs) [] q54_L22_g q54_L22_o q54_L22_b x = q54_L22_s lo x := fun x => by kernel_rfl
def q54_L22 (lo : Lo) : Int × (List Int) × (List ((List Int))) → Option (Int ⊕ ((List Int) × (List ((List Int))))) := lo.run (q54_L22_s lo)
def q54_L22_p (lo : Lo) : LpE := ⟨22, [], q54_L22_g, q54_L22_o, q54_L22 lo⟩
theorem q54_L22_k {lo : Lo} (hlo : LoOK lo) (C : Ctx) (hT : TOK (⟨pf, fs54 lo, [], 0⟩ : Tabs) C) : LpSound (fun _ => False) [] 0 C (.loop q54_L22_b.er) (q54_L22_p lo) :=
  loop_sound (T := (⟨pf, fs54 lo, [], 0⟩ : Tabs)) hT frNo (show LsOK (fun _ => False) [] C (⟨pf, fs54 lo, [], 0⟩ : Tabs) q54_L22_b from ⟨⟨trivial, ⟨trivial, trivial⟩⟩, ⟨⟨trivial, ⟨⟨trivial, trivial⟩, trivial⟩⟩, trivial⟩⟩) (fun x y h => loopO_congr (q54_L22_e lo) (hlo _ _ _ h))
def q54_L8_b : VCode :=
 (.seq (.seq (.reg [o 46 (.mv (t 6)), o 47 (.fad 1 (t 1)), o 48 (.load false 1 (t 47)), o 49 (.mv (t 4)), o 50 (.iad 1 (t 48) (t 49)), o 51 (.load false 1 (t 50)), o 52 (.len (t 51)), o 53 (.bin .lss (t 46) (t 52))])
 (.cond (t 53) .skip
 (.exit 4)))
 (.seq (.blk 5 (.seq (.reg [o 56 (.fad 1 (t 1)), o 57 (.load false 1 (t 56)), o 58 (.mv (t 4)), o 59 (.iad 1 (t 57) (t 58)), o 60 (.load false 1 (t 59)), o 61 (.mv (t 6)), o 62 (.iad 1 (t 60) (t 61)), o 63 (.load false 1 (t 62)), o 7 (.mv (t 63))])
 (.seq (.seq (.reg [o 64 (.mv (t 7)), o 65 (.mv (t 5)), o 66 (.bin .leq (t 64) (t 65)), o 67 (.mv (t 66)), og 68 67 false (.mv (t 7)), og 69 67 false (.fad 0 (t 1)), og 70 67 false (.load false 1 (t 69)), og 71 67 false (.len (t 70)), og 72 67 false (.bin .geq (t 68) (t 71)), o 73 (.pick (t 67) (kb true) (t 72))])
 (.cond (t 73) (.seq (.reg [o 2 (.mv (k 1))])
 (.fz [2] .ret))
 .skip))
 (.reg [o 74 (.mv (t 7)), o 5 (.mv (t 74))]))))
 (.reg [o 54 (.mv (t 6)), o 55 (.bin .add (t 54) (k 1)), o 6 (.mv (t 55))])))
def q54_L8_g : Sg := ⟨[1, 4, 5, 6], [.ptr 0 0 0, .i .i64, .i .i64, .i .i64], [.st [.l (cs [I]), .l (cs [.l (cs [I])])]], (cs [I, I, I, .l (cs [I]), .l (cs [.l (cs [I])])])⟩
def q54_L8_o : List Out1 := [⟨.ret, ⟨[2], [.i .i64], [], (cs [I])⟩⟩, ⟨.exit 4, ⟨[1, 4, 5], [.ptr 0 0 0, .i .i64, .i .i64], [.st [.l (cs [I]), .l (cs [.l (cs [I])])]], (cs [I, I, .l (cs [I]), .l (cs [.l (cs [I])])])⟩⟩]
def q54_L8_s (lo : Lo) : Int × Int × Int × (List Int) × (List ((List Int))) → Option ((Int × Int × Int × (List Int) × (List ((List Int)))) ⊕ (Int ⊕ (Int × Int × (List Int) × (List ((List Int)))))) := fun x => match x with
  | (i4, before5, k6, in1_0, in1_1) => chk (0 ≤ i4 ∧ i4 < (in1_1.length : Int)) (bif (decide (k6 < ((in1_1.getD i4.toNat []).length : Int))) then (chk (0 ≤ i4 ∧ i4 < (in1_1.length : Int)) (chk (0 ≤ k6 ∧ k6 < ((in1_1.getD i4.toNat []).length : Int)) (bif (decide (((in1_1.getD i4.toNat []).getD k6.toNat (0 : Int)) ≤ before5)) then (some (.inr (.inl (1 : Int)))) else (bif (decide ((in1_0.length : Int) ≤ ((in1_1.getD i4.toNat []).getD k6.toNat (0 : Int)))) then (some (.inr (.inl (1 : Int)))) else (some (.inl (i4, ((in1_1.getD i4.toNat []).getD k6.toNat (0 : Int)), (IntKind.wrap .i64 (k6 + (1 : Int))), in1_0, in1_1))))))) else (some (.inr (.inr (i4, before5, in1_0, in1_1)))))
theorem q54_L8_e (lo : Lo) : ∀ x : Int × Int × Int × (List Int) × (List ((List Int))), stepL (⟨pf, fs54 lo, [q54_L22_p lo], 0⟩ : Tabs) [] q54_L8_g q54_L8_o q54_L8_b x = q54_L8_s lo x := fun x => by kernel_rfl
def q54_L8 (lo : Lo) : Int × Int × Int × (List Int) × (List ((List Int))) → Option (Int ⊕ (Int × Int × (List Int) × (List ((List Int))))) := lo.run (q54_L8_s lo)
def q54_L8_p (lo : Lo) : LpE := ⟨8, [], q54_L8_g, q54_L8_o, q54_L8 lo⟩
theorem q54_L8_k {lo : Lo} (hlo : LoOK lo) (C : Ctx) (hT : TOK (⟨pf, fs54 lo, [q54_L22_p lo], 0⟩ : Tabs) C) : LpSound (fun _ => False) [] 0 C (.loop q54_L8_b.er) (q54_L8_p lo) :=
  loop_sound (T := (⟨pf, fs54 lo, [q54_L22_p lo], 0⟩ : Tabs)) hT frNo (show LsOK (fun _ => False) [] C (⟨pf, fs54 lo, [q54_L22_p lo], 0⟩ : Tabs) q54_L8_b from ⟨⟨trivial, ⟨trivial, trivial⟩⟩, ⟨⟨trivial, ⟨⟨trivial, ⟨⟨trivial, trivial⟩, trivial⟩⟩, trivial⟩⟩, trivial⟩⟩) (fun x y h => loopO_congr (q54_L8_e lo) (hlo _ _ _ h))
def q54_L3_b : VCode :=
 (.seq (.seq (.reg [o 39 (.mv (t 4)), o 40 (.fad 1 (t 1)), o 41 (.load false 1 (t 40)), o 42 (.len (t 41)), o 43 (.bin .lss (t 39) (t 42))])
 (.cond (t 43) .skip
 (.exit 2)))
 (.seq (.blk 3 (.seq (.reg [o 5 (.mv (k (-1)))])
 (.seq (.seq (.reg [o 6 (.mv (k 0))])
 (.blk 4 (.loop 8 q54_L8_b)))
 (.seq (.reg [o 75 (.mv (t 5)), o 76 (.bin .lss (t 75) (k 0))])
 (.cond (t 76) (.seq (.reg [o 2 (.mv (k 1))])
 (.fz [2] .ret))
 .skip)))))
 (.reg [o 44 (.mv (t 4)), o 45 (.bin .add (t 44) (k 1)), o 4 (.mv (t 45))])))
def q54_L3_g : Sg := ⟨[1, 4], [.ptr 0 0 0, .i .i64], [.st [.l (cs [I]), .l (cs [.l (cs [I])])]], (cs [I, .l (cs [I]), .l (cs [.l (cs [I])])])⟩
def q54_L3_o : List Out1 := [⟨.ret, ⟨[2], [.i .i64], [], (cs [I])⟩⟩, ⟨.exit 2, ⟨[], [], [], (cs [])⟩⟩]
def q54_L3_s (lo : Lo) : Int × (List Int) × (List ((List Int))) → Option ((Int × (List Int) × (List ((List Int)))) ⊕ (Int ⊕ Unit)) := fun x => match x with
  | (i4, in1_0, in1_1) => bif (decide (i4 < (in1_1.length : Int))) then (Option.bind (q54_L8 lo (i4, (-1 : Int), (0 : Int), in1_0, in1_1)) fun y198 => alt2 y198 (fun y199 => some (.inr (.inl y199))) (fun y200 => bif (decide (y200.2.1 < (0 : Int))) then (some (.inr (.inl (1 : Int)))) else (some (.inl ((IntKind.wrap .i64 (y200.1 + (1 : Int))), y200.2.2.1, y200.2.2.2))))) else (some (.inr (.inr ())))
theorem q54_L3_e (lo : Lo) : ∀ x : Int × (List Int) × (List ((List Int))), stepL (⟨pf, fs54 lo, [q54_L8_p lo, q54_L22_p lo], 0⟩ : Tabs) [] q54_L3_g q54_L3_o q54_L3_b x = q54_L3_s lo x := fun x => by kernel_rfl
def q54_L3 (lo : Lo) : Int × (List Int) × (List ((List Int))) → Option (Int ⊕ Unit) := lo.run (q54_L3_s lo)
def q54_L3_p (lo : Lo) : LpE := ⟨3, [], q54_L3_g, q54_L3_o, q54_L3 lo⟩
theorem q54_L3_k {lo : Lo} (hlo : LoOK lo) (C : Ctx) (hT : TOK (⟨pf, fs54 lo, [q54_L8_p lo, q54_L22_p lo], 0⟩ : Tabs) C) : LpSound (fun _ => False) [] 0 C (.loop q54_L3_b.er) (q54_L3_p lo) :=
  loop_sound (T := (⟨pf, fs54 lo, [q54_L8_p lo, q54_L22_p lo], 0⟩ : Tabs)) hT frNo (show LsOK (fun _ => False) [] C (⟨pf, fs54 lo, [q54_L8_p lo, q54_L22_p lo], 0⟩ : Tabs) q54_L3_b from ⟨⟨trivial, ⟨trivial, trivial⟩⟩, ⟨⟨trivial, ⟨⟨trivial, (lsGet (by kernel_rfl) (q54_L8_k hlo C (tok_ls hT)))⟩, ⟨trivial, ⟨⟨trivial, trivial⟩, trivial⟩⟩⟩⟩, trivial⟩⟩) (fun x y h => loopO_congr (q54_L3_e lo) (hlo _ _ _ h))
def q54 (lo : Lo) (in0_0 : List Int) (in0_1 : List ((List Int))) : Option Int :=
  bif (decide ((200 : Int) < (in0_0.length : Int))) then (some (3 : Int)) else (bif (decide ((2000 : Int) < (in0_1.length : Int))) then (some (3 : Int)) else (Option.bind (q54_L22 lo ((0 : Int), in0_0, in0_1)) fun y195 => alt2 y195 (fun y196 => some y196) (fun y197 => Option.bind (q54_L3 lo ((0 : Int), y197.1, y197.2)) fun y201 => alt2 y201 (fun y202 => some y202) (fun y203 => some (0 : Int)))))
def q54_c : VCode :=
 (.seq (.reg [o 1 (.box (t 0)), o 2 (.mv (k 0))])
 (.seq (.seq (.reg [o 8 (.fad 0 (t 1)), o 9 (.load false 1 (t 8)), o 10 (.len (t 9)), o 11 (.bin .gtr (t 10) (k 200)), o 12 (.mv (t 11)), og 13 12 false (.fad 1 (t 1)), og 14 12 false (.load false 1 (t 13)), og 15 12 false (.len (t 14)), og 16 12 false (.bin .gtr (t 15) (k 2000)), o 17 (.pick (t 12) (kb true) (t 16))])
 (.cond (t 17) (.seq (.reg [o 2 (.mv (k 3))])
 (.fz [2] .ret))
 .skip))
 (.seq (.seq (.reg [o 3 (.mv (k 0))])
 (.blk 0 (.loop 22 q54_L22_b)))
 (.seq (.seq (.reg [o 4 (.mv (k 0))])
 (.blk 2 (.loop 3 q54_L3_b)))
 (.seq (.reg [o 2 (.mv (k 0))])
 (.fz [2] .ret))))))
def q54_F : VFn := ⟨true, 77, [.t 2], q54_c⟩
def q54_f (lo : Lo) : FnE := ⟨402, true, ⟨[0], [.ag [.l (cs [I]), .l (cs [.l (cs [I])])]], [], (cs [.l (cs [I]), .l (cs [.l (cs [I])])])⟩, .i .i64, [], (cs [I]), (fun x => q54 lo x.1 x.2 : (List Int) × (List ((List Int))) → Option Int)⟩
theorem q54_e (lo : Lo) : ∀ x : (List Int) × (List ((List Int))), evP (⟨pf, fs54 lo, [q54_L3_p lo, q54_L8_p lo, q54_L22_p lo], 0⟩ : Tabs) q54_F ⟨[0], [.ag [.l (cs [I]), .l (cs [.l (cs [I])])]], [], (cs [.l (cs [I]), .l (cs [.l (cs [I])])])⟩ (.i .i64) (cs [I]) x = q54 lo x.1 x.2 := fun x => by kernel_rfl
theorem q54_S {P : Program} {fm : FM} {lo : Lo} (hlo : LoOK lo) (hS : Sound P fm ⟨pf, fs54 lo, [], 0⟩) (hm : P.follows .mixedOrders = true) (htie : ∀ f, fm f = 402 → fnTr P fm pf f = some (q54_F.slots, q54_F.res, q54_F.code.er)) : Sound P fm ⟨pf, q54_f lo :: fs54 lo, [], 0⟩ :=
  fn_sound hS hm [q54_L3_p lo, q54_L8_p lo, q54_L22_p lo] (q54_f lo) rfl q54_F htie (by decide) rfl (Nat.le_of_ble_eq_true (by kernel_rfl)) (fun C hT => show LsOK (fun _ => False) [] C (⟨pf, fs54 lo, [q54_L3_p lo, q54_L8_p lo, q54_L22_p lo], 0⟩ : Tabs) q54_c from ⟨trivial, ⟨⟨trivial, ⟨⟨trivial, trivial⟩, trivial⟩⟩, ⟨⟨trivial, (lsGet (by kernel_rfl) (q54_L22_k hlo C (tok_ls hT)))⟩, ⟨⟨trivial, (lsGet (by kernel_rfl) (q54_L3_k hlo C (tok_ls hT)))⟩, ⟨trivial, trivial⟩⟩⟩⟩⟩) (fun x y h => (q54_e lo x).trans h)
def fs55 (lo : Lo) : List FnE := q54_f lo :: fs54 lo
def fs56 (lo : Lo) : List FnE := fs55 lo
def q56_L3_b : VCode :=
 (.seq (.seq (.reg [o 7 (.mv (t 6)), o 8 (.mv (t 1)), o 9 (.bin .lss (t 7) (t 8))])
 (.cond (t 9) .skip
 (.exit 0)))
 (.seq (.blk 1 (.seq (.reg [o 12 (.mv (t 0)), o 13 (.mv (t 6)), o 14 (.bin .shr (t 12) (t 13)), o 15 (.bin .and (t 14) (k 1)), o 16 (.bin .eql (t 15) (k 1))])
 (.cond (t 16) (.reg [o 17 (.mv (t 5)), o 18 (.mv (t 6)), o 19 (.bsl (cs [I]) 1 [(0, (t 18))]), o 20 (.app (cs [I]) 0 (t 17) (t 19)), o 5 (.mv (t 20))])
 .skip)))
 (.reg [o 10 (.mv (t 6)), o 11 (.bin .add (t 10) (k 1)), o 6 (.mv (t 11))])))
def q56_L3_g : Sg := ⟨[0, 1, 5, 6], [.i .i64, .i .i64, .ref 0, .i .i64], [.sq (cs [I])], (cs [I, I, I, .l (cs [I])])⟩
def q56_L3_o : List Out1 := [⟨.exit 0, ⟨[5], [.ref 0], [.sq (cs [I])], (cs [.l (cs [I])])⟩⟩]
def q56_L3_s (lo : Lo) : Int × Int × Int × (List Int) → Option ((Int × Int × Int × (List Int)) ⊕ (((List Int)))) := fun x => match x with
  | (bits0, n1, i6, out5) => bif (decide (i6 < n1)) then (chk (0 ≤ i6) (bif (decide ((bits .and .i64 (bits0.fdiv (2 ^ (min i6.toNat (IntKind.bits .i64)))) (1 : Int)) = (1 : Int))) then (chk (out5.length + [i6].length ≤ maxEl) (some (.inl (bits0, n1, (IntKind.wrap .i64 (i6 + (1 : Int))), (out5 ++ [i6]))))) else (some (.inl (bits0, n1, (IntKind.wrap .i64 (i6 + (1 : Int))), out5))))) else (some (.inr out5))
theorem q56_L3_e (lo : Lo) : ∀ x : Int × Int × Int × (List Int), stepL (⟨pf, fs56 lo, [], 0⟩ : Tabs) [(5, none, false)] q56_L3_g q56_L3_o q56_L3_b x = q56_L3_s lo x := fun x => by kernel_rfl
def q56_L3 (lo : Lo) : Int × Int × Int × (List Int) → Option (((List Int))) := lo.run (q56_L3_s lo)
def q56_L3_p (lo : Lo) : LpE := ⟨3, [(5, none, false)], q56_L3_g, q56_L3_o, q56_L3 lo⟩
theorem q56_L3_k {lo : Lo} (hlo : LoOK lo) (C : Ctx) (hT : TOK (⟨pf, fs56 lo, [], 0⟩ : Tabs) C) : LpSound (fun _ => False) [] 0 C (.loop q56_L3_b.er) (q56_L3_p lo) :=
  loop_sound (T := (⟨pf, fs56 lo, [], 0⟩ : Tabs)) hT frNo (show LsOK (fun _ => False) [] C (⟨pf, fs56 lo, [], 0⟩ : Tabs) q56_L3_b from ⟨⟨trivial, ⟨trivial, trivial⟩⟩, ⟨⟨trivial, ⟨trivial, trivial⟩⟩, trivial⟩⟩) (fun x y h => loopO_congr (q56_L3_e lo) (hlo _ _ _ h))
def q56 (lo : Lo) (bits0 : Int) (n1 : Int) : Option ((List Int)) :=
  Option.bind (q56_L3 lo (bits0, n1, (0 : Int), [])) fun y206 => some y206
def q56_c : VCode :=
 (.seq (.reg [o 4 (.mv (ke (cs [I])))])
 (.seq (.reg [o 5 (.mv (ke (cs [I])))])
 (.seq (.seq (.reg [o 6 (.mv (k 0))])
 (.blk 0 (.loop 3 q56_L3_b)))
 (.seq (.reg [o 21 (.mv (t 5)), o 4 (.mv (t 21))])
 (.fz [4] .ret)))))
def q56_F : VFn := ⟨true, 22, [.t 4], q56_c⟩
def q56_f (lo : Lo) : FnE := ⟨423, true, ⟨[0, 1], [.i .i64, .i .i64], [], (cs [I, I])⟩, .l (cs [I]), [], (cs [.l (cs [I])]), (fun x => q56 lo x.1 x.2 : Int × Int → Option ((List Int)))⟩
theorem q56_e (lo : Lo) : ∀ x : Int × Int, evP (⟨pf, fs56 lo, [q56_L3_p lo], 0⟩ : Tabs) q56_F ⟨[0, 1], [.i .i64, .i .i64], [], (cs [I, I])⟩ (.l (cs [I])) (cs [.l (cs [I])]) x = q56 lo x.1 x.2 := fun x => by kernel_rfl
theorem q56_S {P : Program} {fm : FM} {lo : Lo} (hlo : LoOK lo) (hS : Sound P fm ⟨pf, fs56 lo, [], 0⟩) (hm : P.follows .mixedOrders = true) (htie : ∀ f, fm f = 423 → fnTr P fm pf f = some (q56_F.slots, q56_F.res, q56_F.code.er)) : Sound P fm ⟨pf, q56_f lo :: fs56 lo, [], 0⟩ :=
  fn_sound hS hm [q56_L3_p lo] (q56_f lo) rfl q56_F htie (by decide) rfl (Nat.le_of_ble_eq_true (by kernel_rfl)) (fun C hT => show LsOK (fun _ => False) [] C (⟨pf, fs56 lo, [q56_L3_p lo], 0⟩ : Tabs) q56_c from ⟨trivial, ⟨trivial, ⟨⟨trivial, (lsGet (by kernel_rfl) (q56_L3_k hlo C (tok_ls hT)))⟩, ⟨trivial, trivial⟩⟩⟩⟩) (fun x y h => (q56_e lo x).trans h)
def fs57 (lo : Lo) : List FnE := q56_f lo :: fs56 lo
def q57_L11_b : VCode :=
 (.seq (.seq (.reg [o 19 (.mv (t 5)), o 20 (.fad 0 (t 1)), o 21 (.load false 1 (t 20)), o 22 (.len (t 21)), o 23 (.bin .lss (t 19) (t 22))])
 (.cond (t 23) .skip
 (.exit 0)))
 (.seq (.blk 1 (.reg [o 26 (.fad 0 (t 4)), o 27 (.load false 1 (t 26)), o 28 (.fad 0 (t 1)), o 29 (.load false 1 (t 28)), o 30 (.mv (t 5)), o 31 (.iad 1 (t 29) (t 30)), o 32 (.load false 1 (t 31)), o 33 (.bin .rem (t 32) (ki .u8 20)), o 34 (.conv .i64 (t 33)), o 35 (.bin .add (k 1) (t 34)), o 36 (.bsl (cs [I]) 1 [(0, (t 35))]), o 37 (.app (cs [I]) 0 (t 27) (t 36)), o 38 (.fad 0 (t 4)), on (.store 1 (t 38) (t 37))]))
 (.reg [o 24 (.mv (t 5)), o 25 (.bin .add (t 24) (k 1)), o 5 (.mv (t 25))])))
def q57_L11_g : Sg := ⟨[1, 2, 4, 5], [.ptr 0 0 0, .ptr 1 0 0, .ptr 2 0 0, .i .i64], [.st [.l (cs [.i .u8]), .l (cs [.i .u16])], .st [.l (cs [I]), .l (cs [.l (cs [I])])], .st [.ref 3, .ref 4], .sq (cs [I]), .sq (cs [.l (cs [I])])], (cs [I, .l (cs [.i .u8]), .l (cs [.i .u16]), .l (cs [I]), .l (cs [.l (cs [I])]), .l (cs [I]), .l (cs [.l (cs [I])])])⟩
def q57_L11_o : List Out1 := [⟨.exit 0, ⟨[1, 2, 4], [.ptr 0 0 0, .ptr 1 0 0, .ptr 2 0 0], [.st [.l (cs [.i .u8]), .l (cs [.i .u16])], .st [.l (cs [I]), .l (cs [.l (cs [I])])], .st [.ref 3, .ref 4], .sq (cs [I]), .sq (cs [.l (cs [I])])], (cs [.l (cs [.i .u8]), .l (cs [.i .u16]), .l (cs [I]), .l (cs [.l (cs [I])]), .l (cs [I]), .l (cs [.l (cs [I])])])⟩⟩]
def q57_L11_s (lo : Lo) : Int × (List Int) × (List Int) × (List Int) × (List ((List Int))) × (List Int) × (List ((List Int))) → Option ((Int × (List Int) × (List Int) × (List Int) × (List ((List Int))) × (List Int) × (List ((List Int)))) ⊕ (((List Int) × (List Int) × (List Int) × (List ((List Int))) × (List Int) × (List ((List Int)))))) := fun x => match x with
  | (i5, d1_0, d1_1, v2_0, v2_1, h3, h4) => bif (decide (i5 < (d1_0.length : Int))) then (chk (0 ≤ i5 ∧ i5 < (d1_0.length : Int)) (chk ((20 : Int) ≠ 0) (chk (h3.length + ([(IntKind.wrap .i64 ((1 : Int) + (IntKind.wrap .i64 ((d1_0.getD i5.toNat (0 : Int)).tmod (20 : Int)))))]).length ≤ maxEl) (some (.inl ((IntKind.wrap .i64 (i5 + (1 : Int))), d1_0, d1_1, v2_0, v2_1, (h3 ++ ([(IntKind.wrap .i64 ((1 : Int) + (IntKind.wrap .i64 ((d1_0.getD i5.toNat (0 : Int)).tmod (20 : Int)))))])), h4)))))) else (some (.inr (d1_0, d1_1, v2_0, v2_1, h3, h4)))
theorem q57_L11_e (lo : Lo) : ∀ x : Int × (List Int) × (List Int) × (List Int) × (List ((List Int))) × (List Int) × (List ((List Int))), stepL (⟨pf, fs57 lo, [], 0⟩ : Tabs) [(4, some 0, false), (4, some 1, false)] q57_L11_g q57_L11_o q57_L11_b x = q57_L11_s lo x := fun x => by kernel_rfl
def q57_L11 (lo : Lo) : Int × (List Int) × (List Int) × (List Int) × (List ((List Int))) × (List Int) × (List ((List Int))) → Option (((List Int) × (List Int) × (List Int) × (List ((List Int))) × (List Int) × (List ((List Int))))) := lo.run (q57_L11_s lo)
def q57_L11_p (lo : Lo) : LpE := ⟨11, [(4, some 0, false), (4, some 1, false)], q57_L11_g, q57_L11_o, q57_L11 lo⟩
theorem q57_L11_k {lo : Lo} (hlo : LoOK lo) (C : Ctx) (hT : TOK (⟨pf, fs57 lo, [], 0⟩ : Tabs) C) : LpSound (fun _ => False) [] 0 C (.loop q57_L11_b.er) (q57_L11_p lo) :=
  loop_sound (T := (⟨pf, fs57 lo, [], 0⟩ : Tabs)) hT frNo (show LsOK (fun _ => False) [] C (⟨pf, fs57 lo, [], 0⟩ : Tabs) q57_L11_b from ⟨⟨trivial, ⟨trivial, trivial⟩⟩, ⟨trivial, trivial⟩⟩) (fun x y h => loopO_congr (q57_L11_e lo) (hlo _ _ _ h))
def q57_L3_b : VCode :=
 (.seq (.seq (.reg [o 39 (.mv (t 6)), o 40 (.fad 1 (t 1)), o 41 (.load false 1 (t 40)), o 42 (.len (t 41)), o 43 (.bin .lss (t 39) (t 42))])
 (.cond (t 43) .skip
 (.exit 2)))
 (.seq (.blk 3 (.seq (.reg [o 46 (.fad 1 (t 1)), o 47 (.load false 1 (t 46)), o 48 (.mv (t 6)), o 49 (.iad 1 (t 47) (t 48)), o 50 (.load false 1 (t 49)), o 51 (.conv .i64 (t 50)), o 52 (.fad 0 (t 1)), o 53 (.load false 1 (t 52)), o 54 (.len (t 53)), o 55 (.call 423 [(t 51), (t 54)]), o 7 (.mv (t 55))])
 (.seq (.reg [o 56 (.mv (t 7)), o 57 (.len (t 56)), o 58 (.bin .gtr (t 57) (k 0))])
 (.cond (t 58) (.reg [o 59 (.fad 1 (t 4)), o 60 (.load false 1 (t 59)), o 61 (.mv (t 7)), o 62 (.bsl (cs [.l (cs [I])]) 1 [(0, (t 61))]), o 63 (.app (cs [.l (cs [I])]) 0 (t 60) (t 62)), o 64 (.fad 1 (t 4)), on (.store 1 (t 64) (t 63))])
 .skip))))
 (.reg [o 44 (.mv (t 6)), o 45 (.bin .add (t 44) (k 1)), o 6 (.mv (t 45))])))
def q57_L3_g : Sg := ⟨[1, 2, 4, 6], [.ptr 0 0 0, .ptr 1 0 0, .ptr 2 0 0, .i .i64], [.st [.l (cs [.i .u8]), .l (cs [.i .u16])], .st [.l (cs [I]), .l (cs [.l (cs [I])])], .st [.ref 3, .ref 4], .sq (cs [I]), .sq (cs [.l (cs [I])])], (cs [I, .l (cs [.i .u8]), .l (cs [.i .u16]), .l (cs [I]), .l (cs [.l (cs [I])]), .l (cs [I]), .l (cs [.l (cs [I])])])⟩
def q57_L3_o : List Out1 := [⟨.exit 2, ⟨[2, 4], [.ptr 0 0 0, .ptr 1 0 0], [.st [.l (cs [I]), .l (cs [.l (cs [I])])], .st [.ref 2, .ref 3], .sq (cs [I]), .sq (cs [.l (cs [I])])], (cs [.l (cs [I]), .l (cs [.l (cs [I])]), .l (cs [I]), .l (cs [.l (cs [I])])])⟩⟩]
def q57_L3_s (lo : Lo) : Int × (List Int) × (List Int) × (List Int) × (List ((List Int))) × (List Int) × (List ((List Int))) → Option ((Int × (List Int) × (List Int) × (List Int) × (List ((List Int))) × (List Int) × (List ((List Int)))) ⊕ (((List Int) × (List ((List Int))) × (List Int) × (List ((List Int)))))) := fun x => match x with
  | (i6, d1_0, d1_1, v2_0, v2_1, h3, h4) => bif (decide (i6 < (d1_1.length : Int))) then (chk (0 ≤ i6 ∧ i6 < (d1_1.length : Int)) (Option.bind (q56 lo (IntKind.wrap .i64 (d1_1.getD i6.toNat (0 : Int))) (d1_0.length : Int)) fun y207 => bif (decide ((0 : Int) < (y207.length : Int))) then (chk (h4.length + [y207].length ≤ maxEl) (some (.inl ((IntKind.wrap .i64 (i6 + (1 : Int))), d1_0, d1_1, v2_0, v2_1, h3, (h4 ++ [y207]))))) else (some (.inl ((IntKind.wrap .i64 (i6 + (1 : Int))), d1_0, d1_1, v2_0, v2_1, h3, h4))))) else (some (.inr (v2_0, v2_1, h3, h4)))
theorem q57_L3_e (lo : Lo) : ∀ x : Int × (List Int) × (List Int) × (List Int) × (List ((List Int))) × (List Int) × (List ((List Int))), stepL (⟨pf, fs57 lo, [q57_L11_p lo], 0⟩ : Tabs) [] q57_L3_g q57_L3_o q57_L3_b x = q57_L3_s lo x := fun x => by kernel_rfl
def q57_L3 (lo : Lo) : Int × (List Int) × (List Int) × (List Int) × (List ((List Int))) × (List Int) × (List ((List Int))) → Option (((List Int) × (List ((List Int))) × (List Int) × (List ((List Int))))) := lo.run (q57_L3_s lo)
def q57_L3_p (lo : Lo) : LpE := ⟨3, [], q57_L3_g, q57_L3_o, q57_L3 lo⟩
theorem q57_L3_k {lo : Lo} (hlo : LoOK lo) (C : Ctx) (hT : TOK (⟨pf, fs57 lo, [q57_L11_p lo], 0⟩ : Tabs) C) : LpSound (fun _ => False) [] 0 C (.loop q57_L3_b.er) (q57_L3_p lo) :=
  loop_sound (T := (⟨pf, fs57 lo, [q57_L11_p lo], 0⟩ : Tabs)) hT frNo (show LsOK (fun _ => False) [] C (⟨pf, fs57 lo, [q57_L11_p lo], 0⟩ : Tabs) q57_L3_b from ⟨⟨trivial, ⟨trivial, trivial⟩⟩, ⟨⟨trivial, ⟨trivial, ⟨trivial, trivial⟩⟩⟩, trivial⟩⟩) (fun x y h => loopO_congr (q57_L3_e lo) (hlo _ _ _ h))
def q57 (lo : Lo) (d0_0 : List Int) (d0_1 : List Int) : Option ((List Int) × (List ((List Int))) × Bool) :=
  bif (decide ((8 : Int) < (d0_0.length : Int))) then (some (([] : List Int), ([] : List ((List Int))), false)) else (bif (decide ((12 : Int) < (d0_1.length : Int))) then (some (([] : List Int), ([] : List ((List Int))), false)) else (Option.bind (q57_L11 lo ((0 : Int), d0_0, d0_1, ([] : List Int), ([] : List ((List Int))), [], [])) fun y205 => Option.bind (q57_L3 lo ((0 : Int), y205.1, y205.2.1, y205.2.2.1, y205.2.2.2.1, y205.2.2.2.2.1, y205.2.2.2.2.2)) fun y208 => some (y208.2.2.1, y208.2.2.2, true)))
def q57_c : VCode :=
 (.seq (.reg [o 1 (.box (t 0)), o 2 (.alloc [.e (cs [I]), .e (cs [.l (cs [I])])]), o 3 (.mv (kb false))])
 (.seq (.seq (.reg [o 8 (.fad 0 (t 1)), o 9 (.load false 1 (t 8)), o 10 (.len (t 9)), o 11 (.bin .gtr (t 10) (k 8)), o 12 (.mv (t 11)), og 13 12 false (.fad 1 (t 1)), og 14 12 false (.load false 1 (t 13)), og 15 12 false (.len (t 14)), og 16 12 false (.bin .gtr (t 15) (k 12)), o 17 (.pick (t 12) (kb true) (t 16))])
 (.cond (t 17) (.seq (.reg [o 18 (.build [.e (cs [I]), .e (cs [.l (cs [I])])] []), on (.store 2 (t 2) (t 18)), o 3 (.mv (kb false))])
 (.fz [2, 3] .ret))
 .skip))
 (.seq (.reg [o 4 (.alloc [.e (cs [I]), .e (cs [.l (cs [I])])])])
 (.seq (.seq (.reg [o 5 (.mv (k 0))])
 (.blk 0 (.loop 11 q57_L11_b)))
 (.seq (.seq (.reg [o 6 (.mv (k 0))])
 (.blk 2 (.loop 3 q57_L3_b)))
 (.seq (.reg [o 65 (.load true 2 (t 4)), on (.store 2 (t 2) (t 65)), o 3 (.mv (kb true))])
 (.fz [2, 3] .ret)))))))
def q57_F : VFn := ⟨true, 66, [.c 2 true 2, .t 3], q57_c⟩
def q57_f (lo : Lo) : FnE := ⟨403, true, ⟨[0], [.ag [.l (cs [.i .u8]), .l (cs [.i .u16])]], [], (cs [.l (cs [.i .u8]), .l (cs [.i .u16])])⟩, .tp [.ag [.l (cs [I]), .l (cs [.l (cs [I])])], .b], [], (cs [.l (cs [I]), .l (cs [.l (cs [I])]), .b]), (fun x => q57 lo x.1 x.2 : (List Int) × (List Int) → Option ((List Int) × (List ((List Int))) × Bool))⟩
theorem q57_e (lo : Lo) : ∀ x : (List Int) × (List Int), evP (⟨pf, fs57 lo, [q57_L3_p lo, q57_L11_p lo], 0⟩ : Tabs) q57_F ⟨[0], [.ag [.l (cs [.i .u8]), .l (cs [.i .u16])]], [], (cs [.l (cs [.i .u8]), .l (cs [.i .u16])])⟩ (.tp [.ag [.l (cs [I]), .l (cs [.l (cs [I])])], .b]) (cs [.l (cs [I]), .l (cs [.l (cs [I])]), .b]) x = q57 lo x.1 x.2 := fun x => by kernel_rfl
theorem q57_S {P : Program} {fm : FM} {lo : Lo} (hlo : LoOK lo) (hS : Sound P fm ⟨pf, fs57 lo, [], 0⟩) (hm : P.follows .mixedOrders = true) (htie : ∀ f, fm f = 403 → fnTr P fm pf f = some (q57_F.slots, q57_F.res, q57_F.code.er)) : Sound P fm ⟨pf, q57_f lo :: fs57 lo, [], 0⟩ :=
  fn_sound hS hm [q57_L3_p lo, q57_L11_p lo] (q57_f lo) rfl q57_F htie (by decide) rfl (Nat.le_of_ble_eq_true (by kernel_rfl)) (fun C hT => show LsOK (fun _ => False) [] C (⟨pf, fs57 lo, [q57_L3_p lo, q57_L11_p lo], 0⟩ : Tabs) q57_c from ⟨trivial, ⟨⟨trivial, ⟨⟨trivial, trivial⟩, trivial⟩⟩, ⟨trivial, ⟨⟨trivial, (lsGet (by kernel_rfl) (q57_L11_k hlo C (tok_ls hT)))⟩, ⟨⟨trivial, (lsGet (by kernel_rfl) (q57_L3_k hlo C (tok_ls hT)))⟩, ⟨trivial, trivial⟩⟩⟩⟩⟩⟩) (fun x y h => (q57_e lo x).trans h)
def fs58 (lo : Lo) : List FnE := q57_f lo :: fs57 lo
def q58_L3_b : VCode :=
 (.seq (.seq (.reg [o 6 (.mv (t 5)), o 7 (.mv (t 0)), o 8 (.len (t 7)), o 9 (.bin .lss (t 6) (t 8))])
 (.cond (t 9) .skip
 (.exit 0)))
 (.seq (.blk 1 (.seq (.reg [o 12 (.mv (t 0)), o 13 (.mv (t 5)), o 14 (.iad 1 (t 12) (t 13)), o 15 (.load false 1 (t 14)), o 16 (.mv (t 1)), o 17 (.bin .eql (t 15) (t 16))])
 (.cond (t 17) (.seq (.reg [o 4 (.mv (kb true))])
 (.fz [4] .ret))
 .skip)))
 (.reg [o 10 (.mv (t 5)), o 11 (.bin .add (t 10) (k 1)), o 5 (.mv (t 11))])))
def q58_L3_g : Sg := ⟨[0, 1, 5], [.l (cs [I]), .i .i64, .i .i64], [], (cs [.l (cs [I]), I, I])⟩
def q58_L3_o : List Out1 := [⟨.ret, ⟨[4], [.b], [], (cs [.b])⟩⟩, ⟨.exit 0, ⟨[], [], [], (cs [])⟩⟩]
def q58_L3_s (lo : Lo) : (List Int) × Int × Int → Option (((List Int) × Int × Int) ⊕ (Bool ⊕ Unit)) := fun x => match x with
  | (l0, n1, i5) => bif (decide (i5 < (l0.length : Int))) then (chk (0 ≤ i5 ∧ i5 < (l0.length : Int)) (bif (decide ((l0.getD i5.toNat (0 : Int)) = n1)) then (some (.inr (.inl true))) else (some (.inl (l0, n1, (IntKind.wrap .i64 (i5 + (1 : Int)))))))) else (some (.inr (.inr ())))
theorem q58_L3_e (lo : Lo) : ∀ x : (List Int) × Int × Int, stepL (⟨pf, fs58 lo, [], 0⟩ : Tabs) [] q58_L3_g q58_L3_o q58_L3_b x = q58_L3_s lo x := fun x => by kernel_rfl
def q58_L3 (lo : Lo) : (List Int) × Int × Int → Option (Bool ⊕ Unit) := lo.run (q58_L3_s lo)
def q58_L3_p (lo : Lo) : LpE := ⟨3, [], q58_L3_g, q58_L3_o, q58_L3 lo⟩
theorem q58_L3_k {lo : Lo} (hlo : LoOK lo) (C : Ctx) (hT : TOK (⟨pf, fs58 lo, [], 0⟩ : Tabs) C) : LpSound (fun _ => False) [] 0 C (.loop q58_L3_b.er) (q58_L3_p lo) :=
  loop_sound (T := (⟨pf, fs58 lo, [], 0⟩ : Tabs)) hT frNo (show LsOK (fun _ => False) [] C (⟨pf, fs58 lo, [], 0⟩ : Tabs) q58_L3_b from ⟨⟨trivial, ⟨trivial, trivial⟩⟩, ⟨⟨trivial, ⟨⟨trivial, trivial⟩, trivial⟩⟩, trivial⟩⟩) (fun x y h => loopO_congr (q58_L3_e lo) (hlo _ _ _ h))
def q58 (lo : Lo) (l0 : List Int) (n1 : Int) : Option Bool :=
  Option.bind (q58_L3 lo (l0, n1, (0 : Int))) fun y215 => alt2 y215 (fun y216 => some y216) (fun y217 => some false)
def q58_c : VCode :=
 (.seq (.reg [o 4 (.mv (kb false))])
 (.seq (.seq (.reg [o 5 (.mv (k 0))])
 (.blk 0 (.loop 3 q58_L3_b)))
 (.seq (.reg [o 4 (.mv (kb false))])
 (.fz [4] .ret))))
def q58_F : VFn := ⟨true, 18, [.t 4], q58_c⟩
def q58_f (lo : Lo) : FnE := ⟨428, true, ⟨[0, 1], [.l (cs [I]), .i .i64], [], (cs [.l (cs [I]), I])⟩, .b, [], (cs [.b]), (fun x => q58 lo x.1 x.2 : (List Int) × Int → Option Bool)⟩
theorem q58_e (lo : Lo) : ∀ x : (List Int) × Int, evP (⟨pf, fs58 lo, [q58_L3_p lo], 0⟩ : Tabs) q58_F ⟨[0, 1], [.l (cs [I]), .i .i64], [], (cs [.l (cs [I]), I])⟩ (.b) (cs [.b]) x = q58 lo x.1 x.2 := fun x => by kernel_rfl
theorem q58_S {P : Program} {fm : FM} {lo : Lo} (hlo : LoOK lo) (hS : Sound P fm ⟨pf, fs58 lo, [], 0⟩) (hm : P.follows .mixedOrders = true) (htie : ∀ f, fm f = 428 → fnTr P fm pf f = some (q58_F.slots, q58_F.res, q58_F.code.er)) : Sound P fm ⟨pf, q58_f lo :: fs58 lo, [], 0⟩ :=
  fn_sound hS hm [q58_L3_p lo] (q58_f lo) rfl q58_F htie (by decide) rfl (Nat.le_of_ble_eq_true (by kernel_rfl)) (fun C hT => show LsOK (fun _ => False) [] C (⟨pf, fs58 lo, [q58_L3_p lo], 0⟩ : Tabs) q58_c from ⟨trivial, ⟨⟨trivial, (lsGet (by kernel_rfl) (q58_L3_k hlo C (tok_ls hT)))⟩, ⟨trivial, trivial⟩⟩⟩) (fun x y h => (q58_e lo x).trans h)
def fs59 (lo : Lo) : List FnE := q58_f lo :: fs58 lo
end Go.Abs.G39
namespace Go.Abs.G39
open Go Go.Abs
set_option maxRecDepth 100000
set_option linter.unusedVariables false
set_option maxHeartbeats 1000000
def q59_L3_b : VCode :=
 (.seq (.seq (.reg [o 14 (.mv (t 8)), o 15 (.mv (t 1)), o 16 (.len (t 15)), o 17 (.bin .lss (t 14) (t 16))])
 (.cond (t 17) .skip
 (.exit 0)))
 (.seq (.blk 1 (.seq (.seq (.reg [o 20 (.mv (t 1)), o 21 (.mv (t 8)), o 22 (.iad 1 (t 20) (t 21)), o 23 (.load false 1 (t 22)), o 24 (.bin .lss (t 23) (k 0)), o 25 (.mv (t 24)), og 26 25 false (.mv (t 1)), og 27 25 false (.mv (t 8)), og 28 25 false (.iad 1 (t 26) (t 27)), og 29 25 false (.load false 1 (t 28)), og 30 25 false (.fad 0 (t 2)), og 31 25 false (.load false 1 (t 30)), og 32 25 false (.len (t 31)), og 33 25 false (.bin .geq (t 29) (t 32)), o 34 (.pick (t 25) (kb true) (t 33)), o 35 (.mv (t 34)), og 36 35 false (.mv (t 1)), og 37 35 false (.mv (t 8)), og 38 35 false (.slcR 1 (t 36) none (some (t 37))), og 39 35 false (.mv (t 1)), og 40 35 false (.mv (t 8)), og 41 35 false (.iad 1 (t 39) (t 40)), og 42 35 false (.load false 1 (t 41)), og 43 35 false (.call 428 [(t 38), (t 42)]), o 44 (.pick (t 35) (kb true) (t 43))])
 (.cond (t 44) (.seq (.reg [o 4 (.mv (k 0)), o 5 (.mv (k 1))])
 (.fz [4, 5] .ret))
 .skip))
 (.reg [o 45 (.mv (t 7)), o 46 (.fad 0 (t 2)), o 47 (.load false 1 (t 46)), o 48 (.mv (t 1)), o 49 (.mv (t 8)), o 50 (.iad 1 (t 48) (t 49)), o 51 (.load false 1 (t 50)), o 52 (.iad 1 (t 47) (t 51)), o 53 (.load false 1 (t 52)), o 54 (.bin .add (t 45) (t 53)), o 7 (.mv (t 54))])))
 (.reg [o 18 (.mv (t 8)), o 19 (.bin .add (t 18) (k 1)), o 8 (.mv (t 19))])))
def q59_L3_g : Sg := ⟨[1, 2, 7, 8], [.l (cs [I]), .ptr 0 0 0, .i .i64, .i .i64], [.st [.l (cs [I]), .l (cs [.l (cs [I])])]], (cs [.l (cs [I]), I, I, .l (cs [I]), .l (cs [.l (cs [I])])])⟩
def q59_L3_o : List Out1 := [⟨.ret, ⟨[4, 5], [.i .i64, .i .i64], [], (cs [I, I])⟩⟩, ⟨.exit 0, ⟨[7], [.i .i64], [], (cs [I])⟩⟩]
def q59_L3_s (lo : Lo) : (List Int) × Int × Int × (List Int) × (List ((List Int))) → Option (((List Int) × Int × Int × (List Int) × (List ((List Int)))) ⊕ ((Int × Int) ⊕ Int)) := fun x => match x with
  | (l1, sum7, i8, in2_0, in2_1) => bif (decide (i8 < (l1.length : Int))) then (chk (0 ≤ i8 ∧ i8 < (l1.length : Int)) (bif (decide ((l1.getD i8.toNat (0 : Int)) < (0 : Int))) then (some (.inr (.inl ((0 : Int), (1 : Int))))) else (chk (0 ≤ i8 ∧ i8 < (l1.length : Int)) (bif (decide ((in2_0.length : Int) ≤ (l1.getD i8.toNat (0 : Int)))) then (some (.inr (.inl ((0 : Int), (1 : Int))))) else (chk (0 ≤ (0 : Int) ∧ (0 : Int) ≤ i8 ∧ i8 ≤ (l1.length : Int)) (chk (0 ≤ i8 ∧ i8 < (l1.length : Int)) (Option.bind (q58 lo ((l1.take i8.toNat).drop 0) (l1.getD i8.toNat (0 : Int))) fun y218 => bif y218 then (some (.inr (.inl ((0 : Int), (1 : Int))))) else (chk (0 ≤ i8 ∧ i8 < (l1.length : Int)) (chk (0 ≤ (l1.getD i8.toNat (0 : Int)) ∧ (l1.getD i8.toNat (0 : Int)) < (in2_0.length : Int)) (some (.inl (l1, (IntKind.wrap .i64 (sum7 + (in2_0.getD ((l1.getD i8.toNat (0 : Int)).toNat) (0 : Int)))), (IntKind.wrap .i64 (i8 + (1 : Int))), in2_0, in2_1)))))))))))) else (some (.inr (.inr sum7)))
theorem q59_L3_e (lo : Lo) : ∀ x : (List Int) × Int × Int × (List Int) × (List ((List Int))), stepL (⟨pf, fs59 lo, [], 0⟩ : Tabs) [] q59_L3_g q59_L3_o q59_L3_b x = q59_L3_s lo x := fun x => by kernel_rfl
def q59_L3 (lo : Lo) : (List Int) × Int × Int × (List Int) × (List ((List Int))) → Option ((Int × Int) ⊕ Int) := lo.run (q59_L3_s lo)
def q59_L3_p (lo : Lo) : LpE := ⟨3, [], q59_L3_g, q59_L3_o, q59_L3 lo⟩
theorem q59_L3_k {lo : Lo} (hlo : LoOK lo) (C : Ctx) (hT : TOK (⟨pf, fs59 lo, [], 0⟩ : Tabs) C) : LpSound (fun _ => False) [] 0 C (.loop q59_L3_b.er) (q59_L3_p lo) :=
  loop_sound (T := (⟨pf, fs59 lo, [], 0⟩ : Tabs)) hT frNo (show LsOK (fun _ => False) [] C (⟨pf, fs59 lo, [], 0⟩ : Tabs) q59_L3_b from ⟨⟨trivial, ⟨trivial, trivial⟩⟩, ⟨⟨⟨trivial, ⟨⟨trivial, trivial⟩, trivial⟩⟩, trivial⟩, trivial⟩⟩) (fun x y h => loopO_congr (q59_L3_e lo) (hlo _ _ _ h))
def q59 (lo : Lo) (in0_0 : List Int) (in0_1 : List ((List Int))) (l1 : List Int) : Option (Int × Int) :=
  Option.bind (q54 lo in0_0 in0_1) fun y214 => bif (!decide (y214 = (0 : Int))) then (some ((0 : Int), y214)) else (Option.bind (q59_L3 lo (l1, (0 : Int), (0 : Int), in0_0, in0_1)) fun y219 => alt2 y219 (fun y220 => some (y220.1, y220.2)) (fun y221 => some (y221, (0 : Int))))
def q59_c : VCode :=
 (.seq (.reg [o 2 (.box (t 0)), o 4 (.mv (k 0)), o 5 (.mv (k 0))])
 (.seq (.seq (.reg [o 9 (.load true 2 (t 2)), o 10 (.call 402 [(t 9)]), o 6 (.mv (t 10))])
 (.seq (.reg [o 11 (.mv (t 6)), o 12 (.bin .neq (t 11) (k 0))])
 (.cond (t 12) (.seq (.reg [o 13 (.mv (t 6)), o 4 (.mv (k 0)), o 5 (.mv (t 13))])
 (.fz [4, 5] .ret))
 .skip)))
 (.seq (.reg [o 7 (.mv (k 0))])
 (.seq (.seq (.reg [o 8 (.mv (k 0))])
 (.blk 0 (.loop 3 q59_L3_b)))
 (.seq (.reg [o 55 (.mv (t 7)), o 4 (.mv (t 55)), o 5 (.mv (k 0))])
 (.fz [4, 5] .ret))))))
def q59_F : VFn := ⟨true, 56, [.t 4, .t 5], q59_c⟩
def q59_f (lo : Lo) : FnE := ⟨405, true, ⟨[0, 1], [.ag [.l (cs [I]), .l (cs [.l (cs [I])])], .l (cs [I])], [], (cs [.l (cs [I]), .l (cs [.l (cs [I])]), .l (cs [I])])⟩, .tp [.i .i64, .i .i64], [], (cs [I, I]), (fun x => q59 lo x.1 x.2.1 x.2.2 : (List Int) × (List ((List Int))) × (List Int) → Option (Int × Int))⟩
theorem q59_e (lo : Lo) : ∀ x : (List Int) × (List ((List Int))) × (List Int), evP (⟨pf, fs59 lo, [q59_L3_p lo], 0⟩ : Tabs) q59_F ⟨[0, 1], [.ag [.l (cs [I]), .l (cs [.l (cs [I])])], .l (cs [I])], [], (cs [.l (cs [I]), .l (cs [.l (cs [I])]), .l (cs [I])])⟩ (.tp [.i .i64, .i .i64]) (cs [I, I]) x = q59 lo x.1 x.2.1 x.2.2 := fun x => by kernel_rfl
theorem q59_S {P : Program} {fm : FM} {lo : Lo} (hlo : LoOK lo) (hS : Sound P fm ⟨pf, fs59 lo, [], 0⟩) (hm : P.follows .mixedOrders = true) (htie : ∀ f, fm f = 405 → fnTr P fm pf f = some (q59_F.slots, q59_F.res, q59_F.code.er)) : Sound P fm ⟨pf, q59_f lo :: fs59 lo, [], 0⟩ :=
  fn_sound hS hm [q59_L3_p lo] (q59_f lo) rfl q59_F htie (by decide) rfl (Nat.le_of_ble_eq_true (by kernel_rfl)) (fun C hT => show LsOK (fun _ => False) [] C (⟨pf, fs59 lo, [q59_L3_p lo], 0⟩ : Tabs) q59_c from ⟨trivial, ⟨⟨trivial, ⟨trivial, ⟨⟨trivial, trivial⟩, trivial⟩⟩⟩, ⟨trivial, ⟨⟨trivial, (lsGet (by kernel_rfl) (q59_L3_k hlo C (tok_ls hT)))⟩, ⟨trivial, trivial⟩⟩⟩⟩⟩) (fun x y h => (q59_e lo x).trans h)
def fs60 (lo : Lo) : List FnE := q59_f lo :: fs59 lo
def q60_L3_b : VCode :=
 (.seq (.seq (.reg [o 4 (.mv (t 3)), o 5 (.mv (t 0)), o 6 (.len (t 5)), o 7 (.bin .lss (t 4) (t 6))])
 (.cond (t 7) .skip
 (.exit 0)))
 (.seq (.blk 1 (.seq (.reg [o 10 (.mv (t 0)), o 11 (.mv (t 3)), o 12 (.iad 1 (t 10) (t 11)), o 13 (.load false 1 (t 12)), o 14 (.mv (t 0)), o 15 (.mv (t 3)), o 16 (.bin .sub (t 15) (k 1)), o 17 (.iad 1 (t 14) (t 16)), o 18 (.load false 1 (t 17)), o 19 (.bin .leq (t 13) (t 18))])
 (.cond (t 19) (.seq (.reg [o 2 (.mv (kb false))])
 (.fz [2] .ret))
 .skip)))
 (.reg [o 8 (.mv (t 3)), o 9 (.bin .add (t 8) (k 1)), o 3 (.mv (t 9))])))
def q60_L3_g : Sg := ⟨[0, 3], [.l (cs [I]), .i .i64], [], (cs [.l (cs [I]), I])⟩
def q60_L3_o : List Out1 := [⟨.ret, ⟨[2], [.b], [], (cs [.b])⟩⟩, ⟨.exit 0, ⟨[], [], [], (cs [])⟩⟩]
def q60_L3_s (lo : Lo) : (List Int) × Int → Option (((List Int) × Int) ⊕ (Bool ⊕ Unit)) := fun x => match x with
  | (l0, i3) => bif (decide (i3 < (l0.length : Int))) then (chk (0 ≤ i3 ∧ i3 < (l0.length : Int)) (chk (0 ≤ (IntKind.wrap .i64 (i3 - (1 : Int))) ∧ (IntKind.wrap .i64 (i3 - (1 : Int))) < (l0.length : Int)) (bif (decide ((l0.getD i3.toNat (0 : Int)) ≤ (l0.getD ((IntKind.wrap .i64 (i3 - (1 : Int))).toNat) (0 : Int)))) then (some (.inr (.inl false))) else (some (.inl (l0, (IntKind.wrap .i64 (i3 + (1 : Int))))))))) else (some (.inr (.inr ())))
theorem q60_L3_e (lo : Lo) : ∀ x : (List Int) × Int, stepL (⟨pf, fs60 lo, [], 0⟩ : Tabs) [] q60_L3_g q60_L3_o q60_L3_b x = q60_L3_s lo x := fun x => by kernel_rfl
def q60_L3 (lo : Lo) : (List Int) × Int → Option (Bool ⊕ Unit) := lo.run (q60_L3_s lo)
def q60_L3_p (lo : Lo) : LpE := ⟨3, [], q60_L3_g, q60_L3_o, q60_L3 lo⟩
theorem q60_L3_k {lo : Lo} (hlo : LoOK lo) (C : Ctx) (hT : TOK (⟨pf, fs60 lo, [], 0⟩ : Tabs) C) : LpSound (fun _ => False) [] 0 C (.loop q60_L3_b.er) (q60_L3_p lo) :=
  loop_sound (T := (⟨pf, fs60 lo, [], 0⟩ : Tabs)) hT frNo (show LsOK (fun _ => False) [] C (⟨pf, fs60 lo, [], 0⟩ : Tabs) q60_L3_b from ⟨⟨trivial, ⟨trivial, trivial⟩⟩, ⟨⟨trivial, ⟨⟨trivial, trivial⟩, trivial⟩⟩, trivial⟩⟩) (fun x y h => loopO_congr (q60_L3_e lo) (hlo _ _ _ h))
def q60 (lo : Lo) (l0 : List Int) : Option Bool :=
  Option.bind (q60_L3 lo (l0, (1 : Int))) fun y223 => alt2 y223 (fun y224 => some y224) (fun y225 => some true)
def q60_c : VCode :=
 (.seq (.reg [o 2 (.mv (kb false))])
 (.seq (.seq (.reg [o 3 (.mv (k 1))])
 (.blk 0 (.loop 3 q60_L3_b)))
 (.seq (.reg [o 2 (.mv (kb true))])
 (.fz [2] .ret))))
def q60_F : VFn := ⟨true, 20, [.t 2], q60_c⟩
def q60_f (lo : Lo) : FnE := ⟨406, true, ⟨[0], [.l (cs [I])], [], (cs [.l (cs [I])])⟩, .b, [], (cs [.b]), (fun x => q60 lo x : (List Int) → Option Bool)⟩
theorem q60_e (lo : Lo) : ∀ x : (List Int), evP (⟨pf, fs60 lo, [q60_L3_p lo], 0⟩ : Tabs) q60_F ⟨[0], [.l (cs [I])], [], (cs [.l (cs [I])])⟩ (.b) (cs [.b]) x = q60 lo x := fun x => by kernel_rfl
theorem q60_S {P : Program} {fm : FM} {lo : Lo} (hlo : LoOK lo) (hS : Sound P fm ⟨pf, fs60 lo, [], 0⟩) (hm : P.follows .mixedOrders = true) (htie : ∀ f, fm f = 406 → fnTr P fm pf f = some (q60_F.slots, q60_F.res, q60_F.code.er)) : Sound P fm ⟨pf, q60_f lo :: fs60 lo, [], 0⟩ :=
  fn_sound hS hm [q60_L3_p lo] (q60_f lo) rfl q60_F htie (by decide) rfl (Nat.le_of_ble_eq_true (by kernel_rfl)) (fun C hT => show LsOK (fun _ => False) [] C (⟨pf, fs60 lo, [q60_L3_p lo], 0⟩ : Tabs) q60_c from ⟨trivial, ⟨⟨trivial, (lsGet (by kernel_rfl) (q60_L3_k hlo C (tok_ls hT)))⟩, ⟨trivial, trivial⟩⟩⟩) (fun x y h => (q60_e lo x).trans h)
def fs61 (lo : Lo) : List FnE := q60_f lo :: fs60 lo
def q61_L3_b : VCode :=
 (.seq (.seq (.reg [o 6 (.mv (t 5)), o 7 (.mv (t 0)), o 8 (.len (t 7)), o 9 (.bin .lss (t 6) (t 8))])
 (.cond (t 9) .skip
 (.exit 0)))
 (.seq (.blk 1 (.seq (.reg [o 12 (.mv (t 1)), o 13 (.mv (t 0)), o 14 (.mv (t 5)), o 15 (.iad 1 (t 13) (t 14)), o 16 (.load false 1 (t 15)), o 17 (.call 428 [(t 12), (t 16)])])
 (.cond (t 17) (.seq (.reg [o 4 (.mv (kb true))])
 (.fz [4] .ret))
 .skip)))
 (.reg [o 10 (.mv (t 5)), o 11 (.bin .add (t 10) (k 1)), o 5 (.mv (t 11))])))
def q61_L3_g : Sg := ⟨[0, 1, 5], [.l (cs [I]), .l (cs [I]), .i .i64], [], (cs [.l (cs [I]), .l (cs [I]), I])⟩
def q61_L3_o : List Out1 := [⟨.ret, ⟨[4], [.b], [], (cs [.b])⟩⟩, ⟨.exit 0, ⟨[], [], [], (cs [])⟩⟩]
def q61_L3_s (lo : Lo) : (List Int) × (List Int) × Int → Option (((List Int) × (List Int) × Int) ⊕ (Bool ⊕ Unit)) := fun x => match x with
  | (a0, b1, i5) => bif (decide (i5 < (a0.length : Int))) then (chk (0 ≤ i5 ∧ i5 < (a0.length : Int)) (Option.bind (q58 lo b1 (a0.getD i5.toNat (0 : Int))) fun y227 => bif y227 then (some (.inr (.inl true))) else (some (.inl (a0, b1, (IntKind.wrap .i64 (i5 + (1 : Int)))))))) else (some (.inr (.inr ())))
theorem q61_L3_e (lo : Lo) : ∀ x : (List Int) × (List Int) × Int, stepL (⟨pf, fs61 lo, [], 0⟩ : Tabs) [] q61_L3_g q61_L3_o q61_L3_b x = q61_L3_s lo x := fun x => by kernel_rfl
def q61_L3 (lo : Lo) : (List Int) × (List Int) × Int → Option (Bool ⊕ Unit) := lo.run (q61_L3_s lo)
def q61_L3_p (lo : Lo) : LpE := ⟨3, [], q61_L3_g, q61_L3_o, q61_L3 lo⟩
theorem q61_L3_k {lo : Lo} (hlo : LoOK lo) (C : Ctx) (hT : TOK (⟨pf, fs61 lo, [], 0⟩ : Tabs) C) : LpSound (fun _ => False) [] 0 C (.loop q61_L3_b.er) (q61_L3_p lo) :=
  loop_sound (T := (⟨pf, fs61 lo, [], 0⟩ : Tabs)) hT frNo (show LsOK (fun _ => False) [] C (⟨pf, fs61 lo, [], 0⟩ : Tabs) q61_L3_b from ⟨⟨trivial, ⟨trivial, trivial⟩⟩, ⟨⟨trivial, ⟨⟨trivial, trivial⟩, trivial⟩⟩, trivial⟩⟩) (fun x y h => loopO_congr (q61_L3_e lo) (hlo _ _ _ h))
def q61 (lo : Lo) (a0 : List Int) (b1 : List Int) : Option Bool :=
  Option.bind (q61_L3 lo (a0, b1, (0 : Int))) fun y228 => alt2 y228 (fun y229 => some y229) (fun y230 => some false)
def q61_c : VCode :=
 (.seq (.reg [o 4 (.mv (kb false))])
 (.seq (.seq (.reg [o 5 (.mv (k 0))])
 (.blk 0 (.loop 3 q61_L3_b)))
 (.seq (.reg [o 4 (.mv (kb false))])
 (.fz [4] .ret))))
def q61_F : VFn := ⟨true, 18, [.t 4], q61_c⟩
def q61_f (lo : Lo) : FnE := ⟨431, true, ⟨[0, 1], [.l (cs [I]), .l (cs [I])], [], (cs [.l (cs [I]), .l (cs [I])])⟩, .b, [], (cs [.b]), (fun x => q61 lo x.1 x.2 : (List Int) × (List Int) → Option Bool)⟩
theorem q61_e (lo : Lo) : ∀ x : (List Int) × (List Int), evP (⟨pf, fs61 lo, [q61_L3_p lo], 0⟩ : Tabs) q61_F ⟨[0, 1], [.l (cs [I]), .l (cs [I])], [], (cs [.l (cs [I]), .l (cs [I])])⟩ (.b) (cs [.b]) x = q61 lo x.1 x.2 := fun x => by kernel_rfl
theorem q61_S {P : Program} {fm : FM} {lo : Lo} (hlo : LoOK lo) (hS : Sound P fm ⟨pf, fs61 lo, [], 0⟩) (hm : P.follows .mixedOrders = true) (htie : ∀ f, fm f = 431 → fnTr P fm pf f = some (q61_F.slots, q61_F.res, q61_F.code.er)) : Sound P fm ⟨pf, q61_f lo :: fs61 lo, [], 0⟩ :=
  fn_sound hS hm [q61_L3_p lo] (q61_f lo) rfl q61_F htie (by decide) rfl (Nat.le_of_ble_eq_true (by kernel_rfl)) (fun C hT => show LsOK (fun _ => False) [] C (⟨pf, fs61 lo, [q61_L3_p lo], 0⟩ : Tabs) q61_c from ⟨trivial, ⟨⟨trivial, (lsGet (by kernel_rfl) (q61_L3_k hlo C (tok_ls hT)))⟩, ⟨trivial, trivial⟩⟩⟩) (fun x y h => (q61_e lo x).trans h)
def fs62 (lo : Lo) : List FnE := q61_f lo :: fs61 lo
def q62_L3_b : VCode :=
 (.seq (.seq (.reg [o 6 (.mv (t 5)), o 7 (.fad 1 (t 2)), o 8 (.load false 1 (t 7)), o 9 (.len (t 8)), o 10 (.bin .lss (t 6) (t 9))])
 (.cond (t 10) .skip
 (.exit 0)))
 (.seq (.blk 1 (.seq (.reg [o 13 (.fad 1 (t 2)), o 14 (.load false 1 (t 13)), o 15 (.mv (t 5)), o 16 (.iad 1 (t 14) (t 15)), o 17 (.load false 1 (t 16)), o 18 (.mv (t 1)), o 19 (.call 431 [(t 17), (t 18)]), o 20 (.not (t 19))])
 (.cond (t 20) (.seq (.reg [o 4 (.mv (kb false))])
 (.fz [4] .ret))
 .skip)))
 (.reg [o 11 (.mv (t 5)), o 12 (.bin .add (t 11) (k 1)), o 5 (.mv (t 12))])))
def q62_L3_g : Sg := ⟨[1, 2, 5], [.l (cs [I]), .ptr 0 0 0, .i .i64], [.st [.l (cs [I]), .l (cs [.l (cs [I])])]], (cs [.l (cs [I]), I, .l (cs [I]), .l (cs [.l (cs [I])])])⟩
def q62_L3_o : List Out1 := [⟨.ret, ⟨[4], [.b], [], (cs [.b])⟩⟩, ⟨.exit 0, ⟨[], [], [], (cs [])⟩⟩]
def q62_L3_s (lo : Lo) : (List Int) × Int × (List Int) × (List ((List Int))) → Option (((List Int) × Int × (List Int) × (List ((List Int)))) ⊕ (Bool ⊕ Unit)) := fun x => match x with
  | (l1, i5, in2_0, in2_1) => bif (decide (i5 < (in2_1.length : Int))) then (chk (0 ≤ i5 ∧ i5 < (in2_1.length : Int)) (Option.bind (q61 lo (in2_1.getD i5.toNat []) l1) fun y231 => bif (!y231) then (some (.inr (.inl false))) else (some (.inl (l1, (IntKind.wrap .i64 (i5 + (1 : Int))), in2_0, in2_1))))) else (some (.inr (.inr ())))
theorem q62_L3_e (lo : Lo) : ∀ x : (List Int) × Int × (List Int) × (List ((List Int))), stepL (⟨pf, fs62 lo, [], 0⟩ : Tabs) [] q62_L3_g q62_L3_o q62_L3_b x = q62_L3_s lo x := fun x => by kernel_rfl
def q62_L3 (lo : Lo) : (List Int) × Int × (List Int) × (List ((List Int))) → Option (Bool ⊕ Unit) := lo.run (q62_L3_s lo)
def q62_L3_p (lo : Lo) : LpE := ⟨3, [], q62_L3_g, q62_L3_o, q62_L3 lo⟩
theorem q62_L3_k {lo : Lo} (hlo : LoOK lo) (C : Ctx) (hT : TOK (⟨pf, fs62 lo, [], 0⟩ : Tabs) C) : LpSound (fun _ => False) [] 0 C (.loop q62_L3_b.er) (q62_L3_p lo) :=
  loop_sound (T := (⟨pf, fs62 lo, [], 0⟩ : Tabs)) hT frNo (show LsOK (fun _ => False) [] C (⟨pf, fs62 lo, [], 0⟩ : Tabs) q62_L3_b from ⟨⟨trivial, ⟨trivial, trivial⟩⟩, ⟨⟨trivial, ⟨⟨trivial, trivial⟩, trivial⟩⟩, trivial⟩⟩) (fun x y h => loopO_congr (q62_L3_e lo) (hlo _ _ _ h))
def q62 (lo : Lo) (in0_0 : List Int) (in0_1 : List ((List Int))) (l1 : List Int) : Option Bool :=
  Option.bind (q62_L3 lo (l1, (0 : Int), in0_0, in0_1)) fun y232 => alt2 y232 (fun y233 => some y233) (fun y234 => some true)
def q62_c : VCode :=
 (.seq (.reg [o 2 (.box (t 0)), o 4 (.mv (kb false))])
 (.seq (.seq (.reg [o 5 (.mv (k 0))])
 (.blk 0 (.loop 3 q62_L3_b)))
 (.seq (.reg [o 4 (.mv (kb true))])
 (.fz [4] .ret))))
def q62_F : VFn := ⟨true, 21, [.t 4], q62_c⟩
def q62_f (lo : Lo) : FnE := ⟨410, true, ⟨[0, 1], [.ag [.l (cs [I]), .l (cs [.l (cs [I])])], .l (cs [I])], [], (cs [.l (cs [I]), .l (cs [.l (cs [I])]), .l (cs [I])])⟩, .b, [], (cs [.b]), (fun x => q62 lo x.1 x.2.1 x.2.2 : (List Int) × (List ((List Int))) × (List Int) → Option Bool)⟩
theorem q62_e (lo : Lo) : ∀ x : (List Int) × (List ((List Int))) × (List Int), evP (⟨pf, fs62 lo, [q62_L3_p lo], 0⟩ : Tabs) q62_F ⟨[0, 1], [.ag [.l (cs [I]), .l (cs [.l (cs [I])])], .l (cs [I])], [], (cs [.l (cs [I]), .l (cs [.l (cs [I])]), .l (cs [I])])⟩ (.b) (cs [.b]) x = q62 lo x.1 x.2.1 x.2.2 := fun x => by kernel_rfl
theorem q62_S {P : Program} {fm : FM} {lo : Lo} (hlo : LoOK lo) (hS : Sound P fm ⟨pf, fs62 lo, [], 0⟩) (hm : P.follows .mixedOrders = true) (htie : ∀ f, fm f = 410 → fnTr P fm pf f = some (q62_F.slots, q62_F.res, q62_F.code.er)) : Sound P fm ⟨pf, q62_f lo :: fs62 lo, [], 0⟩ :=
  fn_sound hS hm [q62_L3_p lo] (q62_f lo) rfl q62_F htie (by decide) rfl (Nat.le_of_ble_eq_true (by kernel_rfl)) (fun C hT => show LsOK (fun _ => False) [] C (⟨pf, fs62 lo, [q62_L3_p lo], 0⟩ : Tabs) q62_c from ⟨trivial, ⟨⟨trivial, (lsGet (by kernel_rfl) (q62_L3_k hlo C (tok_ls hT)))⟩, ⟨trivial, trivial⟩⟩⟩) (fun x y h => (q62_e lo x).trans h)
def fs63 (lo : Lo) : List FnE := q62_f lo :: fs62 lo
def fs64 (lo : Lo) : List FnE := fs63 lo
def q64_L3_b : VCode :=
 (.seq (.seq (.reg [o 8 (.mv (t 4)), o 9 (.fad 0 (t 1)), o 10 (.load false 1 (t 9)), o 11 (.len (t 10)), o 12 (.bin .shl (k 1) (t 11)), o 13 (.bin .lss (t 8) (t 12))])
 (.cond (t 13) .skip
 (.exit 0)))
 (.seq (.blk 1 (.seq (.reg [o 16 (.mv (t 4)), o 17 (.fad 0 (t 1)), o 18 (.load false 1 (t 17)), o 19 (.len (t 18)), o 20 (.call 423 [(t 16), (t 19)]), o 5 (.mv (t 20))])
 (.seq (.reg [o 22 (.load true 2 (t 1)), o 23 (.mv (t 5)), o 24 (.call 405 [(t 22), (t 23)]), o 21 (.mv (t 24)), o 25 (.ext (t 21) 0), o 26 (.ext (t 21) 1), o 6 (.mv (t 25)), o 7 (.mv (t 26))])
 (.seq (.reg [o 27 (.load true 2 (t 1)), o 28 (.mv (t 5)), o 29 (.call 410 [(t 27), (t 28)]), o 30 (.mv (t 29)), og 31 30 true (.mv (t 3)), og 32 30 true (.bin .lss (t 31) (k 0)), og 33 30 true (.mv (t 32)), og 34 33 false (.mv (t 6)), og 35 33 false (.mv (t 3)), og 36 33 false (.bin .lss (t 34) (t 35)), og 37 30 true (.pick (t 33) (kb true) (t 36)), o 38 (.pick (t 30) (t 37) (kb false))])
 (.cond (t 38) (.reg [o 39 (.mv (t 6)), o 3 (.mv (t 39))])
 .skip)))))
 (.reg [o 14 (.mv (t 4)), o 15 (.bin .add (t 14) (k 1)), o 4 (.mv (t 15))])))
def q64_L3_g : Sg := ⟨[1, 3, 4], [.ptr 0 0 0, .i .i64, .i .i64], [.st [.l (cs [I]), .l (cs [.l (cs [I])])]], (cs [I, I, .l (cs [I]), .l (cs [.l (cs [I])])])⟩
def q64_L3_o : List Out1 := [⟨.exit 0, ⟨[3], [.i .i64], [], (cs [I])⟩⟩]
def q64_L3_s (lo : Lo) : Int × Int × (List Int) × (List ((List Int))) → Option ((Int × Int × (List Int) × (List ((List Int)))) ⊕ Int) := fun x => match x with
  | (least3, bits4, in1_0, in1_1) => chk (0 ≤ (in1_0.length : Int)) (bif (decide (bits4 < (IntKind.wrap .i64 ((1 : Int) * 2 ^ (min (in1_0.length : Int).toNat (IntKind.bits .i64)))))) then (Option.bind (q56 lo bits4 (in1_0.length : Int)) fun y241 => Option.bind (q59 lo in1_0 in1_1 y241) fun y242 => Option.bind (q62 lo in1_0 in1_1 y241) fun y243 => bif y243 then (bif (decide (least3 < (0 : Int))) then (some (.inl (y242.1, (IntKind.wrap .i64 (bits4 + (1 : Int))), in1_0, in1_1))) else (bif (decide (y242.1 < least3)) then (some (.inl (y242.1, (IntKind.wrap .i64 (bits4 + (1 : Int))), in1_0, in1_1))) else (some (.inl (least3, (IntKind.wrap .i64 (bits4 + (1 : Int))), in1_0, in1_1))))) else (some (.inl (least3, (IntKind.wrap .i64 (bits4 + (1 : Int))), in1_0, in1_1)))) else (some (.inr least3)))
theorem q64_L3_e (lo : Lo) : ∀ x : Int × Int × (List Int) × (List ((List Int))), stepL (⟨pf, fs64 lo, [], 0⟩ : Tabs) [] q64_L3_g q64_L3_o q64_L3_b x = q64_L3_s lo x := fun x => by kernel_rfl
def q64_L3 (lo : Lo) : Int × Int × (List Int) × (List ((List Int))) → Option Int := lo.run (q64_L3_s lo)
def q64_L3_p (lo : Lo) : LpE := ⟨3, [], q64_L3_g, q64_L3_o, q64_L3 lo⟩
theorem q64_L3_k {lo : Lo} (hlo : LoOK lo) (C : Ctx) (hT : TOK (⟨pf, fs64 lo, [], 0⟩ : Tabs) C) : LpSound (fun _ => False) [] 0 C (.loop q64_L3_b.er) (q64_L3_p lo) :=
  loop_sound (T := (⟨pf, fs64 lo, [], 0⟩ : Tabs)) hT frNo (show LsOK (fun _ => False) [] C (⟨pf, fs64 lo, [], 0⟩ : Tabs) q64_L3_b from ⟨⟨trivial, ⟨trivial, trivial⟩⟩, ⟨⟨trivial, ⟨trivial, ⟨trivial, ⟨trivial, trivial⟩⟩⟩⟩, trivial⟩⟩) (fun x y h => loopO_congr (q64_L3_e lo) (hlo _ _ _ h))
def q64 (lo : Lo) (in0_0 : List Int) (in0_1 : List ((List Int))) : Option Int :=
  Option.bind (q64_L3 lo ((-1 : Int), (0 : Int), in0_0, in0_1)) fun y244 => some y244
def q64_c : VCode :=
 (.seq (.reg [o 1 (.box (t 0)), o 2 (.mv (k 0))])
 (.seq (.reg [o 3 (.mv (k (-1)))])
 (.seq (.seq (.reg [o 4 (.mv (k 0))])
 (.blk 0 (.loop 3 q64_L3_b)))
 (.seq (.reg [o 40 (.mv (t 3)), o 2 (.mv (t 40))])
 (.fz [2] .ret)))))
def q64_F : VFn := ⟨true, 41, [.t 2], q64_c⟩
def q64_f (lo : Lo) : FnE := ⟨408, true, ⟨[0], [.ag [.l (cs [I]), .l (cs [.l (cs [I])])]], [], (cs [.l (cs [I]), .l (cs [.l (cs [I])])])⟩, .i .i64, [], (cs [I]), (fun x => q64 lo x.1 x.2 : (List Int) × (List ((List Int))) → Option Int)⟩
theorem q64_e (lo : Lo) : ∀ x : (List Int) × (List ((List Int))), evP (⟨pf, fs64 lo, [q64_L3_p lo], 0⟩ : Tabs) q64_F ⟨[0], [.ag [.l (cs [I]), .l (cs [.l (cs [I])])]], [], (cs [.l (cs [I]), .l (cs [.l (cs [I])])])⟩ (.i .i64) (cs [I]) x = q64 lo x.1 x.2 := fun x => by kernel_rfl
theorem q64_S {P : Program} {fm : FM} {lo : Lo} (hlo : LoOK lo) (hS : Sound P fm ⟨pf, fs64 lo, [], 0⟩) (hm : P.follows .mixedOrders = true) (htie : ∀ f, fm f = 408 → fnTr P fm pf f = some (q64_F.slots, q64_F.res, q64_F.code.er)) : Sound P fm ⟨pf, q64_f lo :: fs64 lo, [], 0⟩ :=
  fn_sound hS hm [q64_L3_p lo] (q64_f lo) rfl q64_F htie (by decide) rfl (Nat.le_of_ble_eq_true (by kernel_rfl)) (fun C hT => show LsOK (fun _ => False) [] C (⟨pf, fs64 lo, [q64_L3_p lo], 0⟩ : Tabs) q64_c from ⟨trivial, ⟨trivial, ⟨⟨trivial, (lsGet (by kernel_rfl) (q64_L3_k hlo C (tok_ls hT)))⟩, ⟨trivial, trivial⟩⟩⟩⟩) (fun x y h => (q64_e lo x).trans h)
def fs65 (lo : Lo) : List FnE := q64_f lo :: fs64 lo
def fs66 (lo : Lo) : List FnE := fs65 lo
def q66 (lo : Lo) (d0_0 : List Int) (d0_1 : List Int) (budget1 : Int) : Option Bool :=
  Option.bind (q57 lo d0_0 d0_1) fun y246 => Option.bind (q53 lo) fun y247 => bif (!y247) then (Option.bind (q53 lo) fun y248 => some y248) else (bif (!y246.2.2) then (Option.bind (q53 lo) fun y249 => some y249) else (Option.bind (q47 lo y246.1 y246.2.1 budget1) fun y250 => bif (decide (budget1 < (1 : Int))) then (bif (decide (y250.2.2 = (1 : Int))) then (bif (decide ((y250.1.length : Int) = (0 : Int))) then (some (decide (y250.2.1 = (0 : Int)))) else (some false)) else (some false)) else (bif (decide (y250.2.2 = (13 : Int))) then (bif (decide (budget1 < (10000 : Int))) then (bif (decide ((y250.1.length : Int) = (0 : Int))) then (some (decide (y250.2.1 = (0 : Int)))) else (some false)) else (some false)) else (Option.bind (q59 lo y246.1 y246.2.1 y250.1) fun y251 => bif (decide (y250.2.2 = (0 : Int))) then (bif (decide (y251.2 = (0 : Int))) then (Option.bind (q60 lo y250.1) fun y252 => bif y252 then (Option.bind (q62 lo y246.1 y246.2.1 y250.1) fun y253 => bif y253 then (bif (decide (y251.1 = y250.2.1)) then (Option.bind (q64 lo y246.1 y246.2.1) fun y254 => some (decide (y250.2.1 = y254))) else (some false)) else (some false)) else (some false)) else (some false)) else (some false)))))
def q66_c : VCode :=
 (.seq (.reg [o 2 (.box (t 0)), o 4 (.mv (kb false))])
 (.seq (.reg [o 13 (.load true 2 (t 2)), o 14 (.call 403 [(t 13)]), o 12 (.mv (t 14)), o 15 (.ext (t 12) 0), o 16 (.ext (t 12) 1), o 5 (.alloc [.e (cs [I]), .e (cs [.l (cs [I])])]), on (.store 2 (t 5) (t 15)), o 6 (.mv (t 16))])
 (.seq (.seq (.reg [o 17 (.call 400 []), o 18 (.not (t 17)), o 19 (.mv (t 18)), og 20 19 false (.mv (t 6)), og 21 19 false (.not (t 20)), o 22 (.pick (t 19) (kb true) (t 21))])
 (.cond (t 22) (.seq (.reg [o 23 (.call 400 []), o 4 (.mv (t 23))])
 (.fz [4] .ret))
 .skip))
 (.seq (.reg [o 25 (.load true 2 (t 5)), o 26 (.mv (t 1)), o 27 (.call 409 [(t 25), (t 26)]), o 24 (.mv (t 27)), o 28 (.ext (t 24) 0), o 29 (.ext (t 24) 1), o 30 (.ext (t 24) 2), o 7 (.mv (t 28)), o 8 (.mv (t 29)), o 9 (.mv (t 30))])
 (.seq (.seq (.reg [o 31 (.mv (t 1)), o 32 (.bin .lss (t 31) (k 1))])
 (.cond (t 32) (.seq (.reg [o 33 (.mv (t 9)), o 34 (.bin .eql (t 33) (k 1)), o 35 (.mv (t 34)), og 36 35 true (.mv (t 7)), og 37 35 true (.len (t 36)), og 38 35 true (.bin .eql (t 37) (k 0)), o 39 (.pick (t 35) (t 38) (kb false)), o 40 (.mv (t 39)), og 41 40 true (.mv (t 8)), og 42 40 true (.bin .eql (t 41) (k 0)), o 43 (.pick (t 40) (t 42) (kb false)), o 4 (.mv (t 43))])
 (.fz [4] .ret))
 .skip))
 (.seq (.seq (.reg [o 44 (.mv (t 9)), o 45 (.bin .eql (t 44) (k 13))])
 (.cond (t 45) (.seq (.reg [o 46 (.mv (t 1)), o 47 (.bin .lss (t 46) (k 10000)), o 48 (.mv (t 47)), og 49 48 true (.mv (t 7)), og 50 48 true (.len (t 49)), og 51 48 true (.bin .eql (t 50) (k 0)), o 52 (.pick (t 48) (t 51) (kb false)), o 53 (.mv (t 52)), og 54 53 true (.mv (t 8)), og 55 53 true (.bin .eql (t 54) (k 0)), o 56 (.pick (t 53) (t 55) (kb false)), o 4 (.mv (t 56))])
 (.fz [4] .ret))
 .skip))
 (.seq (.reg [o 58 (.load true 2 (t 5)), o 59 (.mv (t 7)), o 60 (.call 405 [(t 58), (t 59)]), o 57 (.mv (t 60)), o 61 (.ext (t 57) 0), o 62 (.ext (t 57) 1), o 10 (.mv (t 61)), o 11 (.mv (t 62))])
 (.seq (.reg [o 63 (.mv (t 9)), o 64 (.bin .eql (t 63) (k 0)), o 65 (.mv (t 64)), og 66 65 true (.mv (t 11)), og 67 65 true (.bin .eql (t 66) (k 0)), o 68 (.pick (t 65) (t 67) (kb false)), o 69 (.mv (t 68)), og 70 69 true (.mv (t 7)), og 71 69 true (.call 406 [(t 70)]), o 72 (.pick (t 69) (t 71) (kb false)), o 73 (.mv (t 72)), og 74 73 true (.load true 2 (t 5)), og 75 73 true (.mv (t 7)), og 76 73 true (.call 410 [(t 74), (t 75)]), o 77 (.pick (t 73) (t 76) (kb false)), o 78 (.mv (t 77)), og 79 78 true (.mv (t 10)), og 80 78 true (.mv (t 8)), og 81 78 true (.bin .eql (t 79) (t 80)), o 82 (.pick (t 78) (t 81) (kb false)), o 83 (.mv (t 82)), og 84 83 true (.mv (t 8)), og 85 83 true (.load true 2 (t 5)), og 86 83 true (.call 408 [(t 85)]), og 87 83 true (.bin .eql (t 84) (t 86)), o 88 (.pick (t 83) (t 87) (kb false)), o 4 (.mv (t 88))])
 (.fz [4] .ret)))))))))
def q66_F : VFn := ⟨true, 89, [.t 4], q66_c⟩
def q66_f (lo : Lo) : FnE := ⟨393, true, ⟨[0, 1], [.ag [.l (cs [.i .u8]), .l (cs [.i .u16])], .i .i64], [], (cs [.l (cs [.i .u8]), .l (cs [.i .u16]), I])⟩, .b, [], (cs [.b]), (fun x => q66 lo x.1 x.2.1 x.2.2 : (List Int) × (List Int) × Int → Option Bool)⟩
theorem q66_e (lo : Lo) : ∀ x : (List Int) × (List Int) × Int, evP (⟨pf, fs66 lo, [], 0⟩ : Tabs) q66_F ⟨[0, 1], [.ag [.l (cs [.i .u8]), .l (cs [.i .u16])], .i .i64], [], (cs [.l (cs [.i .u8]), .l (cs [.i .u16]), I])⟩ (.b) (cs [.b]) x = q66 lo x.1 x.2.1 x.2.2 := fun x => by kernel_rfl
theorem q66_S {P : Program} {fm : FM} {lo : Lo} (hlo : LoOK lo) (hS : Sound P fm ⟨pf, fs66 lo, [], 0⟩) (hm : P.follows .mixedOrders = true) (htie : ∀ f, fm f = 393 → fnTr P fm pf f = some (q66_F.slots, q66_F.res, q66_F.code.er)) : Sound P fm ⟨pf, q66_f lo :: fs66 lo, [], 0⟩ :=
  fn_sound hS hm [] (q66_f lo) rfl q66_F htie (by decide) rfl (Nat.le_of_ble_eq_true (by kernel_rfl)) (fun C hT => show LsOK (fun _ => False) [] C (⟨pf, fs66 lo, [], 0⟩ : Tabs) q66_c from ⟨trivial, ⟨trivial, ⟨⟨trivial, ⟨⟨trivial, trivial⟩, trivial⟩⟩, ⟨trivial, ⟨⟨trivial, ⟨⟨trivial, trivial⟩, trivial⟩⟩, ⟨⟨trivial, ⟨⟨trivial, trivial⟩, trivial⟩⟩, ⟨trivial, ⟨trivial, trivial⟩⟩⟩⟩⟩⟩⟩⟩) (fun x y h => (q66_e lo x).trans h)
def fs67 (lo : Lo) : List FnE := q66_f lo :: fs66 lo
end Go.Abs.G39
