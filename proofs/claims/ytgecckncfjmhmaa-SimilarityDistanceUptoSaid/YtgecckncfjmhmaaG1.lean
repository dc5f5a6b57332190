/- Functions of the program as functions of data (written by program). No condition. -/
import Derived.Test.YtgecckncfjmhmaaG
set_option linter.unusedVariables false
set_option linter.unusedSimpArgs false
set_option linter.unusedSectionVars false
namespace Go.Abs.G52
open Go Go.Abs
set_option maxRecDepth 100000
set_option linter.unusedVariables false
set_option maxHeartbeats 1000000
def q55_L3_b : VCode :=
 (.seq (.seq (.reg [o 17 (.mv (t 8)), o 18 (.mv (t 1)), o 19 (.len (t 18)), o 20 (.bin .lss (t 17) (t 19))])
 (.cond (t 20) .skip
 (.exit 0)))
 (.seq (.blk 1 (.seq (.reg [o 23 (.mv (t 1)), o 24 (.mv (t 8)), o 25 (.iad 3 (t 23) (t 24)), o 26 (.load true 3 (t 25)), o 9 (.alloc [.i .i64 0, .i .i64 0, .i .i64 0]), on (.store 3 (t 9) (t 26))])
 (.seq (.seq (.reg [o 27 (.fad 0 (t 9)), o 28 (.load false 1 (t 27)), o 29 (.mv (t 7)), o 30 (.bin .lss (t 28) (t 29)), o 31 (.mv (t 30)), og 32 31 false (.fad 0 (t 9)), og 33 31 false (.load false 1 (t 32)), og 34 31 false (.mv (t 0)), og 35 31 false (.lenS (t 34)), og 36 31 false (.bin .gtr (t 33) (t 35)), o 37 (.pick (t 31) (kb true) (t 36)), o 38 (.mv (t 37)), og 39 38 false (.fad 1 (t 9)), og 40 38 false (.load false 1 (t 39)), og 41 38 false (.bin .lss (t 40) (k (-1))), o 42 (.pick (t 38) (kb true) (t 41)), o 43 (.mv (t 42)), og 44 43 false (.fad 2 (t 9)), og 45 43 false (.load false 1 (t 44)), og 46 43 false (.bin .lss (t 45) (k (-1))), o 47 (.pick (t 43) (kb true) (t 46)), o 48 (.mv (t 47)), og 49 48 false (.fad 2 (t 9)), og 50 48 false (.load false 1 (t 49)), og 51 48 false (.bin .gtr (t 50) (k 255)), o 52 (.pick (t 48) (kb true) (t 51)), o 53 (.mv (t 52)), og 54 53 false (.fad 1 (t 9)), og 55 53 false (.load false 1 (t 54)), og 56 53 false (.bin .eql (t 55) (k (-1))), og 57 53 false (.mv (t 56)), og 58 57 true (.fad 2 (t 9)), og 59 57 true (.load false 1 (t 58)), og 60 57 true (.bin .eql (t 59) (k (-1))), og 61 53 false (.pick (t 57) (t 60) (kb false)), o 62 (.pick (t 53) (kb true) (t 61))])
 (.cond (t 62) (.seq (.reg [o 4 (.mv (ks (⟨#[]⟩))), o 5 (.mv (k 1))])
 (.fz [4, 5] .ret))
 .skip))
 (.seq (.seq (.reg [o 63 (.fad 1 (t 9)), o 64 (.load false 1 (t 63)), o 65 (.bin .geq (t 64) (k 0)), o 66 (.mv (t 65)), og 67 66 true (.fad 0 (t 9)), og 68 66 true (.load false 1 (t 67)), og 69 66 true (.mv (t 0)), og 70 66 true (.lenS (t 69)), og 71 66 true (.bin .eql (t 68) (t 70)), og 72 66 true (.mv (t 71)), og 73 72 false (.mv (t 0)), og 74 72 false (.fad 0 (t 9)), og 75 72 false (.load false 1 (t 74)), og 76 72 false (.idx (t 73) (t 75)), og 77 72 false (.conv .i64 (t 76)), og 78 72 false (.fad 1 (t 9)), og 79 72 false (.load false 1 (t 78)), og 80 72 false (.bin .neq (t 77) (t 79)), og 81 66 true (.pick (t 72) (kb true) (t 80)), o 82 (.pick (t 66) (t 81) (kb false))])
 (.cond (t 82) (.seq (.reg [o 4 (.mv (ks (⟨#[]⟩))), o 5 (.mv (k 1))])
 (.fz [4, 5] .ret))
 .skip))
 (.seq (.reg [o 83 (.mv (t 6)), o 84 (.mv (t 0)), o 85 (.mv (t 7)), o 86 (.fad 0 (t 9)), o 87 (.load false 1 (t 86)), o 88 (.slcS (t 84) (some (t 85)) (some (t 87))), o 89 (.bin .add (t 83) (t 88)), o 6 (.mv (t 89))])
 (.seq (.reg [o 90 (.fad 0 (t 9)), o 91 (.load false 1 (t 90)), o 7 (.mv (t 91))])
 (.seq (.seq (.reg [o 92 (.fad 1 (t 9)), o 93 (.load false 1 (t 92)), o 94 (.bin .geq (t 93) (k 0))])
 (.cond (t 94) (.reg [o 95 (.mv (t 7)), o 96 (.bin .add (t 95) (k 1)), o 7 (.mv (t 96))])
 .skip))
 (.seq (.reg [o 97 (.fad 2 (t 9)), o 98 (.load false 1 (t 97)), o 99 (.bin .geq (t 98) (k 0))])
 (.cond (t 99) (.reg [o 100 (.mv (t 6)), o 101 (.fad 2 (t 9)), o 102 (.load false 1 (t 101)), o 103 (.conv .u8 (t 102)), o 104 (.bsl (cs [.i .u8]) 1 [(0, (t 103))]), o 105 (.bstr (t 104)), o 106 (.bin .add (t 100) (t 105)), o 6 (.mv (t 106))])
 .skip)))))))))
 (.reg [o 21 (.mv (t 8)), o 22 (.bin .add (t 21) (k 1)), o 8 (.mv (t 22))])))
def q55_L3_g : Sg := ⟨[0, 1, 6, 7, 8], [.s, .l (cs [I, I, I]), .s, .i .i64, .i .i64], [], (cs [.s, .l (cs [I, I, I]), .s, I, I])⟩
def q55_L3_o : List Out1 := [⟨.ret, ⟨[4, 5], [.s, .i .i64], [], (cs [.s, I])⟩⟩, ⟨.exit 0, ⟨[0, 6, 7], [.s, .s, .i .i64], [], (cs [.s, .s, I])⟩⟩]
def q55_L3_s (lo : Lo) : ByteArray × (List (Int × Int × Int)) × ByteArray × Int × Int → Option ((ByteArray × (List (Int × Int × Int)) × ByteArray × Int × Int) ⊕ ((ByteArray × Int) ⊕ (ByteArray × ByteArray × Int))) := fun x => match x with
  | (a0, l1, out6, at7, i8) => bif (decide (i8 < (l1.length : Int))) then (chk (0 ≤ i8 ∧ i8 < (l1.length : Int)) (bif (decide ((l1.getD i8.toNat ((0 : Int), (0 : Int), (0 : Int))).1 < at7)) then (some (.inr (.inl ((ByteArray.mk #[]), (1 : Int))))) else (bif (decide ((a0.size : Int) < (l1.getD i8.toNat ((0 : Int), (0 : Int), (0 : Int))).1)) then (some (.inr (.inl ((ByteArray.mk #[]), (1 : Int))))) else (bif (decide ((l1.getD i8.toNat ((0 : Int), (0 : Int), (0 : Int))).2.1 < (-1 : Int))) then (some (.inr (.inl ((ByteArray.mk #[]), (1 : Int))))) else (bif (decide ((l1.getD i8.toNat ((0 : Int), (0 : Int), (0 : Int))).2.2 < (-1 : Int))) then (some (.inr (.inl ((ByteArray.mk #[]), (1 : Int))))) else (bif (decide ((255 : Int) < (l1.getD i8.toNat ((0 : Int), (0 : Int), (0 : Int))).2.2)) then (some (.inr (.inl ((ByteArray.mk #[]), (1 : Int))))) else (bif (decide ((l1.getD i8.toNat ((0 : Int), (0 : Int), (0 : Int))).2.1 = (-1 : Int))) then (bif (decide ((l1.getD i8.toNat ((0 : Int), (0 : Int), (0 : Int))).2.2 = (-1 : Int))) then (some (.inr (.inl ((ByteArray.mk #[]), (1 : Int))))) else (bif (decide ((0 : Int) ≤ (l1.getD i8.toNat ((0 : Int), (0 : Int), (0 : Int))).2.1)) then (bif (decide ((l1.getD i8.toNat ((0 : Int), (0 : Int), (0 : Int))).1 = (a0.size : Int))) then (some (.inr (.inl ((ByteArray.mk #[]), (1 : Int))))) else (chk (0 ≤ (l1.getD i8.toNat ((0 : Int), (0 : Int), (0 : Int))).1 ∧ (l1.getD i8.toNat ((0 : Int), (0 : Int), (0 : Int))).1 < (a0.size : Int)) (bif (!decide ((IntKind.wrap .i64 (byteI a0 ((l1.getD i8.toNat ((0 : Int), (0 : Int), (0 : Int))).1))) = (l1.getD i8.toNat ((0 : Int), (0 : Int), (0 : Int))).2.1)) then (some (.inr (.inl ((ByteArray.mk #[]), (1 : Int))))) else (chk (0 ≤ at7 ∧ at7 ≤ (l1.getD i8.toNat ((0 : Int), (0 : Int), (0 : Int))).1 ∧ (l1.getD i8.toNat ((0 : Int), (0 : Int), (0 : Int))).1 ≤ (a0.size : Int)) (chk (Nat.ble (out6.size + (a0.extract at7.toNat ((l1.getD i8.toNat ((0 : Int), (0 : Int), (0 : Int))).1).toNat).size) 9223372036854775807 = true) (bif (decide ((0 : Int) ≤ (l1.getD i8.toNat ((0 : Int), (0 : Int), (0 : Int))).2.1)) then (bif (decide ((0 : Int) ≤ (l1.getD i8.toNat ((0 : Int), (0 : Int), (0 : Int))).2.2)) then (chk (Nat.ble ((out6 ++ (a0.extract at7.toNat ((l1.getD i8.toNat ((0 : Int), (0 : Int), (0 : Int))).1).toNat)).size + (bytesB ([(IntKind.wrap .u8 ((l1.getD i8.toNat ((0 : Int), (0 : Int), (0 : Int))).2.2))])).size) 9223372036854775807 = true) (some (.inl (a0, l1, ((out6 ++ (a0.extract at7.toNat ((l1.getD i8.toNat ((0 : Int), (0 : Int), (0 : Int))).1).toNat)) ++ (bytesB ([(IntKind.wrap .u8 ((l1.getD i8.toNat ((0 : Int), (0 : Int), (0 : Int))).2.2))]))), (IntKind.wrap .i64 (((l1.getD i8.toNat ((0 : Int), (0 : Int), (0 : Int))).1) + (1 : Int))), (IntKind.wrap .i64 (i8 + (1 : Int))))))) else (some (.inl (a0, l1, (out6 ++ (a0.extract at7.toNat ((l1.getD i8.toNat ((0 : Int), (0 : Int), (0 : Int))).1).toNat)), (IntKind.wrap .i64 (((l1.getD i8.toNat ((0 : Int), (0 : Int), (0 : Int))).1) + (1 : Int))), (IntKind.wrap .i64 (i8 + (1 : Int))))))) else (bif (decide ((0 : Int) ≤ (l1.getD i8.toNat ((0 : Int), (0 : Int), (0 : Int))).2.2)) then (chk (Nat.ble ((out6 ++ (a0.extract at7.toNat ((l1.getD i8.toNat ((0 : Int), (0 : Int), (0 : Int))).1).toNat)).size + (bytesB ([(IntKind.wrap .u8 ((l1.getD i8.toNat ((0 : Int), (0 : Int), (0 : Int))).2.2))])).size) 9223372036854775807 = true) (some (.inl (a0, l1, ((out6 ++ (a0.extract at7.toNat ((l1.getD i8.toNat ((0 : Int), (0 : Int), (0 : Int))).1).toNat)) ++ (bytesB ([(IntKind.wrap .u8 ((l1.getD i8.toNat ((0 : Int), (0 : Int), (0 : Int))).2.2))]))), (l1.getD i8.toNat ((0 : Int), (0 : Int), (0 : Int))).1, (IntKind.wrap .i64 (i8 + (1 : Int))))))) else (some (.inl (a0, l1, (out6 ++ (a0.extract at7.toNat ((l1.getD i8.toNat ((0 : Int), (0 : Int), (0 : Int))).1).toNat)), (l1.getD i8.toNat ((0 : Int), (0 : Int), (0 : Int))).1, (IntKind.wrap .i64 (i8 + (1 : Int))))))))))))) else (chk (0 ≤ at7 ∧ at7 ≤ (l1.getD i8.toNat ((0 : Int), (0 : Int), (0 : Int))).1 ∧ (l1.getD i8.toNat ((0 : Int), (0 : Int), (0 : Int))).1 ≤ (a0.size : Int)) (chk (Nat.ble (out6.size + (a0.extract at7.toNat ((l1.getD i8.toNat ((0 : Int), (0 : Int), (0 : Int))).1).toNat).size) 9223372036854775807 = true) (bif (decide ((0 : Int) ≤ (l1.getD i8.toNat ((0 : Int), (0 : Int), (0 : Int))).2.1)) then (bif (decide ((0 : Int) ≤ (l1.getD i8.toNat ((0 : Int), (0 : Int), (0 : Int))).2.2)) then (chk (Nat.ble ((out6 ++ (a0.extract at7.toNat ((l1.getD i8.toNat ((0 : Int), (0 : Int), (0 : Int))).1).toNat)).size + (bytesB ([(IntKind.wrap .u8 ((l1.getD i8.toNat ((0 : Int), (0 : Int), (0 : Int))).2.2))])).size) 9223372036854775807 = true) (some (.inl (a0, l1, ((out6 ++ (a0.extract at7.toNat ((l1.getD i8.toNat ((0 : Int), (0 : Int), (0 : Int))).1).toNat)) ++ (bytesB ([(IntKind.wrap .u8 ((l1.getD i8.toNat ((0 : Int), (0 : Int), (0 : Int))).2.2))]))), (IntKind.wrap .i64 (((l1.getD i8.toNat ((0 : Int), (0 : Int), (0 : Int))).1) + (1 : Int))), (IntKind.wrap .i64 (i8 + (1 : Int))))))) else (some (.inl (a0, l1, (out6 ++ (a0.extract at7.toNat ((l1.getD i8.toNat ((0 : Int), (0 : Int), (0 : Int))).1).toNat)), (IntKind.wrap .i64 (((l1.getD i8.toNat ((0 : Int), (0 : Int), (0 : Int))).1) + (1 : Int))), (IntKind.wrap .i64 (i8 + (1 : Int))))))) else (bif (decide ((0 : Int) ≤ (l1.getD i8.toNat ((0 : Int), (0 : Int), (0 : Int))).2.2)) then (chk (Nat.ble ((out6 ++ (a0.extract at7.toNat ((l1.getD i8.toNat ((0 : Int), (0 : Int), (0 : Int))).1).toNat)).size + (bytesB ([(IntKind.wrap .u8 ((l1.getD i8.toNat ((0 : Int), (0 : Int), (0 : Int))).2.2))])).size) 9223372036854775807 = true) (some (.inl (a0, l1, ((out6 ++ (a0.extract at7.toNat ((l1.getD i8.toNat ((0 : Int), (0 : Int), (0 : Int))).1).toNat)) ++ (bytesB ([(IntKind.wrap .u8 ((l1.getD i8.toNat ((0 : Int), (0 : Int), (0 : Int))).2.2))]))), (l1.getD i8.toNat ((0 : Int), (0 : Int), (0 : Int))).1, (IntKind.wrap .i64 (i8 + (1 : Int))))))) else (some (.inl (a0, l1, (out6 ++ (a0.extract at7.toNat ((l1.getD i8.toNat ((0 : Int), (0 : Int), (0 : Int))).1).toNat)), (l1.getD i8.toNat ((0 : Int), (0 : Int), (0 : Int))).1, (IntKind.wrap .i64 (i8 + (1 : Int)))))))))))) else (bif (decide ((0 : Int) ≤ (l1.getD i8.toNat ((0 : Int), (0 : Int), (0 : Int))).2.1)) then (bif (decide ((l1.getD i8.toNat ((0 : Int), (0 : Int), (0 : Int))).1 = (a0.size : Int))) then (some (.inr (.inl ((ByteArray.mk #[]), (1 : Int))))) else (chk (0 ≤ (l1.getD i8.toNat ((0 : Int), (0 : Int), (0 : Int))).1 ∧ (l1.getD i8.toNat ((0 : Int), (0 : Int), (0 : Int))).1 < (a0.size : Int)) (bif (!decide ((IntKind.wrap .i64 (byteI a0 ((l1.getD i8.toNat ((0 : Int), (0 : Int), (0 : Int))).1))) = (l1.getD i8.toNat ((0 : Int), (0 : Int), (0 : Int))).2.1)) then (some (.inr (.inl ((ByteArray.mk #[]), (1 : Int))))) else (chk (0 ≤ at7 ∧ at7 ≤ (l1.getD i8.toNat ((0 : Int), (0 : Int), (0 : Int))).1 ∧ (l1.getD i8.toNat ((0 : Int), (0 : Int), (0 : Int))).1 ≤ (a0.size : Int)) (chk (Nat.ble (out6.size + (a0.extract at7.toNat ((l1.getD i8.toNat ((0 : Int), (0 : Int), (0 : Int))).1).toNat).size) 9223372036854775807 = true) (bif (decide ((0 : Int) ≤ (l1.getD i8.toNat ((0 : Int), (0 : Int), (0 : Int))).2.1)) then (bif (decide ((0 : Int) ≤ (l1.getD i8.toNat ((0 : Int), (0 : Int), (0 : Int))).2.2)) then (chk (Nat.ble ((out6 ++ (a0.extract at7.toNat ((l1.getD i8.toNat ((0 : Int), (0 : Int), (0 : Int))).1).toNat)).size + (bytesB ([(IntKind.wrap .u8 ((l1.getD i8.toNat ((0 : Int), (0 : Int), (0 : Int))).2.2))])).size) 9223372036854775807 = true) (some (.inl (a0, l1, ((out6 ++ (a0.extract at7.toNat ((l1.getD i8.toNat ((0 : Int), (0 : Int), (0 : Int))).1).toNat)) ++ (bytesB ([(IntKind.wrap .u8 ((l1.getD i8.toNat ((0 : Int), (0 : Int), (0 : Int))).2.2))]))), (IntKind.wrap .i64 (((l1.getD i8.toNat ((0 : Int), (0 : Int), (0 : Int))).1) + (1 : Int))), (IntKind.wrap .i64 (i8 + (1 : Int))))))) else (some (.inl (a0, l1, (out6 ++ (a0.extract at7.toNat ((l1.getD i8.toNat ((0 : Int), (0 : Int), (0 : Int))).1).toNat)), (IntKind.wrap .i64 (((l1.getD i8.toNat ((0 : Int), (0 : Int), (0 : Int))).1) + (1 : Int))), (IntKind.wrap .i64 (i8 + (1 : Int))))))) else (bif (decide ((0 : Int) ≤ (l1.getD i8.toNat ((0 : Int), (0 : Int), (0 : Int))).2.2)) then (chk (Nat.ble ((out6 ++ (a0.extract at7.toNat ((l1.getD i8.toNat ((0 : Int), (0 : Int), (0 : Int))).1).toNat)).size + (bytesB ([(IntKind.wrap .u8 ((l1.getD i8.toNat ((0 : Int), (0 : Int), (0 : Int))).2.2))])).size) 9223372036854775807 = true) (some (.inl (a0, l1, ((out6 ++ (a0.extract at7.toNat ((l1.getD i8.toNat ((0 : Int), (0 : Int), (0 : Int))).1).toNat)) ++ (bytesB ([(IntKind.wrap .u8 ((l1.getD i8.toNat ((0 : Int), (0 : Int), (0 : Int))).2.2))]))), (l1.getD i8.toNat ((0 : Int), (0 : Int), (0 : Int))).1, (IntKind.wrap .i64 (i8 + (1 : Int))))))) else (some (.inl (a0, l1, (out6 ++ (a0.extract at7.toNat ((l1.getD i8.toNat ((0 : Int), (0 : Int), (0 : Int))).1).toNat)), (l1.getD i8.toNat ((0 : Int), (0 : Int), (0 : Int))).1, (IntKind.wrap .i64 (i8 + (1 : Int))))))))))))) else (chk (0 ≤ at7 ∧ at7 ≤ (l1.getD i8.toNat ((0 : Int), (0 : Int), (0 : Int))).1 ∧ (l1.getD i8.toNat ((0 : Int), (0 : Int), (0 : Int))).1 ≤ (a0.size : Int)) (chk (Nat.ble (out6.size + (a0.extract at7.toNat ((l1.getD i8.toNat ((0 : Int), (0 : Int), (0 : Int))).1).toNat).size) 9223372036854775807 = true) (bif (decide ((0 : Int) ≤ (l1.getD i8.toNat ((0 : Int), (0 : Int), (0 : Int))).2.1)) then (bif (decide ((0 : Int) ≤ (l1.getD i8.toNat ((0 : Int), (0 : Int), (0 : Int))).2.2)) then (chk (Nat.ble ((out6 ++ (a0.extract at7.toNat ((l1.getD i8.toNat ((0 : Int), (0 : Int), (0 : Int))).1).toNat)).size + (bytesB ([(IntKind.wrap .u8 ((l1.getD i8.toNat ((0 : Int), (0 : Int), (0 : Int))).2.2))])).size) 9223372036854775807 = true) (some (.inl (a0, l1, ((out6 ++ (a0.extract at7.toNat ((l1.getD i8.toNat ((0 : Int), (0 : Int), (0 : Int))).1).toNat)) ++ (bytesB ([(IntKind.wrap .u8 ((l1.getD i8.toNat ((0 : Int), (0 : Int), (0 : Int))).2.2))]))), (IntKind.wrap .i64 (((l1.getD i8.toNat ((0 : Int), (0 : Int), (0 : Int))).1) + (1 : Int))), (IntKind.wrap .i64 (i8 + (1 : Int))))))) else (some (.inl (a0, l1, (out6 ++ (a0.extract at7.toNat ((l1.getD i8.toNat ((0 : Int), (0 : Int), (0 : Int))).1).toNat)), (IntKind.wrap .i64 (((l1.getD i8.toNat ((0 : Int), (0 : Int), (0 : Int))).1) + (1 : Int))), (IntKind.wrap .i64 (i8 + (1 : Int))))))) else (bif (decide ((0 : Int) ≤ (l1.getD i8.toNat ((0 : Int), (0 : Int), (0 : Int))).2.2)) then (chk (Nat.ble ((out6 ++ (a0.extract at7.toNat ((l1.getD i8.toNat ((0 : Int), (0 : Int), (0 : Int))).1).toNat)).size + (bytesB ([(IntKind.wrap .u8 ((l1.getD i8.toNat ((0 : Int), (0 : Int), (0 : Int))).2.2))])).size) 9223372036854775807 = true) (some (.inl (a0, l1, ((out6 ++ (a0.extract at7.toNat ((l1.getD i8.toNat ((0 : Int), (0 : Int), (0 : Int))).1).toNat)) ++ (bytesB ([(IntKind.wrap .u8 ((l1.getD i8.toNat ((0 : Int), (0 : Int), (0 : Int))).2.2))]))), (l1.getD i8.toNat ((0 : Int), (0 : Int), (0 : Int))).1, (IntKind.wrap .i64 (i8 + (1 : Int))))))) else (some (.inl (a0, l1, (out6 ++ (a0.extract at7.toNat ((l1.getD i8.toNat ((0 : Int), (0 : Int), (0 : Int))).1).toNat)), (l1.getD i8.toNat ((0 : Int), (0 : Int), (0 : Int))).1, (IntKind.wrap .i64 (i8 + (1 : Int)))))))))))))))))) else (some (.inr (.inr (a0, out6, at7))))
theorem q55_L3_e (lo : Lo) : ∀ x : ByteArray × (List (Int × Int × Int)) × ByteArray × Int × Int, stepL (⟨pf, fs55 lo, [], 0⟩ : Tabs) [] q55_L3_g q55_L3_o q55_L3_b x = q55_L3_s lo x := fun x => by kernel_rfl
def q55_L3 (lo : Lo) : ByteArray × (List (Int × Int × Int)) × ByteArray × Int × Int → Option ((ByteArray × Int) ⊕ (ByteArray × ByteArray × Int)) := lo.run (q55_L3_s lo)
def q55_L3_p (lo : Lo) : LpE := ⟨3, [], q55_L3_g, q55_L3_o, q55_L3 lo⟩
theorem q55_L3_k {lo : Lo} (hlo : LoOK lo) (C : Ctx) (hT : TOK (⟨pf, fs55 lo, [], 0⟩ : Tabs) C) : LpSound (fun _ => False) [] 0 C (.loop q55_L3_b.er) (q55_L3_p lo) :=
  loop_sound (T := (⟨pf, fs55 lo, [], 0⟩ : Tabs)) hT frNo (show LsOK (fun _ => False) [] C (⟨pf, fs55 lo, [], 0⟩ : Tabs) q55_L3_b from ⟨⟨trivial, ⟨trivial, trivial⟩⟩, ⟨⟨trivial, ⟨⟨trivial, ⟨⟨trivial, trivial⟩, trivial⟩⟩, ⟨⟨trivial, ⟨⟨trivial, trivial⟩, trivial⟩⟩, ⟨trivial, ⟨trivial, ⟨⟨trivial, ⟨trivial, trivial⟩⟩, ⟨trivial, ⟨trivial, trivial⟩⟩⟩⟩⟩⟩⟩⟩, trivial⟩⟩) (fun x y h => loopO_congr (q55_L3_e lo) (hlo _ _ _ h))
def q55 (lo : Lo) (a0 : ByteArray) (l1 : List (Int × Int × Int)) : Option (ByteArray × Int) :=
  Option.bind (q54 lo a0) fun y211 => bif y211 then (some ((ByteArray.mk #[]), (3 : Int))) else (bif (decide ((400 : Int) < (l1.length : Int))) then (some ((ByteArray.mk #[]), (3 : Int))) else (Option.bind (q55_L3 lo (a0, l1, (ByteArray.mk #[]), (0 : Int), (0 : Int))) fun y212 => alt2 y212 (fun y213 => some (y213.1, y213.2)) (fun y214 => chk (0 ≤ y214.2.2 ∧ y214.2.2 ≤ (y214.1.size : Int) ∧ (y214.1.size : Int) ≤ (y214.1.size : Int)) (chk (Nat.ble (y214.2.1.size + (y214.1.extract y214.2.2.toNat (y214.1.size : Int).toNat).size) 9223372036854775807 = true) (some ((y214.2.1 ++ (y214.1.extract y214.2.2.toNat (y214.1.size : Int).toNat)), (0 : Int)))))))
def q55_c : VCode :=
 (.seq (.reg [o 4 (.mv (ks (⟨#[]⟩))), o 5 (.mv (k 0))])
 (.seq (.seq (.reg [o 10 (.mv (t 0)), o 11 (.call 593 [(t 10)]), o 12 (.mv (t 11)), og 13 12 false (.mv (t 1)), og 14 12 false (.len (t 13)), og 15 12 false (.bin .gtr (t 14) (k 400)), o 16 (.pick (t 12) (kb true) (t 15))])
 (.cond (t 16) (.seq (.reg [o 4 (.mv (ks (⟨#[]⟩))), o 5 (.mv (k 3))])
 (.fz [4, 5] .ret))
 .skip))
 (.seq (.reg [o 6 (.mv (ks (⟨#[]⟩))), o 7 (.mv (k 0))])
 (.seq (.seq (.reg [o 8 (.mv (k 0))])
 (.blk 0 (.loop 3 q55_L3_b)))
 (.seq (.reg [o 107 (.mv (t 6)), o 108 (.mv (t 0)), o 109 (.mv (t 7)), o 110 (.slcS (t 108) (some (t 109)) none), o 111 (.bin .add (t 107) (t 110)), o 4 (.mv (t 111)), o 5 (.mv (k 0))])
 (.fz [4, 5] .ret))))))
def q55_F : VFn := ⟨true, 112, [.t 4, .t 5], q55_c⟩
def q55_f (lo : Lo) : FnE := ⟨574, true, ⟨[0, 1], [.s, .l (cs [I, I, I])], [], (cs [.s, .l (cs [I, I, I])])⟩, .tp [.s, .i .i64], [], (cs [.s, I]), (fun x => q55 lo x.1 x.2 : ByteArray × (List (Int × Int × Int)) → Option (ByteArray × Int))⟩
theorem q55_e (lo : Lo) : ∀ x : ByteArray × (List (Int × Int × Int)), evP (⟨pf, fs55 lo, [q55_L3_p lo], 0⟩ : Tabs) q55_F ⟨[0, 1], [.s, .l (cs [I, I, I])], [], (cs [.s, .l (cs [I, I, I])])⟩ (.tp [.s, .i .i64]) (cs [.s, I]) x = q55 lo x.1 x.2 := fun x => by kernel_rfl
theorem q55_S {P : Program} {fm : FM} {lo : Lo} (hlo : LoOK lo) (hS : Sound P fm ⟨pf, fs55 lo, [], 0⟩) (hm : P.follows .mixedOrders = true) (htie : ∀ f, fm f = 574 → fnTr P fm pf f = some (q55_F.slots, q55_F.res, q55_F.code.er)) : Sound P fm ⟨pf, q55_f lo :: fs55 lo, [], 0⟩ :=
  fn_sound hS hm [q55_L3_p lo] (q55_f lo) rfl q55_F htie (by decide) rfl (Nat.le_of_ble_eq_true (by kernel_rfl)) (fun C hT => show LsOK (fun _ => False) [] C (⟨pf, fs55 lo, [q55_L3_p lo], 0⟩ : Tabs) q55_c from ⟨trivial, ⟨⟨trivial, ⟨⟨trivial, trivial⟩, trivial⟩⟩, ⟨trivial, ⟨⟨trivial, (lsGet (by kernel_rfl) (q55_L3_k hlo C (tok_ls hT)))⟩, ⟨trivial, trivial⟩⟩⟩⟩⟩) (fun x y h => (q55_e lo x).trans h)
def fs56 (lo : Lo) : List FnE := q55_f lo :: fs55 lo
def q56 (lo : Lo) (a0 : ByteArray) (l1 : List (Int × Int × Int)) : Option Bool :=
  Option.bind (q51 lo) fun y204 => bif (!y204) then (Option.bind (q51 lo) fun y205 => some y205) else (bif (decide ((30 : Int) < (a0.size : Int))) then (Option.bind (q53 lo a0) fun y206 => bif (!y206) then (Option.bind (q51 lo) fun y207 => some y207) else (bif (decide ((300 : Int) < (a0.size : Int))) then (Option.bind (q51 lo) fun y208 => some y208) else (bif (decide ((500 : Int) < (l1.length : Int))) then (Option.bind (q51 lo) fun y209 => some y209) else (Option.bind (q40 lo a0 l1) fun y210 => Option.bind (q55 lo a0 l1) fun y215 => bif (decide (y210.1 = y215.1)) then (some (decide (y210.2 = y215.2))) else (some false))))) else (bif (decide ((300 : Int) < (a0.size : Int))) then (Option.bind (q51 lo) fun y216 => some y216) else (bif (decide ((500 : Int) < (l1.length : Int))) then (Option.bind (q51 lo) fun y217 => some y217) else (Option.bind (q40 lo a0 l1) fun y218 => Option.bind (q55 lo a0 l1) fun y219 => bif (decide (y218.1 = y219.1)) then (some (decide (y218.2 = y219.2))) else (some false)))))
def q56_c : VCode :=
 (.seq (.reg [o 4 (.mv (kb false))])
 (.seq (.seq (.reg [o 9 (.call 570 []), o 10 (.not (t 9)), o 11 (.mv (t 10)), og 12 11 false (.mv (t 0)), og 13 11 false (.lenS (t 12)), og 14 11 false (.bin .gtr (t 13) (k 30)), og 15 11 false (.mv (t 14)), og 16 15 true (.mv (t 0)), og 17 15 true (.call 572 [(t 16)]), og 18 15 true (.not (t 17)), og 19 11 false (.pick (t 15) (t 18) (kb false)), o 20 (.pick (t 11) (kb true) (t 19)), o 21 (.mv (t 20)), og 22 21 false (.mv (t 0)), og 23 21 false (.lenS (t 22)), og 24 21 false (.bin .gtr (t 23) (k 300)), o 25 (.pick (t 21) (kb true) (t 24)), o 26 (.mv (t 25)), og 27 26 false (.mv (t 1)), og 28 26 false (.len (t 27)), og 29 26 false (.bin .gtr (t 28) (k 500)), o 30 (.pick (t 26) (kb true) (t 29))])
 (.cond (t 30) (.seq (.reg [o 31 (.call 570 []), o 4 (.mv (t 31))])
 (.fz [4] .ret))
 .skip))
 (.seq (.reg [o 33 (.mv (t 0)), o 34 (.mv (t 1)), o 35 (.call 573 [(t 33), (t 34)]), o 32 (.mv (t 35)), o 36 (.ext (t 32) 0), o 37 (.ext (t 32) 1), o 5 (.mv (t 36)), o 6 (.mv (t 37))])
 (.seq (.reg [o 39 (.mv (t 0)), o 40 (.mv (t 1)), o 41 (.call 574 [(t 39), (t 40)]), o 38 (.mv (t 41)), o 42 (.ext (t 38) 0), o 43 (.ext (t 38) 1), o 7 (.mv (t 42)), o 8 (.mv (t 43))])
 (.seq (.reg [o 44 (.mv (t 5)), o 45 (.mv (t 7)), o 46 (.bin .eql (t 44) (t 45)), o 47 (.mv (t 46)), og 48 47 true (.mv (t 6)), og 49 47 true (.mv (t 8)), og 50 47 true (.bin .eql (t 48) (t 49)), o 51 (.pick (t 47) (t 50) (kb false)), o 4 (.mv (t 51))])
 (.fz [4] .ret))))))
def q56_F : VFn := ⟨true, 52, [.t 4], q56_c⟩
def q56_f (lo : Lo) : FnE := ⟨563, true, ⟨[0, 1], [.s, .l (cs [I, I, I])], [], (cs [.s, .l (cs [I, I, I])])⟩, .b, [], (cs [.b]), (fun x => q56 lo x.1 x.2 : ByteArray × (List (Int × Int × Int)) → Option Bool)⟩
theorem q56_e (lo : Lo) : ∀ x : ByteArray × (List (Int × Int × Int)), evP (⟨pf, fs56 lo, [], 0⟩ : Tabs) q56_F ⟨[0, 1], [.s, .l (cs [I, I, I])], [], (cs [.s, .l (cs [I, I, I])])⟩ (.b) (cs [.b]) x = q56 lo x.1 x.2 := fun x => by kernel_rfl
theorem q56_S {P : Program} {fm : FM} {lo : Lo} (hlo : LoOK lo) (hS : Sound P fm ⟨pf, fs56 lo, [], 0⟩) (hm : P.follows .mixedOrders = true) (htie : ∀ f, fm f = 563 → fnTr P fm pf f = some (q56_F.slots, q56_F.res, q56_F.code.er)) : Sound P fm ⟨pf, q56_f lo :: fs56 lo, [], 0⟩ :=
  fn_sound hS hm [] (q56_f lo) rfl q56_F htie (by decide) rfl (Nat.le_of_ble_eq_true (by kernel_rfl)) (fun C hT => show LsOK (fun _ => False) [] C (⟨pf, fs56 lo, [], 0⟩ : Tabs) q56_c from ⟨trivial, ⟨⟨trivial, ⟨⟨trivial, trivial⟩, trivial⟩⟩, ⟨trivial, ⟨trivial, ⟨trivial, trivial⟩⟩⟩⟩⟩) (fun x y h => (q56_e lo x).trans h)
def fs57 (lo : Lo) : List FnE := q56_f lo :: fs56 lo
def q57_L16_b : VCode :=
 (.seq (.seq (.reg [o 20 (.mv (t 7)), o 21 (.mv (t 1)), o 22 (.bin .lss (t 20) (t 21))])
 (.cond (t 22) .skip
 (.exit 0)))
 (.seq (.blk 1 (.reg [o 25 (.mv (t 6)), o 26 (.bin .add (ks (⟨#[1]⟩)) (t 25)), o 27 (.bin .add (t 26) (ks (⟨#[1]⟩))), o 6 (.mv (t 27))]))
 (.reg [o 23 (.mv (t 7)), o 24 (.bin .add (t 23) (k 1)), o 7 (.mv (t 24))])))
def q57_L16_g : Sg := ⟨[0, 1, 6, 7], [.s, .i .i64, .s, .i .i64], [], (cs [.s, I, .s, I])⟩
def q57_L16_o : List Out1 := [⟨.exit 0, ⟨[0, 1, 6], [.s, .i .i64, .s], [], (cs [.s, I, .s])⟩⟩]
def q57_L16_s (lo : Lo) : ByteArray × Int × ByteArray × Int → Option ((ByteArray × Int × ByteArray × Int) ⊕ ((ByteArray × Int × ByteArray))) := fun x => match x with
  | (s0, q1, wide6, i7) => bif (decide (i7 < q1)) then (chk (Nat.ble ((ByteArray.mk #[1]).size + wide6.size) 9223372036854775807 = true) (chk (Nat.ble (((ByteArray.mk #[1]) ++ wide6).size + (ByteArray.mk #[1]).size) 9223372036854775807 = true) (some (.inl (s0, q1, (((ByteArray.mk #[1]) ++ wide6) ++ (ByteArray.mk #[1])), (IntKind.wrap .i64 (i7 + (1 : Int)))))))) else (some (.inr (s0, q1, wide6)))
theorem q57_L16_e (lo : Lo) : ∀ x : ByteArray × Int × ByteArray × Int, stepL (⟨pf, fs57 lo, [], 0⟩ : Tabs) [] q57_L16_g q57_L16_o q57_L16_b x = q57_L16_s lo x := fun x => by kernel_rfl
def q57_L16 (lo : Lo) : ByteArray × Int × ByteArray × Int → Option ((ByteArray × Int × ByteArray)) := lo.run (q57_L16_s lo)
def q57_L16_p (lo : Lo) : LpE := ⟨16, [], q57_L16_g, q57_L16_o, q57_L16 lo⟩
theorem q57_L16_k {lo : Lo} (hlo : LoOK lo) (C : Ctx) (hT : TOK (⟨pf, fs57 lo, [], 0⟩ : Tabs) C) : LpSound (fun _ => False) [] 0 C (.loop q57_L16_b.er) (q57_L16_p lo) :=
  loop_sound (T := (⟨pf, fs57 lo, [], 0⟩ : Tabs)) hT frNo (show LsOK (fun _ => False) [] C (⟨pf, fs57 lo, [], 0⟩ : Tabs) q57_L16_b from ⟨⟨trivial, ⟨trivial, trivial⟩⟩, ⟨trivial, trivial⟩⟩) (fun x y h => loopO_congr (q57_L16_e lo) (hlo _ _ _ h))
def q57_L5_b : VCode :=
 (.seq (.seq (.reg [o 57 (.mv (t 10)), o 58 (.bin .gtr (t 57) (k 0)), o 59 (.mv (t 58)), og 60 59 true (.mv (t 8)), og 61 59 true (.mv (t 10)), og 62 59 true (.iad 1 (t 60) (t 61)), og 63 59 true (.load false 1 (t 62)), og 64 59 true (.mv (t 8)), og 65 59 true (.mv (t 10)), og 66 59 true (.bin .sub (t 65) (k 1)), og 67 59 true (.iad 1 (t 64) (t 66)), og 68 59 true (.load false 1 (t 67)), og 69 59 true (.bin .lss (t 63) (t 68)), o 70 (.pick (t 59) (t 69) (kb false))])
 (.cond (t 70) .skip
 (.exit 4)))
 (.seq (.blk 5 (.reg [o 73 (.mv (t 8)), o 74 (.mv (t 10)), o 75 (.mv (t 8)), o 76 (.mv (t 10)), o 77 (.bin .sub (t 76) (k 1)), o 78 (.mv (t 8)), o 79 (.mv (t 10)), o 80 (.bin .sub (t 79) (k 1)), o 81 (.iad 1 (t 78) (t 80)), o 82 (.load false 1 (t 81)), o 83 (.mv (t 8)), o 84 (.mv (t 10)), o 85 (.iad 1 (t 83) (t 84)), o 86 (.load false 1 (t 85)), o 87 (.iad 1 (t 73) (t 74)), on (.store 1 (t 87) (t 82)), o 88 (.iad 1 (t 75) (t 77)), on (.store 1 (t 88) (t 86))]))
 (.reg [o 71 (.mv (t 10)), o 72 (.bin .sub (t 71) (k 1)), o 10 (.mv (t 72))])))
def q57_L5_g : Sg := ⟨[0, 1, 6, 8, 9, 10], [.s, .i .i64, .s, .ref 0, .i .i64, .i .i64], [.sq (cs [.s])], (cs [.s, I, .s, I, I, .l (cs [.s])])⟩
def q57_L5_o : List Out1 := [⟨.exit 4, ⟨[0, 1, 6, 8, 9], [.s, .i .i64, .s, .ref 0, .i .i64], [.sq (cs [.s])], (cs [.s, I, .s, I, .l (cs [.s])])⟩⟩]
def q57_L5_s (lo : Lo) : ByteArray × Int × ByteArray × Int × Int × (List ByteArray) → Option ((ByteArray × Int × ByteArray × Int × Int × (List ByteArray)) ⊕ ((ByteArray × Int × ByteArray × Int × (List ByteArray)))) := fun x => match x with
  | (s0, q1, wide6, i9, k10, out8) => bif (decide ((0 : Int) < k10)) then (chk (0 ≤ k10 ∧ k10 < (out8.length : Int)) (chk (0 ≤ (IntKind.wrap .i64 (k10 - (1 : Int))) ∧ (IntKind.wrap .i64 (k10 - (1 : Int))) < (out8.length : Int)) (bif (Op.bytesLess (out8.getD k10.toNat (ByteArray.mk #[])).toList (out8.getD ((IntKind.wrap .i64 (k10 - (1 : Int))).toNat) (ByteArray.mk #[])).toList) then (chk (0 ≤ (IntKind.wrap .i64 (k10 - (1 : Int))) ∧ (IntKind.wrap .i64 (k10 - (1 : Int))) < (out8.length : Int)) (chk (0 ≤ k10 ∧ k10 < (out8.length : Int)) (chk (0 ≤ k10 ∧ k10 < (out8.length : Int)) (chk (0 ≤ (IntKind.wrap .i64 (k10 - (1 : Int))) ∧ (IntKind.wrap .i64 (k10 - (1 : Int))) < ((out8.set k10.toNat (out8.getD ((IntKind.wrap .i64 (k10 - (1 : Int))).toNat) (ByteArray.mk #[]))).length : Int)) (some (.inl (s0, q1, wide6, i9, (IntKind.wrap .i64 (k10 - (1 : Int))), ((out8.set k10.toNat (out8.getD ((IntKind.wrap .i64 (k10 - (1 : Int))).toNat) (ByteArray.mk #[]))).set ((IntKind.wrap .i64 (k10 - (1 : Int))).toNat) (out8.getD k10.toNat (ByteArray.mk #[])))))))))) else (some (.inr (s0, q1, wide6, i9, out8)))))) else (some (.inr (s0, q1, wide6, i9, out8)))
theorem q57_L5_e (lo : Lo) : ∀ x : ByteArray × Int × ByteArray × Int × Int × (List ByteArray), stepL (⟨pf, fs57 lo, [q57_L16_p lo], 0⟩ : Tabs) [] q57_L5_g q57_L5_o q57_L5_b x = q57_L5_s lo x := fun x => by kernel_rfl
def q57_L5 (lo : Lo) : ByteArray × Int × ByteArray × Int × Int × (List ByteArray) → Option ((ByteArray × Int × ByteArray × Int × (List ByteArray))) := lo.run (q57_L5_s lo)
def q57_L5_p (lo : Lo) : LpE := ⟨5, [], q57_L5_g, q57_L5_o, q57_L5 lo⟩
theorem q57_L5_k {lo : Lo} (hlo : LoOK lo) (C : Ctx) (hT : TOK (⟨pf, fs57 lo, [q57_L16_p lo], 0⟩ : Tabs) C) : LpSound (fun _ => False) [] 0 C (.loop q57_L5_b.er) (q57_L5_p lo) :=
  loop_sound (T := (⟨pf, fs57 lo, [q57_L16_p lo], 0⟩ : Tabs)) hT frNo (show LsOK (fun _ => False) [] C (⟨pf, fs57 lo, [q57_L16_p lo], 0⟩ : Tabs) q57_L5_b from ⟨⟨trivial, ⟨trivial, trivial⟩⟩, ⟨trivial, trivial⟩⟩) (fun x y h => loopO_congr (q57_L5_e lo) (hlo _ _ _ h))
def q57_L3_b : VCode :=
 (.seq (.seq (.reg [o 28 (.mv (t 9)), o 29 (.mv (t 1)), o 30 (.bin .add (t 28) (t 29)), o 31 (.mv (t 6)), o 32 (.lenS (t 31)), o 33 (.bin .leq (t 30) (t 32)), o 34 (.mv (t 33)), og 35 34 true (.mv (t 9)), og 36 34 true (.mv (t 0)), og 37 34 true (.lenS (t 36)), og 38 34 true (.mv (t 1)), og 39 34 true (.bin .add (t 37) (t 38)), og 40 34 true (.bin .sub (t 39) (k 1)), og 41 34 true (.bin .lss (t 35) (t 40)), o 42 (.pick (t 34) (t 41) (kb false))])
 (.cond (t 42) .skip
 (.exit 2)))
 (.seq (.blk 3 (.seq (.reg [o 45 (.mv (t 8)), o 46 (.mv (t 6)), o 47 (.mv (t 9)), o 48 (.mv (t 9)), o 49 (.mv (t 1)), o 50 (.bin .add (t 48) (t 49)), o 51 (.slcS (t 46) (some (t 47)) (some (t 50))), o 52 (.bsl (cs [.s]) 1 [(0, (t 51))]), o 53 (.app (cs [.s]) 0 (t 45) (t 52)), o 8 (.mv (t 53))])
 (.seq (.reg [o 54 (.mv (t 8)), o 55 (.len (t 54)), o 56 (.bin .sub (t 55) (k 1)), o 10 (.mv (t 56))])
 (.blk 4 (.loop 5 q57_L5_b)))))
 (.reg [o 43 (.mv (t 9)), o 44 (.bin .add (t 43) (k 1)), o 9 (.mv (t 44))])))
def q57_L3_g : Sg := ⟨[0, 1, 6, 8, 9], [.s, .i .i64, .s, .ref 0, .i .i64], [.sq (cs [.s])], (cs [.s, I, .s, I, .l (cs [.s])])⟩
def q57_L3_o : List Out1 := [⟨.exit 2, ⟨[8], [.ref 0], [.sq (cs [.s])], (cs [.l (cs [.s])])⟩⟩]
def q57_L3_s (lo : Lo) : ByteArray × Int × ByteArray × Int × (List ByteArray) → Option ((ByteArray × Int × ByteArray × Int × (List ByteArray)) ⊕ (((List ByteArray)))) := fun x => match x with
  | (s0, q1, wide6, i9, out8) => bif (decide ((IntKind.wrap .i64 (i9 + q1)) ≤ (wide6.size : Int))) then (bif (decide (i9 < (IntKind.wrap .i64 ((IntKind.wrap .i64 ((s0.size : Int) + q1)) - (1 : Int))))) then (chk (0 ≤ i9 ∧ i9 ≤ (IntKind.wrap .i64 (i9 + q1)) ∧ (IntKind.wrap .i64 (i9 + q1)) ≤ (wide6.size : Int)) (chk (out8.length + ([(wide6.extract i9.toNat (IntKind.wrap .i64 (i9 + q1)).toNat)]).length ≤ maxEl) (Option.bind (q57_L5 lo (s0, q1, wide6, i9, (IntKind.wrap .i64 (((out8 ++ ([(wide6.extract i9.toNat (IntKind.wrap .i64 (i9 + q1)).toNat)])).length : Int) - (1 : Int))), (out8 ++ ([(wide6.extract i9.toNat (IntKind.wrap .i64 (i9 + q1)).toNat)])))) fun y231 => some (.inl (y231.1, y231.2.1, y231.2.2.1, (IntKind.wrap .i64 (y231.2.2.2.1 + (1 : Int))), y231.2.2.2.2))))) else (some (.inr out8))) else (some (.inr out8))
theorem q57_L3_e (lo : Lo) : ∀ x : ByteArray × Int × ByteArray × Int × (List ByteArray), stepL (⟨pf, fs57 lo, [q57_L5_p lo, q57_L16_p lo], 0⟩ : Tabs) [(8, none, false)] q57_L3_g q57_L3_o q57_L3_b x = q57_L3_s lo x := fun x => by kernel_rfl
def q57_L3 (lo : Lo) : ByteArray × Int × ByteArray × Int × (List ByteArray) → Option (((List ByteArray))) := lo.run (q57_L3_s lo)
def q57_L3_p (lo : Lo) : LpE := ⟨3, [(8, none, false)], q57_L3_g, q57_L3_o, q57_L3 lo⟩
theorem q57_L3_k {lo : Lo} (hlo : LoOK lo) (C : Ctx) (hT : TOK (⟨pf, fs57 lo, [q57_L5_p lo, q57_L16_p lo], 0⟩ : Tabs) C) : LpSound (fun _ => False) [] 0 C (.loop q57_L3_b.er) (q57_L3_p lo) :=
  loop_sound (T := (⟨pf, fs57 lo, [q57_L5_p lo, q57_L16_p lo], 0⟩ : Tabs)) hT frNo (show LsOK (fun _ => False) [] C (⟨pf, fs57 lo, [q57_L5_p lo, q57_L16_p lo], 0⟩ : Tabs) q57_L3_b from ⟨⟨trivial, ⟨trivial, trivial⟩⟩, ⟨⟨trivial, ⟨trivial, (lsGet (by kernel_rfl) (q57_L5_k hlo C (tok_ls hT)))⟩⟩, trivial⟩⟩) (fun x y h => loopO_congr (q57_L3_e lo) (hlo _ _ _ h))
def q57 (lo : Lo) (s0 : ByteArray) (q1 : Int) : Option ((List ByteArray) × Int) :=
  Option.bind (q54 lo s0) fun y229 => bif y229 then (some ([], (3 : Int))) else (bif (decide (q1 < (1 : Int))) then (some ([], (7 : Int))) else (bif (decide ((4 : Int) < q1)) then (some ([], (7 : Int))) else (Option.bind (q57_L16 lo (s0, q1, s0, (1 : Int))) fun y230 => Option.bind (q57_L3 lo (y230.1, y230.2.1, y230.2.2, (0 : Int), [])) fun y232 => some (y232, (0 : Int)))))
def q57_c : VCode :=
 (.seq (.reg [o 4 (.mv (ke (cs [.s]))), o 5 (.mv (k 0))])
 (.seq (.seq (.reg [o 11 (.mv (t 0)), o 12 (.call 593 [(t 11)])])
 (.cond (t 12) (.seq (.reg [o 4 (.mv (ke (cs [.s]))), o 5 (.mv (k 3))])
 (.fz [4, 5] .ret))
 .skip))
 (.seq (.seq (.reg [o 13 (.mv (t 1)), o 14 (.bin .lss (t 13) (k 1)), o 15 (.mv (t 14)), og 16 15 false (.mv (t 1)), og 17 15 false (.bin .gtr (t 16) (k 4)), o 18 (.pick (t 15) (kb true) (t 17))])
 (.cond (t 18) (.seq (.reg [o 4 (.mv (ke (cs [.s]))), o 5 (.mv (k 7))])
 (.fz [4, 5] .ret))
 .skip))
 (.seq (.reg [o 19 (.mv (t 0)), o 6 (.mv (t 19))])
 (.seq (.seq (.reg [o 7 (.mv (k 1))])
 (.blk 0 (.loop 16 q57_L16_b)))
 (.seq (.reg [o 8 (.mv (ke (cs [.s])))])
 (.seq (.seq (.reg [o 9 (.mv (k 0))])
 (.blk 2 (.loop 3 q57_L3_b)))
 (.seq (.reg [o 89 (.mv (t 8)), o 4 (.mv (t 89)), o 5 (.mv (k 0))])
 (.fz [4, 5] .ret)))))))))
def q57_F : VFn := ⟨true, 90, [.t 4, .t 5], q57_c⟩
def q57_f (lo : Lo) : FnE := ⟨576, true, ⟨[0, 1], [.s, .i .i64], [], (cs [.s, I])⟩, .tp [.l (cs [.s]), .i .i64], [], (cs [.l (cs [.s]), I]), (fun x => q57 lo x.1 x.2 : ByteArray × Int → Option ((List ByteArray) × Int))⟩
theorem q57_e (lo : Lo) : ∀ x : ByteArray × Int, evP (⟨pf, fs57 lo, [q57_L3_p lo, q57_L5_p lo, q57_L16_p lo], 0⟩ : Tabs) q57_F ⟨[0, 1], [.s, .i .i64], [], (cs [.s, I])⟩ (.tp [.l (cs [.s]), .i .i64]) (cs [.l (cs [.s]), I]) x = q57 lo x.1 x.2 := fun x => by kernel_rfl
theorem q57_S {P : Program} {fm : FM} {lo : Lo} (hlo : LoOK lo) (hS : Sound P fm ⟨pf, fs57 lo, [], 0⟩) (hm : P.follows .mixedOrders = true) (htie : ∀ f, fm f = 576 → fnTr P fm pf f = some (q57_F.slots, q57_F.res, q57_F.code.er)) : Sound P fm ⟨pf, q57_f lo :: fs57 lo, [], 0⟩ :=
  fn_sound hS hm [q57_L3_p lo, q57_L5_p lo, q57_L16_p lo] (q57_f lo) rfl q57_F htie (by decide) rfl (Nat.le_of_ble_eq_true (by kernel_rfl)) (fun C hT => show LsOK (fun _ => False) [] C (⟨pf, fs57 lo, [q57_L3_p lo, q57_L5_p lo, q57_L16_p lo], 0⟩ : Tabs) q57_c from ⟨trivial, ⟨⟨trivial, ⟨⟨trivial, trivial⟩, trivial⟩⟩, ⟨⟨trivial, ⟨⟨trivial, trivial⟩, trivial⟩⟩, ⟨trivial, ⟨⟨trivial, (lsGet (by kernel_rfl) (q57_L16_k hlo C (tok_ls hT)))⟩, ⟨trivial, ⟨⟨trivial, (lsGet (by kernel_rfl) (q57_L3_k hlo C (tok_ls hT)))⟩, ⟨trivial, trivial⟩⟩⟩⟩⟩⟩⟩⟩) (fun x y h => (q57_e lo x).trans h)
def fs58 (lo : Lo) : List FnE := q57_f lo :: fs57 lo
def q58_L8_b : VCode :=
 (.seq (.seq (.reg [o 14 (.mv (t 6)), o 15 (.mv (t 1)), o 16 (.len (t 15)), o 17 (.bin .lss (t 14) (t 16)), o 18 (.mv (t 17)), og 19 18 true (.mv (t 1)), og 20 18 true (.mv (t 6)), og 21 18 true (.iad 1 (t 19) (t 20)), og 22 18 true (.load false 1 (t 21)), og 23 18 true (.mv (t 0)), og 24 18 true (.mv (t 7)), og 25 18 true (.iad 1 (t 23) (t 24)), og 26 18 true (.load false 1 (t 25)), og 27 18 true (.bin .lss (t 22) (t 26)), o 28 (.pick (t 18) (t 27) (kb false))])
 (.cond (t 28) .skip
 (.exit 2)))
 (.blk 3 (.reg [o 29 (.mv (t 6)), o 30 (.bin .add (t 29) (k 1)), o 6 (.mv (t 30))])))
def q58_L8_g : Sg := ⟨[0, 1, 5, 6, 7], [.l (cs [.s]), .l (cs [.s]), .i .i64, .i .i64, .i .i64], [], (cs [.l (cs [.s]), .l (cs [.s]), I, I, I])⟩
def q58_L8_o : List Out1 := [⟨.exit 2, ⟨[0, 1, 5, 6, 7], [.l (cs [.s]), .l (cs [.s]), .i .i64, .i .i64, .i .i64], [], (cs [.l (cs [.s]), .l (cs [.s]), I, I, I])⟩⟩]
def q58_L8_s (lo : Lo) : (List ByteArray) × (List ByteArray) × Int × Int × Int → Option (((List ByteArray) × (List ByteArray) × Int × Int × Int) ⊕ (((List ByteArray) × (List ByteArray) × Int × Int × Int))) := fun x => match x with
  | (a0, b1, n5, k6, i7) => bif (decide (k6 < (b1.length : Int))) then (chk (0 ≤ k6 ∧ k6 < (b1.length : Int)) (chk (0 ≤ i7 ∧ i7 < (a0.length : Int)) (bif (Op.bytesLess (b1.getD k6.toNat (ByteArray.mk #[])).toList (a0.getD i7.toNat (ByteArray.mk #[])).toList) then (some (.inl (a0, b1, n5, (IntKind.wrap .i64 (k6 + (1 : Int))), i7))) else (some (.inr (a0, b1, n5, k6, i7)))))) else (some (.inr (a0, b1, n5, k6, i7)))
theorem q58_L8_e (lo : Lo) : ∀ x : (List ByteArray) × (List ByteArray) × Int × Int × Int, stepL (⟨pf, fs58 lo, [], 0⟩ : Tabs) [] q58_L8_g q58_L8_o q58_L8_b x = q58_L8_s lo x := fun x => by kernel_rfl
def q58_L8 (lo : Lo) : (List ByteArray) × (List ByteArray) × Int × Int × Int → Option (((List ByteArray) × (List ByteArray) × Int × Int × Int)) := lo.run (q58_L8_s lo)
def q58_L8_p (lo : Lo) : LpE := ⟨8, [], q58_L8_g, q58_L8_o, q58_L8 lo⟩
theorem q58_L8_k {lo : Lo} (hlo : LoOK lo) (C : Ctx) (hT : TOK (⟨pf, fs58 lo, [], 0⟩ : Tabs) C) : LpSound (fun _ => False) [] 0 C (.loop q58_L8_b.er) (q58_L8_p lo) :=
  loop_sound (T := (⟨pf, fs58 lo, [], 0⟩ : Tabs)) hT frNo (show LsOK (fun _ => False) [] C (⟨pf, fs58 lo, [], 0⟩ : Tabs) q58_L8_b from ⟨⟨trivial, ⟨trivial, trivial⟩⟩, trivial⟩) (fun x y h => loopO_congr (q58_L8_e lo) (hlo _ _ _ h))
def q58_L3_b : VCode :=
 (.seq (.seq (.reg [o 8 (.mv (t 7)), o 9 (.mv (t 0)), o 10 (.len (t 9)), o 11 (.bin .lss (t 8) (t 10))])
 (.cond (t 11) .skip
 (.exit 0)))
 (.seq (.blk 1 (.seq (.blk 2 (.loop 8 q58_L8_b))
 (.seq (.reg [o 31 (.mv (t 6)), o 32 (.mv (t 1)), o 33 (.len (t 32)), o 34 (.bin .lss (t 31) (t 33)), o 35 (.mv (t 34)), og 36 35 true (.mv (t 1)), og 37 35 true (.mv (t 6)), og 38 35 true (.iad 1 (t 36) (t 37)), og 39 35 true (.load false 1 (t 38)), og 40 35 true (.mv (t 0)), og 41 35 true (.mv (t 7)), og 42 35 true (.iad 1 (t 40) (t 41)), og 43 35 true (.load false 1 (t 42)), og 44 35 true (.bin .eql (t 39) (t 43)), o 45 (.pick (t 35) (t 44) (kb false))])
 (.cond (t 45) (.seq (.reg [o 46 (.mv (t 5)), o 47 (.bin .add (t 46) (k 1)), o 5 (.mv (t 47))])
 (.reg [o 48 (.mv (t 6)), o 49 (.bin .add (t 48) (k 1)), o 6 (.mv (t 49))]))
 .skip))))
 (.reg [o 12 (.mv (t 7)), o 13 (.bin .add (t 12) (k 1)), o 7 (.mv (t 13))])))
def q58_L3_g : Sg := ⟨[0, 1, 5, 6, 7], [.l (cs [.s]), .l (cs [.s]), .i .i64, .i .i64, .i .i64], [], (cs [.l (cs [.s]), .l (cs [.s]), I, I, I])⟩
def q58_L3_o : List Out1 := [⟨.exit 0, ⟨[5], [.i .i64], [], (cs [I])⟩⟩]
def q58_L3_s (lo : Lo) : (List ByteArray) × (List ByteArray) × Int × Int × Int → Option (((List ByteArray) × (List ByteArray) × Int × Int × Int) ⊕ Int) := fun x => match x with
  | (a0, b1, n5, k6, i7) => bif (decide (i7 < (a0.length : Int))) then (Option.bind (q58_L8 lo (a0, b1, n5, k6, i7)) fun y240 => bif (decide (y240.2.2.2.1 < (y240.2.1.length : Int))) then (chk (0 ≤ y240.2.2.2.1 ∧ y240.2.2.2.1 < (y240.2.1.length : Int)) (chk (0 ≤ y240.2.2.2.2 ∧ y240.2.2.2.2 < (y240.1.length : Int)) (bif (decide ((y240.2.1.getD y240.2.2.2.1.toNat (ByteArray.mk #[])) = (y240.1.getD y240.2.2.2.2.toNat (ByteArray.mk #[])))) then (some (.inl (y240.1, y240.2.1, (IntKind.wrap .i64 (y240.2.2.1 + (1 : Int))), (IntKind.wrap .i64 (y240.2.2.2.1 + (1 : Int))), (IntKind.wrap .i64 (y240.2.2.2.2 + (1 : Int)))))) else (some (.inl (y240.1, y240.2.1, y240.2.2.1, y240.2.2.2.1, (IntKind.wrap .i64 (y240.2.2.2.2 + (1 : Int))))))))) else (some (.inl (y240.1, y240.2.1, y240.2.2.1, y240.2.2.2.1, (IntKind.wrap .i64 (y240.2.2.2.2 + (1 : Int))))))) else (some (.inr n5))
theorem q58_L3_e (lo : Lo) : ∀ x : (List ByteArray) × (List ByteArray) × Int × Int × Int, stepL (⟨pf, fs58 lo, [q58_L8_p lo], 0⟩ : Tabs) [] q58_L3_g q58_L3_o q58_L3_b x = q58_L3_s lo x := fun x => by kernel_rfl
def q58_L3 (lo : Lo) : (List ByteArray) × (List ByteArray) × Int × Int × Int → Option Int := lo.run (q58_L3_s lo)
def q58_L3_p (lo : Lo) : LpE := ⟨3, [], q58_L3_g, q58_L3_o, q58_L3 lo⟩
theorem q58_L3_k {lo : Lo} (hlo : LoOK lo) (C : Ctx) (hT : TOK (⟨pf, fs58 lo, [q58_L8_p lo], 0⟩ : Tabs) C) : LpSound (fun _ => False) [] 0 C (.loop q58_L3_b.er) (q58_L3_p lo) :=
  loop_sound (T := (⟨pf, fs58 lo, [q58_L8_p lo], 0⟩ : Tabs)) hT frNo (show LsOK (fun _ => False) [] C (⟨pf, fs58 lo, [q58_L8_p lo], 0⟩ : Tabs) q58_L3_b from ⟨⟨trivial, ⟨trivial, trivial⟩⟩, ⟨⟨(lsGet (by kernel_rfl) (q58_L8_k hlo C (tok_ls hT))), ⟨trivial, ⟨⟨trivial, trivial⟩, trivial⟩⟩⟩, trivial⟩⟩) (fun x y h => loopO_congr (q58_L3_e lo) (hlo _ _ _ h))
def q58 (lo : Lo) (a0 : List ByteArray) (b1 : List ByteArray) : Option Int :=
  Option.bind (q58_L3 lo (a0, b1, (0 : Int), (0 : Int), (0 : Int))) fun y241 => some y241
def q58_c : VCode :=
 (.seq (.reg [o 4 (.mv (k 0))])
 (.seq (.reg [o 5 (.mv (k 0)), o 6 (.mv (k 0))])
 (.seq (.seq (.reg [o 7 (.mv (k 0))])
 (.blk 0 (.loop 3 q58_L3_b)))
 (.seq (.reg [o 50 (.mv (t 5)), o 4 (.mv (t 50))])
 (.fz [4] .ret)))))
def q58_F : VFn := ⟨true, 51, [.t 4], q58_c⟩
def q58_f (lo : Lo) : FnE := ⟨580, true, ⟨[0, 1], [.l (cs [.s]), .l (cs [.s])], [], (cs [.l (cs [.s]), .l (cs [.s])])⟩, .i .i64, [], (cs [I]), (fun x => q58 lo x.1 x.2 : (List ByteArray) × (List ByteArray) → Option Int)⟩
theorem q58_e (lo : Lo) : ∀ x : (List ByteArray) × (List ByteArray), evP (⟨pf, fs58 lo, [q58_L3_p lo, q58_L8_p lo], 0⟩ : Tabs) q58_F ⟨[0, 1], [.l (cs [.s]), .l (cs [.s])], [], (cs [.l (cs [.s]), .l (cs [.s])])⟩ (.i .i64) (cs [I]) x = q58 lo x.1 x.2 := fun x => by kernel_rfl
theorem q58_S {P : Program} {fm : FM} {lo : Lo} (hlo : LoOK lo) (hS : Sound P fm ⟨pf, fs58 lo, [], 0⟩) (hm : P.follows .mixedOrders = true) (htie : ∀ f, fm f = 580 → fnTr P fm pf f = some (q58_F.slots, q58_F.res, q58_F.code.er)) : Sound P fm ⟨pf, q58_f lo :: fs58 lo, [], 0⟩ :=
  fn_sound hS hm [q58_L3_p lo, q58_L8_p lo] (q58_f lo) rfl q58_F htie (by decide) rfl (Nat.le_of_ble_eq_true (by kernel_rfl)) (fun C hT => show LsOK (fun _ => False) [] C (⟨pf, fs58 lo, [q58_L3_p lo, q58_L8_p lo], 0⟩ : Tabs) q58_c from ⟨trivial, ⟨trivial, ⟨⟨trivial, (lsGet (by kernel_rfl) (q58_L3_k hlo C (tok_ls hT)))⟩, ⟨trivial, trivial⟩⟩⟩⟩) (fun x y h => (q58_e lo x).trans h)
def fs59 (lo : Lo) : List FnE := q58_f lo :: fs58 lo
def q59 (lo : Lo) (a0 : ByteArray) (b1 : ByteArray) (q2 : Int) : Option (Int × Int × Int) :=
  Option.bind (q54 lo a0) fun y235 => bif y235 then (some ((0 : Int), (0 : Int), (3 : Int))) else (Option.bind (q54 lo b1) fun y236 => bif y236 then (some ((0 : Int), (0 : Int), (3 : Int))) else (Option.bind (q57 lo a0 q2) fun y237 => Option.bind (q57 lo b1 q2) fun y238 => bif (!decide (y237.2 = (0 : Int))) then (some ((0 : Int), (0 : Int), y237.2)) else (bif (decide ((IntKind.wrap .i64 ((y237.1.length : Int) + (y238.1.length : Int))) = (0 : Int))) then (Option.bind (q50 lo (1 : Int) (1 : Int)) fun y239 => some (y239.1, y239.2, (0 : Int))) else (Option.bind (q58 lo y237.1 y238.1) fun y242 => Option.bind (q50 lo (IntKind.wrap .i64 ((2 : Int) * y242)) (IntKind.wrap .i64 ((y237.1.length : Int) + (y238.1.length : Int)))) fun y243 => some (y243.1, y243.2, (0 : Int))))))
def q59_c : VCode :=
 (.seq (.reg [o 6 (.alloc [.i .i64 0, .i .i64 0]), o 7 (.mv (k 0))])
 (.seq (.seq (.reg [o 12 (.mv (t 0)), o 13 (.call 593 [(t 12)]), o 14 (.mv (t 13)), og 15 14 false (.mv (t 1)), og 16 14 false (.call 593 [(t 15)]), o 17 (.pick (t 14) (kb true) (t 16))])
 (.cond (t 17) (.seq (.reg [o 18 (.build [.i .i64 0, .i .i64 0] []), on (.store 2 (t 6) (t 18)), o 7 (.mv (k 3))])
 (.fz [6, 7] .ret))
 .skip))
 (.seq (.reg [o 20 (.mv (t 0)), o 21 (.mv (t 2)), o 22 (.call 576 [(t 20), (t 21)]), o 19 (.mv (t 22)), o 23 (.ext (t 19) 0), o 24 (.ext (t 19) 1), o 8 (.mv (t 23)), o 9 (.mv (t 24))])
 (.seq (.reg [o 26 (.mv (t 1)), o 27 (.mv (t 2)), o 28 (.call 576 [(t 26), (t 27)]), o 25 (.mv (t 28)), o 29 (.ext (t 25) 0), o 30 (.ext (t 25) 1), o 10 (.mv (t 29)), o 11 (.mv (t 30))])
 (.seq (.seq (.reg [o 31 (.mv (t 9)), o 32 (.bin .neq (t 31) (k 0))])
 (.cond (t 32) (.seq (.reg [o 33 (.build [.i .i64 0, .i .i64 0] []), o 34 (.mv (t 9)), on (.store 2 (t 6) (t 33)), o 7 (.mv (t 34))])
 (.fz [6, 7] .ret))
 .skip))
 (.seq (.seq (.reg [o 35 (.mv (t 8)), o 36 (.len (t 35)), o 37 (.mv (t 10)), o 38 (.len (t 37)), o 39 (.bin .add (t 36) (t 38)), o 40 (.bin .eql (t 39) (k 0))])
 (.cond (t 40) (.seq (.reg [o 41 (.call 589 [(k 1), (k 1)]), on (.store 2 (t 6) (t 41)), o 7 (.mv (k 0))])
 (.fz [6, 7] .ret))
 .skip))
 (.seq (.reg [o 42 (.mv (t 8)), o 43 (.mv (t 10)), o 44 (.call 580 [(t 42), (t 43)]), o 45 (.bin .mul (k 2) (t 44)), o 46 (.mv (t 8)), o 47 (.len (t 46)), o 48 (.mv (t 10)), o 49 (.len (t 48)), o 50 (.bin .add (t 47) (t 49)), o 51 (.call 589 [(t 45), (t 50)]), on (.store 2 (t 6) (t 51)), o 7 (.mv (k 0))])
 (.fz [6, 7] .ret))))))))
def q59_F : VFn := ⟨true, 52, [.c 6 true 2, .t 7], q59_c⟩
def q59_f (lo : Lo) : FnE := ⟨578, true, ⟨[0, 1, 2], [.s, .s, .i .i64], [], (cs [.s, .s, I])⟩, .tp [.ag [.i .i64, .i .i64], .i .i64], [], (cs [I, I, I]), (fun x => q59 lo x.1 x.2.1 x.2.2 : ByteArray × ByteArray × Int → Option (Int × Int × Int))⟩
theorem q59_e (lo : Lo) : ∀ x : ByteArray × ByteArray × Int, evP (⟨pf, fs59 lo, [], 0⟩ : Tabs) q59_F ⟨[0, 1, 2], [.s, .s, .i .i64], [], (cs [.s, .s, I])⟩ (.tp [.ag [.i .i64, .i .i64], .i .i64]) (cs [I, I, I]) x = q59 lo x.1 x.2.1 x.2.2 := fun x => by kernel_rfl
theorem q59_S {P : Program} {fm : FM} {lo : Lo} (hlo : LoOK lo) (hS : Sound P fm ⟨pf, fs59 lo, [], 0⟩) (hm : P.follows .mixedOrders = true) (htie : ∀ f, fm f = 578 → fnTr P fm pf f = some (q59_F.slots, q59_F.res, q59_F.code.er)) : Sound P fm ⟨pf, q59_f lo :: fs59 lo, [], 0⟩ :=
  fn_sound hS hm [] (q59_f lo) rfl q59_F htie (by decide) rfl (Nat.le_of_ble_eq_true (by kernel_rfl)) (fun C hT => show LsOK (fun _ => False) [] C (⟨pf, fs59 lo, [], 0⟩ : Tabs) q59_c from ⟨trivial, ⟨⟨trivial, ⟨⟨trivial, trivial⟩, trivial⟩⟩, ⟨trivial, ⟨trivial, ⟨⟨trivial, ⟨⟨trivial, trivial⟩, trivial⟩⟩, ⟨⟨trivial, ⟨⟨trivial, trivial⟩, trivial⟩⟩, ⟨trivial, trivial⟩⟩⟩⟩⟩⟩⟩) (fun x y h => (q59_e lo x).trans h)
def fs60 (lo : Lo) : List FnE := q59_f lo :: fs59 lo
def q60 (lo : Lo) (a0 : ByteArray) (b1 : ByteArray) (q2 : Int) : Option Bool :=
  Option.bind (q51 lo) fun y220 => bif (!y220) then (Option.bind (q51 lo) fun y221 => some y221) else (bif (decide ((30 : Int) < (a0.size : Int))) then (Option.bind (q53 lo a0) fun y222 => bif (!y222) then (Option.bind (q51 lo) fun y223 => some y223) else (bif (decide ((30 : Int) < (b1.size : Int))) then (Option.bind (q53 lo b1) fun y224 => bif (!y224) then (Option.bind (q51 lo) fun y225 => some y225) else (bif (decide ((300 : Int) < (a0.size : Int))) then (Option.bind (q51 lo) fun y226 => some y226) else (bif (decide ((300 : Int) < (b1.size : Int))) then (Option.bind (q51 lo) fun y227 => some y227) else (Option.bind (q27 lo a0 q2) fun y228 => Option.bind (q57 lo a0 q2) fun y233 => Option.bind (q34 lo a0 b1 q2) fun y234 => Option.bind (q59 lo a0 b1 q2) fun y244 => bif (decide (y228.2 = y233.2)) then (Option.bind (q41 lo y228.1 y233.1) fun y245 => bif y245 then (bif ((decide (y234.1 = y244.1)) && ((decide (y234.2.1 = y244.2.1)) && true)) then (some (decide (y234.2.2 = y244.2.2))) else (some false)) else (some false)) else (some false))))) else (bif (decide ((300 : Int) < (a0.size : Int))) then (Option.bind (q51 lo) fun y246 => some y246) else (bif (decide ((300 : Int) < (b1.size : Int))) then (Option.bind (q51 lo) fun y247 => some y247) else (Option.bind (q27 lo a0 q2) fun y248 => Option.bind (q57 lo a0 q2) fun y249 => Option.bind (q34 lo a0 b1 q2) fun y250 => Option.bind (q59 lo a0 b1 q2) fun y251 => bif (decide (y248.2 = y249.2)) then (Option.bind (q41 lo y248.1 y249.1) fun y252 => bif y252 then (bif ((decide (y250.1 = y251.1)) && ((decide (y250.2.1 = y251.2.1)) && true)) then (some (decide (y250.2.2 = y251.2.2))) else (some false)) else (some false)) else (some false)))))) else (bif (decide ((30 : Int) < (b1.size : Int))) then (Option.bind (q53 lo b1) fun y253 => bif (!y253) then (Option.bind (q51 lo) fun y254 => some y254) else (bif (decide ((300 : Int) < (a0.size : Int))) then (Option.bind (q51 lo) fun y255 => some y255) else (bif (decide ((300 : Int) < (b1.size : Int))) then (Option.bind (q51 lo) fun y256 => some y256) else (Option.bind (q27 lo a0 q2) fun y257 => Option.bind (q57 lo a0 q2) fun y258 => Option.bind (q34 lo a0 b1 q2) fun y259 => Option.bind (q59 lo a0 b1 q2) fun y260 => bif (decide (y257.2 = y258.2)) then (Option.bind (q41 lo y257.1 y258.1) fun y261 => bif y261 then (bif ((decide (y259.1 = y260.1)) && ((decide (y259.2.1 = y260.2.1)) && true)) then (some (decide (y259.2.2 = y260.2.2))) else (some false)) else (some false)) else (some false))))) else (bif (decide ((300 : Int) < (a0.size : Int))) then (Option.bind (q51 lo) fun y262 => some y262) else (bif (decide ((300 : Int) < (b1.size : Int))) then (Option.bind (q51 lo) fun y263 => some y263) else (Option.bind (q27 lo a0 q2) fun y264 => Option.bind (q57 lo a0 q2) fun y265 => Option.bind (q34 lo a0 b1 q2) fun y266 => Option.bind (q59 lo a0 b1 q2) fun y267 => bif (decide (y264.2 = y265.2)) then (Option.bind (q41 lo y264.1 y265.1) fun y268 => bif y268 then (bif ((decide (y266.1 = y267.1)) && ((decide (y266.2.1 = y267.2.1)) && true)) then (some (decide (y266.2.2 = y267.2.2))) else (some false)) else (some false)) else (some false))))))
def q60_c : VCode :=
 (.seq (.reg [o 6 (.mv (kb false))])
 (.seq (.seq (.reg [o 15 (.call 570 []), o 16 (.not (t 15)), o 17 (.mv (t 16)), og 18 17 false (.mv (t 0)), og 19 17 false (.lenS (t 18)), og 20 17 false (.bin .gtr (t 19) (k 30)), og 21 17 false (.mv (t 20)), og 22 21 true (.mv (t 0)), og 23 21 true (.call 572 [(t 22)]), og 24 21 true (.not (t 23)), og 25 17 false (.pick (t 21) (t 24) (kb false)), o 26 (.pick (t 17) (kb true) (t 25)), o 27 (.mv (t 26)), og 28 27 false (.mv (t 1)), og 29 27 false (.lenS (t 28)), og 30 27 false (.bin .gtr (t 29) (k 30)), og 31 27 false (.mv (t 30)), og 32 31 true (.mv (t 1)), og 33 31 true (.call 572 [(t 32)]), og 34 31 true (.not (t 33)), og 35 27 false (.pick (t 31) (t 34) (kb false)), o 36 (.pick (t 27) (kb true) (t 35)), o 37 (.mv (t 36)), og 38 37 false (.mv (t 0)), og 39 37 false (.lenS (t 38)), og 40 37 false (.bin .gtr (t 39) (k 300)), o 41 (.pick (t 37) (kb true) (t 40)), o 42 (.mv (t 41)), og 43 42 false (.mv (t 1)), og 44 42 false (.lenS (t 43)), og 45 42 false (.bin .gtr (t 44) (k 300)), o 46 (.pick (t 42) (kb true) (t 45))])
 (.cond (t 46) (.seq (.reg [o 47 (.call 570 []), o 6 (.mv (t 47))])
 (.fz [6] .ret))
 .skip))
 (.seq (.reg [o 49 (.mv (t 0)), o 50 (.mv (t 2)), o 51 (.call 575 [(t 49), (t 50)]), o 48 (.mv (t 51)), o 52 (.ext (t 48) 0), o 53 (.ext (t 48) 1), o 7 (.mv (t 52)), o 8 (.mv (t 53))])
 (.seq (.reg [o 55 (.mv (t 0)), o 56 (.mv (t 2)), o 57 (.call 576 [(t 55), (t 56)]), o 54 (.mv (t 57)), o 58 (.ext (t 54) 0), o 59 (.ext (t 54) 1), o 9 (.mv (t 58)), o 10 (.mv (t 59))])
 (.seq (.reg [o 61 (.mv (t 0)), o 62 (.mv (t 1)), o 63 (.mv (t 2)), o 64 (.call 577 [(t 61), (t 62), (t 63)]), o 60 (.mv (t 64)), o 65 (.ext (t 60) 0), o 66 (.ext (t 60) 1), o 11 (.alloc [.i .i64 0, .i .i64 0]), on (.store 2 (t 11) (t 65)), o 12 (.mv (t 66))])
 (.seq (.reg [o 68 (.mv (t 0)), o 69 (.mv (t 1)), o 70 (.mv (t 2)), o 71 (.call 578 [(t 68), (t 69), (t 70)]), o 67 (.mv (t 71)), o 72 (.ext (t 67) 0), o 73 (.ext (t 67) 1), o 13 (.alloc [.i .i64 0, .i .i64 0]), on (.store 2 (t 13) (t 72)), o 14 (.mv (t 73))])
 (.seq (.reg [o 74 (.mv (t 8)), o 75 (.mv (t 10)), o 76 (.bin .eql (t 74) (t 75)), o 77 (.mv (t 76)), og 78 77 true (.mv (t 7)), og 79 77 true (.mv (t 9)), og 80 77 true (.call 579 [(t 78), (t 79)]), o 81 (.pick (t 77) (t 80) (kb false)), o 82 (.mv (t 81)), og 83 82 true (.load true 2 (t 11)), og 84 82 true (.load true 2 (t 13)), og 85 82 true (.eqa false [1, 1] (t 83) (t 84)), o 86 (.pick (t 82) (t 85) (kb false)), o 87 (.mv (t 86)), og 88 87 true (.mv (t 12)), og 89 87 true (.mv (t 14)), og 90 87 true (.bin .eql (t 88) (t 89)), o 91 (.pick (t 87) (t 90) (kb false)), o 6 (.mv (t 91))])
 (.fz [6] .ret))))))))
def q60_F : VFn := ⟨true, 92, [.t 6], q60_c⟩
def q60_f (lo : Lo) : FnE := ⟨564, true, ⟨[0, 1, 2], [.s, .s, .i .i64], [], (cs [.s, .s, I])⟩, .b, [], (cs [.b]), (fun x => q60 lo x.1 x.2.1 x.2.2 : ByteArray × ByteArray × Int → Option Bool)⟩
theorem q60_e (lo : Lo) : ∀ x : ByteArray × ByteArray × Int, evP (⟨pf, fs60 lo, [], 0⟩ : Tabs) q60_F ⟨[0, 1, 2], [.s, .s, .i .i64], [], (cs [.s, .s, I])⟩ (.b) (cs [.b]) x = q60 lo x.1 x.2.1 x.2.2 := fun x => by kernel_rfl
theorem q60_S {P : Program} {fm : FM} {lo : Lo} (hlo : LoOK lo) (hS : Sound P fm ⟨pf, fs60 lo, [], 0⟩) (hm : P.follows .mixedOrders = true) (htie : ∀ f, fm f = 564 → fnTr P fm pf f = some (q60_F.slots, q60_F.res, q60_F.code.er)) : Sound P fm ⟨pf, q60_f lo :: fs60 lo, [], 0⟩ :=
  fn_sound hS hm [] (q60_f lo) rfl q60_F htie (by decide) rfl (Nat.le_of_ble_eq_true (by kernel_rfl)) (fun C hT => show LsOK (fun _ => False) [] C (⟨pf, fs60 lo, [], 0⟩ : Tabs) q60_c from ⟨trivial, ⟨⟨trivial, ⟨⟨trivial, trivial⟩, trivial⟩⟩, ⟨trivial, ⟨trivial, ⟨trivial, ⟨trivial, ⟨trivial, trivial⟩⟩⟩⟩⟩⟩⟩) (fun x y h => (q60_e lo x).trans h)
def fs61 (lo : Lo) : List FnE := q60_f lo :: fs60 lo
end Go.Abs.G52
namespace Go.Abs.G52
open Go Go.Abs
set_option maxRecDepth 100000
set_option linter.unusedVariables false
set_option maxHeartbeats 1000000
def q61 (lo : Lo) (a0 : ByteArray) (b1 : ByteArray) (q2 : Int) : Option Bool :=
  Option.bind (q51 lo) fun y269 => bif (!y269) then (Option.bind (q51 lo) fun y270 => some y270) else (bif (decide ((30 : Int) < (a0.size : Int))) then (Option.bind (q51 lo) fun y271 => some y271) else (bif (decide ((30 : Int) < (b1.size : Int))) then (Option.bind (q51 lo) fun y272 => some y272) else (chk ((4 : Int) ≠ 0) (Option.bind (q27 lo a0 (IntKind.wrap .i64 ((1 : Int) + (IntKind.wrap .i64 (q2.tmod (4 : Int)))))) fun y273 => Option.bind (q27 lo b1 (IntKind.wrap .i64 ((1 : Int) + (IntKind.wrap .i64 (q2.tmod (4 : Int)))))) fun y274 => Option.bind (q5 lo a0 b1) fun y275 => bif (decide (y273.2 = (0 : Int))) then (bif (decide (y274.2 = (0 : Int))) then (bif (decide (y275.2 = (0 : Int))) then (Option.bind (q58 lo y273.1 y274.1) fun y276 => some (decide ((IntKind.wrap .i64 ((max (y273.1.length : Int) (y274.1.length : Int)) - (IntKind.wrap .i64 ((IntKind.wrap .i64 ((1 : Int) + (IntKind.wrap .i64 (q2.tmod (4 : Int))))) * y275.1)))) ≤ y276))) else (some false)) else (some false)) else (some false)))))
def q61_c : VCode :=
 (.seq (.reg [o 6 (.mv (kb false))])
 (.seq (.seq (.reg [o 14 (.call 570 []), o 15 (.not (t 14)), o 16 (.mv (t 15)), og 17 16 false (.mv (t 0)), og 18 16 false (.lenS (t 17)), og 19 16 false (.bin .gtr (t 18) (k 30)), o 20 (.pick (t 16) (kb true) (t 19)), o 21 (.mv (t 20)), og 22 21 false (.mv (t 1)), og 23 21 false (.lenS (t 22)), og 24 21 false (.bin .gtr (t 23) (k 30)), o 25 (.pick (t 21) (kb true) (t 24))])
 (.cond (t 25) (.seq (.reg [o 26 (.call 570 []), o 6 (.mv (t 26))])
 (.fz [6] .ret))
 .skip))
 (.seq (.reg [o 27 (.mv (t 2)), o 28 (.bin .rem (t 27) (ki .u8 4)), o 29 (.conv .i64 (t 28)), o 30 (.bin .add (k 1) (t 29)), o 7 (.mv (t 30))])
 (.seq (.reg [o 32 (.mv (t 0)), o 33 (.mv (t 7)), o 34 (.call 575 [(t 32), (t 33)]), o 31 (.mv (t 34)), o 35 (.ext (t 31) 0), o 36 (.ext (t 31) 1), o 8 (.mv (t 35)), o 9 (.mv (t 36))])
 (.seq (.reg [o 38 (.mv (t 1)), o 39 (.mv (t 7)), o 40 (.call 575 [(t 38), (t 39)]), o 37 (.mv (t 40)), o 41 (.ext (t 37) 0), o 42 (.ext (t 37) 1), o 10 (.mv (t 41)), o 11 (.mv (t 42))])
 (.seq (.reg [o 44 (.mv (t 0)), o 45 (.mv (t 1)), o 46 (.call 571 [(t 44), (t 45)]), o 43 (.mv (t 46)), o 47 (.ext (t 43) 0), o 48 (.ext (t 43) 1), o 12 (.mv (t 47)), o 13 (.mv (t 48))])
 (.seq (.reg [o 49 (.mv (t 9)), o 50 (.bin .eql (t 49) (k 0)), o 51 (.mv (t 50)), og 52 51 true (.mv (t 11)), og 53 51 true (.bin .eql (t 52) (k 0)), o 54 (.pick (t 51) (t 53) (kb false)), o 55 (.mv (t 54)), og 56 55 true (.mv (t 13)), og 57 55 true (.bin .eql (t 56) (k 0)), o 58 (.pick (t 55) (t 57) (kb false)), o 59 (.mv (t 58)), og 60 59 true (.mv (t 8)), og 61 59 true (.mv (t 10)), og 62 59 true (.call 580 [(t 60), (t 61)]), og 63 59 true (.mv (t 8)), og 64 59 true (.len (t 63)), og 65 59 true (.mv (t 10)), og 66 59 true (.len (t 65)), og 67 59 true (.mm true [(t 64), (t 66)]), og 68 59 true (.mv (t 7)), og 69 59 true (.mv (t 12)), og 70 59 true (.bin .mul (t 68) (t 69)), og 71 59 true (.bin .sub (t 67) (t 70)), og 72 59 true (.bin .geq (t 62) (t 71)), o 73 (.pick (t 59) (t 72) (kb false)), o 6 (.mv (t 73))])
 (.fz [6] .ret))))))))
def q61_F : VFn := ⟨true, 74, [.t 6], q61_c⟩
def q61_f (lo : Lo) : FnE := ⟨565, true, ⟨[0, 1, 2], [.s, .s, .i .u8], [], (cs [.s, .s, .i .u8])⟩, .b, [], (cs [.b]), (fun x => q61 lo x.1 x.2.1 x.2.2 : ByteArray × ByteArray × Int → Option Bool)⟩
theorem q61_e (lo : Lo) : ∀ x : ByteArray × ByteArray × Int, evP (⟨pf, fs61 lo, [], 0⟩ : Tabs) q61_F ⟨[0, 1, 2], [.s, .s, .i .u8], [], (cs [.s, .s, .i .u8])⟩ (.b) (cs [.b]) x = q61 lo x.1 x.2.1 x.2.2 := fun x => by kernel_rfl
theorem q61_S {P : Program} {fm : FM} {lo : Lo} (hlo : LoOK lo) (hS : Sound P fm ⟨pf, fs61 lo, [], 0⟩) (hm : P.follows .mixedOrders = true) (htie : ∀ f, fm f = 565 → fnTr P fm pf f = some (q61_F.slots, q61_F.res, q61_F.code.er)) : Sound P fm ⟨pf, q61_f lo :: fs61 lo, [], 0⟩ :=
  fn_sound hS hm [] (q61_f lo) rfl q61_F htie (by decide) rfl (Nat.le_of_ble_eq_true (by kernel_rfl)) (fun C hT => show LsOK (fun _ => False) [] C (⟨pf, fs61 lo, [], 0⟩ : Tabs) q61_c from ⟨trivial, ⟨⟨trivial, ⟨⟨trivial, trivial⟩, trivial⟩⟩, ⟨trivial, ⟨trivial, ⟨trivial, ⟨trivial, ⟨trivial, trivial⟩⟩⟩⟩⟩⟩⟩) (fun x y h => (q61_e lo x).trans h)
def fs62 (lo : Lo) : List FnE := q61_f lo :: fs61 lo
def q62_L6_b : VCode :=
 (.seq (.seq (.reg [o 21 (.mv (t 8)), o 22 (.mv (t 1)), o 23 (.lenS (t 22)), o 24 (.bin .lss (t 21) (t 23))])
 (.cond (t 24) .skip
 (.exit 2)))
 (.seq (.blk 3 (.seq (.reg [o 27 (.mv (t 5)), o 28 (.mv (t 8)), o 29 (.bin .add (t 28) (k 1)), o 30 (.iad 1 (t 27) (t 29)), o 31 (.load false 1 (t 30)), o 32 (.mv (t 7)), o 33 (.mv (t 8)), o 34 (.iad 1 (t 32) (t 33)), o 35 (.load false 1 (t 34)), o 36 (.mm true [(t 31), (t 35)]), o 9 (.mv (t 36))])
 (.seq (.seq (.reg [o 37 (.mv (t 0)), o 38 (.mv (t 6)), o 39 (.idx (t 37) (t 38)), o 40 (.mv (t 1)), o 41 (.mv (t 8)), o 42 (.idx (t 40) (t 41)), o 43 (.bin .eql (t 39) (t 42))])
 (.cond (t 43) (.reg [o 44 (.mv (t 9)), o 45 (.mv (t 5)), o 46 (.mv (t 8)), o 47 (.iad 1 (t 45) (t 46)), o 48 (.load false 1 (t 47)), o 49 (.bin .add (t 48) (k 1)), o 50 (.mm true [(t 44), (t 49)]), o 9 (.mv (t 50))])
 .skip))
 (.reg [o 51 (.mv (t 7)), o 52 (.mv (t 9)), o 53 (.bsl (cs [I]) 1 [(0, (t 52))]), o 54 (.app (cs [I]) 0 (t 51) (t 53)), o 7 (.mv (t 54))]))))
 (.reg [o 25 (.mv (t 8)), o 26 (.bin .add (t 25) (k 1)), o 8 (.mv (t 26))])))
def q62_L6_g : Sg := ⟨[0, 1, 5, 6, 7, 8], [.s, .s, .ref 0, .i .i64, .ref 1, .i .i64], [.sq (cs [I]), .sq (cs [I])], (cs [.s, .s, I, I, .l (cs [I]), .l (cs [I])])⟩
def q62_L6_o : List Out1 := [⟨.exit 2, ⟨[0, 1, 6, 7], [.s, .s, .i .i64, .ref 0], [.sq (cs [I])], (cs [.s, .s, I, .l (cs [I])])⟩⟩]
def q62_L6_s (lo : Lo) : ByteArray × ByteArray × Int × Int × (List Int) × (List Int) → Option ((ByteArray × ByteArray × Int × Int × (List Int) × (List Int)) ⊕ ((ByteArray × ByteArray × Int × (List Int)))) := fun x => match x with
  | (a0, b1, i6, k8, d5, next7) => bif (decide (k8 < (b1.size : Int))) then (chk (0 ≤ (IntKind.wrap .i64 (k8 + (1 : Int))) ∧ (IntKind.wrap .i64 (k8 + (1 : Int))) < (d5.length : Int)) (chk (0 ≤ k8 ∧ k8 < (next7.length : Int)) (chk (0 ≤ i6 ∧ i6 < (a0.size : Int)) (chk (0 ≤ k8 ∧ k8 < (b1.size : Int)) (bif (decide ((byteI a0 i6) = (byteI b1 k8))) then (chk (0 ≤ k8 ∧ k8 < (d5.length : Int)) (chk (next7.length + ([(max (max (d5.getD ((IntKind.wrap .i64 (k8 + (1 : Int))).toNat) (0 : Int)) (next7.getD k8.toNat (0 : Int))) (IntKind.wrap .i64 ((d5.getD k8.toNat (0 : Int)) + (1 : Int))))]).length ≤ maxEl) (some (.inl (a0, b1, i6, (IntKind.wrap .i64 (k8 + (1 : Int))), d5, (next7 ++ ([(max (max (d5.getD ((IntKind.wrap .i64 (k8 + (1 : Int))).toNat) (0 : Int)) (next7.getD k8.toNat (0 : Int))) (IntKind.wrap .i64 ((d5.getD k8.toNat (0 : Int)) + (1 : Int))))]))))))) else (chk (next7.length + ([(max (d5.getD ((IntKind.wrap .i64 (k8 + (1 : Int))).toNat) (0 : Int)) (next7.getD k8.toNat (0 : Int)))]).length ≤ maxEl) (some (.inl (a0, b1, i6, (IntKind.wrap .i64 (k8 + (1 : Int))), d5, (next7 ++ ([(max (d5.getD ((IntKind.wrap .i64 (k8 + (1 : Int))).toNat) (0 : Int)) (next7.getD k8.toNat (0 : Int)))]))))))))))) else (some (.inr (a0, b1, i6, next7)))
theorem q62_L6_e (lo : Lo) : ∀ x : ByteArray × ByteArray × Int × Int × (List Int) × (List Int), stepL (⟨pf, fs62 lo, [], 0⟩ : Tabs) [] q62_L6_g q62_L6_o q62_L6_b x = q62_L6_s lo x := fun x => by kernel_rfl
def q62_L6 (lo : Lo) : ByteArray × ByteArray × Int × Int × (List Int) × (List Int) → Option ((ByteArray × ByteArray × Int × (List Int))) := lo.run (q62_L6_s lo)
def q62_L6_p (lo : Lo) : LpE := ⟨6, [], q62_L6_g, q62_L6_o, q62_L6 lo⟩
theorem q62_L6_k {lo : Lo} (hlo : LoOK lo) (C : Ctx) (hT : TOK (⟨pf, fs62 lo, [], 0⟩ : Tabs) C) : LpSound (fun _ => False) [] 0 C (.loop q62_L6_b.er) (q62_L6_p lo) :=
  loop_sound (T := (⟨pf, fs62 lo, [], 0⟩ : Tabs)) hT frNo (show LsOK (fun _ => False) [] C (⟨pf, fs62 lo, [], 0⟩ : Tabs) q62_L6_b from ⟨⟨trivial, ⟨trivial, trivial⟩⟩, ⟨⟨trivial, ⟨⟨trivial, ⟨trivial, trivial⟩⟩, trivial⟩⟩, trivial⟩⟩) (fun x y h => loopO_congr (q62_L6_e lo) (hlo _ _ _ h))
def q62_L3_b : VCode :=
 (.seq (.seq (.reg [o 14 (.mv (t 6)), o 15 (.mv (t 0)), o 16 (.lenS (t 15)), o 17 (.bin .lss (t 14) (t 16))])
 (.cond (t 17) .skip
 (.exit 0)))
 (.seq (.blk 1 (.seq (.reg [o 20 (.lit (cs [I]) [(k 0)]), o 7 (.mv (t 20))])
 (.seq (.seq (.reg [o 8 (.mv (k 0))])
 (.blk 2 (.loop 6 q62_L6_b)))
 (.reg [o 55 (.mv (t 7)), o 5 (.mv (t 55))]))))
 (.reg [o 18 (.mv (t 6)), o 19 (.bin .add (t 18) (k 1)), o 6 (.mv (t 19))])))
def q62_L3_g : Sg := ⟨[0, 1, 5, 6], [.s, .s, .ref 0, .i .i64], [.sq (cs [I])], (cs [.s, .s, I, .l (cs [I])])⟩
def q62_L3_o : List Out1 := [⟨.exit 0, ⟨[1, 5], [.s, .ref 0], [.sq (cs [I])], (cs [.s, .l (cs [I])])⟩⟩]
def q62_L3_s (lo : Lo) : ByteArray × ByteArray × Int × (List Int) → Option ((ByteArray × ByteArray × Int × (List Int)) ⊕ ((ByteArray × (List Int)))) := fun x => match x with
  | (a0, b1, i6, d5) => bif (decide (i6 < (a0.size : Int))) then (Option.bind (q62_L6 lo (a0, b1, i6, (0 : Int), d5, [(0 : Int)])) fun y283 => some (.inl (y283.1, y283.2.1, (IntKind.wrap .i64 (y283.2.2.1 + (1 : Int))), y283.2.2.2))) else (some (.inr (b1, d5)))
theorem q62_L3_e (lo : Lo) : ∀ x : ByteArray × ByteArray × Int × (List Int), stepL (⟨pf, fs62 lo, [q62_L6_p lo], 0⟩ : Tabs) [] q62_L3_g q62_L3_o q62_L3_b x = q62_L3_s lo x := fun x => by kernel_rfl
def q62_L3 (lo : Lo) : ByteArray × ByteArray × Int × (List Int) → Option ((ByteArray × (List Int))) := lo.run (q62_L3_s lo)
def q62_L3_p (lo : Lo) : LpE := ⟨3, [], q62_L3_g, q62_L3_o, q62_L3 lo⟩
theorem q62_L3_k {lo : Lo} (hlo : LoOK lo) (C : Ctx) (hT : TOK (⟨pf, fs62 lo, [q62_L6_p lo], 0⟩ : Tabs) C) : LpSound (fun _ => False) [] 0 C (.loop q62_L3_b.er) (q62_L3_p lo) :=
  loop_sound (T := (⟨pf, fs62 lo, [q62_L6_p lo], 0⟩ : Tabs)) hT frNo (show LsOK (fun _ => False) [] C (⟨pf, fs62 lo, [q62_L6_p lo], 0⟩ : Tabs) q62_L3_b from ⟨⟨trivial, ⟨trivial, trivial⟩⟩, ⟨⟨trivial, ⟨⟨trivial, (lsGet (by kernel_rfl) (q62_L6_k hlo C (tok_ls hT)))⟩, trivial⟩⟩, trivial⟩⟩) (fun x y h => loopO_congr (q62_L3_e lo) (hlo _ _ _ h))
def q62 (lo : Lo) (a0 : ByteArray) (b1 : ByteArray) : Option Int :=
  chk (0 ≤ (IntKind.wrap .i64 ((b1.size : Int) + (1 : Int))) ∧ (IntKind.wrap .i64 ((b1.size : Int) + (1 : Int))) ≤ (IntKind.wrap .i64 ((b1.size : Int) + (1 : Int))) ∧ (IntKind.wrap .i64 ((b1.size : Int) + (1 : Int))) ≤ (maxEl : Nat)) (Option.bind (q62_L3 lo (a0, b1, (0 : Int), (List.replicate (IntKind.wrap .i64 ((b1.size : Int) + (1 : Int))).toNat (0 : Int)))) fun y284 => chk (0 ≤ (y284.1.size : Int) ∧ (y284.1.size : Int) < (y284.2.length : Int)) (some (y284.2.getD ((y284.1.size : Int).toNat) (0 : Int))))
def q62_c : VCode :=
 (.seq (.reg [o 4 (.mv (k 0))])
 (.seq (.reg [o 10 (.mv (t 1)), o 11 (.lenS (t 10)), o 12 (.bin .add (t 11) (k 1)), o 13 (.mksl (cs [I]) 0 (t 12) (t 12)), o 5 (.mv (t 13))])
 (.seq (.seq (.reg [o 6 (.mv (k 0))])
 (.blk 0 (.loop 3 q62_L3_b)))
 (.seq (.reg [o 56 (.mv (t 5)), o 57 (.mv (t 1)), o 58 (.lenS (t 57)), o 59 (.iad 1 (t 56) (t 58)), o 60 (.load false 1 (t 59)), o 4 (.mv (t 60))])
 (.fz [4] .ret)))))
def q62_F : VFn := ⟨true, 61, [.t 4], q62_c⟩
def q62_f (lo : Lo) : FnE := ⟨582, true, ⟨[0, 1], [.s, .s], [], (cs [.s, .s])⟩, .i .i64, [], (cs [I]), (fun x => q62 lo x.1 x.2 : ByteArray × ByteArray → Option Int)⟩
theorem q62_e (lo : Lo) : ∀ x : ByteArray × ByteArray, evP (⟨pf, fs62 lo, [q62_L3_p lo, q62_L6_p lo], 0⟩ : Tabs) q62_F ⟨[0, 1], [.s, .s], [], (cs [.s, .s])⟩ (.i .i64) (cs [I]) x = q62 lo x.1 x.2 := fun x => by kernel_rfl
theorem q62_S {P : Program} {fm : FM} {lo : Lo} (hlo : LoOK lo) (hS : Sound P fm ⟨pf, fs62 lo, [], 0⟩) (hm : P.follows .mixedOrders = true) (htie : ∀ f, fm f = 582 → fnTr P fm pf f = some (q62_F.slots, q62_F.res, q62_F.code.er)) : Sound P fm ⟨pf, q62_f lo :: fs62 lo, [], 0⟩ :=
  fn_sound hS hm [q62_L3_p lo, q62_L6_p lo] (q62_f lo) rfl q62_F htie (by decide) rfl (Nat.le_of_ble_eq_true (by kernel_rfl)) (fun C hT => show LsOK (fun _ => False) [] C (⟨pf, fs62 lo, [q62_L3_p lo, q62_L6_p lo], 0⟩ : Tabs) q62_c from ⟨trivial, ⟨trivial, ⟨⟨trivial, (lsGet (by kernel_rfl) (q62_L3_k hlo C (tok_ls hT)))⟩, ⟨trivial, trivial⟩⟩⟩⟩) (fun x y h => (q62_e lo x).trans h)
def fs63 (lo : Lo) : List FnE := q62_f lo :: fs62 lo
def q63_L3_b : VCode :=
 (.seq (.seq (.reg [o 7 (.mv (t 6)), o 8 (.mv (t 1)), o 9 (.lenS (t 8)), o 10 (.bin .lss (t 7) (t 9)), o 11 (.mv (t 10)), og 12 11 true (.mv (t 5)), og 13 11 true (.mv (t 0)), og 14 11 true (.lenS (t 13)), og 15 11 true (.bin .lss (t 12) (t 14)), o 16 (.pick (t 11) (t 15) (kb false))])
 (.cond (t 16) .skip
 (.exit 0)))
 (.seq (.blk 1 (.seq (.reg [o 19 (.mv (t 1)), o 20 (.mv (t 6)), o 21 (.idx (t 19) (t 20)), o 22 (.mv (t 0)), o 23 (.mv (t 5)), o 24 (.idx (t 22) (t 23)), o 25 (.bin .eql (t 21) (t 24))])
 (.cond (t 25) (.reg [o 26 (.mv (t 5)), o 27 (.bin .add (t 26) (k 1)), o 5 (.mv (t 27))])
 .skip)))
 (.reg [o 17 (.mv (t 6)), o 18 (.bin .add (t 17) (k 1)), o 6 (.mv (t 18))])))
def q63_L3_g : Sg := ⟨[0, 1, 5, 6], [.s, .s, .i .i64, .i .i64], [], (cs [.s, .s, I, I])⟩
def q63_L3_o : List Out1 := [⟨.exit 0, ⟨[0, 5], [.s, .i .i64], [], (cs [.s, I])⟩⟩]
def q63_L3_s (lo : Lo) : ByteArray × ByteArray × Int × Int → Option ((ByteArray × ByteArray × Int × Int) ⊕ ((ByteArray × Int))) := fun x => match x with
  | (s0, a1, n5, i6) => bif (decide (i6 < (a1.size : Int))) then (bif (decide (n5 < (s0.size : Int))) then (chk (0 ≤ i6 ∧ i6 < (a1.size : Int)) (chk (0 ≤ n5 ∧ n5 < (s0.size : Int)) (bif (decide ((byteI a1 i6) = (byteI s0 n5))) then (some (.inl (s0, a1, (IntKind.wrap .i64 (n5 + (1 : Int))), (IntKind.wrap .i64 (i6 + (1 : Int)))))) else (some (.inl (s0, a1, n5, (IntKind.wrap .i64 (i6 + (1 : Int))))))))) else (some (.inr (s0, n5)))) else (some (.inr (s0, n5)))
theorem q63_L3_e (lo : Lo) : ∀ x : ByteArray × ByteArray × Int × Int, stepL (⟨pf, fs63 lo, [], 0⟩ : Tabs) [] q63_L3_g q63_L3_o q63_L3_b x = q63_L3_s lo x := fun x => by kernel_rfl
def q63_L3 (lo : Lo) : ByteArray × ByteArray × Int × Int → Option ((ByteArray × Int)) := lo.run (q63_L3_s lo)
def q63_L3_p (lo : Lo) : LpE := ⟨3, [], q63_L3_g, q63_L3_o, q63_L3 lo⟩
theorem q63_L3_k {lo : Lo} (hlo : LoOK lo) (C : Ctx) (hT : TOK (⟨pf, fs63 lo, [], 0⟩ : Tabs) C) : LpSound (fun _ => False) [] 0 C (.loop q63_L3_b.er) (q63_L3_p lo) :=
  loop_sound (T := (⟨pf, fs63 lo, [], 0⟩ : Tabs)) hT frNo (show LsOK (fun _ => False) [] C (⟨pf, fs63 lo, [], 0⟩ : Tabs) q63_L3_b from ⟨⟨trivial, ⟨trivial, trivial⟩⟩, ⟨⟨trivial, ⟨trivial, trivial⟩⟩, trivial⟩⟩) (fun x y h => loopO_congr (q63_L3_e lo) (hlo _ _ _ h))
def q63 (lo : Lo) (s0 : ByteArray) (a1 : ByteArray) : Option Bool :=
  Option.bind (q63_L3 lo (s0, a1, (0 : Int), (0 : Int))) fun y286 => some (decide (y286.2 = (y286.1.size : Int)))
def q63_c : VCode :=
 (.seq (.reg [o 4 (.mv (kb false))])
 (.seq (.reg [o 5 (.mv (k 0))])
 (.seq (.seq (.reg [o 6 (.mv (k 0))])
 (.blk 0 (.loop 3 q63_L3_b)))
 (.seq (.reg [o 28 (.mv (t 5)), o 29 (.mv (t 0)), o 30 (.lenS (t 29)), o 31 (.bin .eql (t 28) (t 30)), o 4 (.mv (t 31))])
 (.fz [4] .ret)))))
def q63_F : VFn := ⟨true, 32, [.t 4], q63_c⟩
def q63_f (lo : Lo) : FnE := ⟨583, true, ⟨[0, 1], [.s, .s], [], (cs [.s, .s])⟩, .b, [], (cs [.b]), (fun x => q63 lo x.1 x.2 : ByteArray × ByteArray → Option Bool)⟩
theorem q63_e (lo : Lo) : ∀ x : ByteArray × ByteArray, evP (⟨pf, fs63 lo, [q63_L3_p lo], 0⟩ : Tabs) q63_F ⟨[0, 1], [.s, .s], [], (cs [.s, .s])⟩ (.b) (cs [.b]) x = q63 lo x.1 x.2 := fun x => by kernel_rfl
theorem q63_S {P : Program} {fm : FM} {lo : Lo} (hlo : LoOK lo) (hS : Sound P fm ⟨pf, fs63 lo, [], 0⟩) (hm : P.follows .mixedOrders = true) (htie : ∀ f, fm f = 583 → fnTr P fm pf f = some (q63_F.slots, q63_F.res, q63_F.code.er)) : Sound P fm ⟨pf, q63_f lo :: fs63 lo, [], 0⟩ :=
  fn_sound hS hm [q63_L3_p lo] (q63_f lo) rfl q63_F htie (by decide) rfl (Nat.le_of_ble_eq_true (by kernel_rfl)) (fun C hT => show LsOK (fun _ => False) [] C (⟨pf, fs63 lo, [q63_L3_p lo], 0⟩ : Tabs) q63_c from ⟨trivial, ⟨trivial, ⟨⟨trivial, (lsGet (by kernel_rfl) (q63_L3_k hlo C (tok_ls hT)))⟩, ⟨trivial, trivial⟩⟩⟩⟩) (fun x y h => (q63_e lo x).trans h)
def fs64 (lo : Lo) : List FnE := q63_f lo :: fs63 lo
def q64 (lo : Lo) (a0 : ByteArray) (b1 : ByteArray) : Option Bool :=
  Option.bind (q51 lo) fun y277 => bif (!y277) then (Option.bind (q51 lo) fun y278 => some y278) else (bif (decide ((30 : Int) < (a0.size : Int))) then (Option.bind (q51 lo) fun y279 => some y279) else (bif (decide ((30 : Int) < (b1.size : Int))) then (Option.bind (q51 lo) fun y280 => some y280) else (Option.bind (q38 lo a0 b1) fun y281 => Option.bind (q5 lo a0 b1) fun y282 => bif (decide (y281.2 = (0 : Int))) then (bif (decide (y282.2 = (0 : Int))) then (Option.bind (q62 lo a0 b1) fun y285 => bif (decide ((y281.1.size : Int) = y285)) then (Option.bind (q63 lo y281.1 a0) fun y287 => bif y287 then (Option.bind (q63 lo y281.1 b1) fun y288 => bif y288 then (some (decide (y282.1 ≤ (IntKind.wrap .i64 ((IntKind.wrap .i64 ((a0.size : Int) + (b1.size : Int))) - (IntKind.wrap .i64 ((2 : Int) * (y281.1.size : Int)))))))) else (some false)) else (some false)) else (some false)) else (some false)) else (some false))))
def q64_c : VCode :=
 (.seq (.reg [o 4 (.mv (kb false))])
 (.seq (.seq (.reg [o 9 (.call 570 []), o 10 (.not (t 9)), o 11 (.mv (t 10)), og 12 11 false (.mv (t 0)), og 13 11 false (.lenS (t 12)), og 14 11 false (.bin .gtr (t 13) (k 30)), o 15 (.pick (t 11) (kb true) (t 14)), o 16 (.mv (t 15)), og 17 16 false (.mv (t 1)), og 18 16 false (.lenS (t 17)), og 19 16 false (.bin .gtr (t 18) (k 30)), o 20 (.pick (t 16) (kb true) (t 19))])
 (.cond (t 20) (.seq (.reg [o 21 (.call 570 []), o 4 (.mv (t 21))])
 (.fz [4] .ret))
 .skip))
 (.seq (.reg [o 23 (.mv (t 0)), o 24 (.mv (t 1)), o 25 (.call 581 [(t 23), (t 24)]), o 22 (.mv (t 25)), o 26 (.ext (t 22) 0), o 27 (.ext (t 22) 1), o 5 (.mv (t 26)), o 6 (.mv (t 27))])
 (.seq (.reg [o 29 (.mv (t 0)), o 30 (.mv (t 1)), o 31 (.call 571 [(t 29), (t 30)]), o 28 (.mv (t 31)), o 32 (.ext (t 28) 0), o 33 (.ext (t 28) 1), o 7 (.mv (t 32)), o 8 (.mv (t 33))])
 (.seq (.reg [o 34 (.mv (t 6)), o 35 (.bin .eql (t 34) (k 0)), o 36 (.mv (t 35)), og 37 36 true (.mv (t 8)), og 38 36 true (.bin .eql (t 37) (k 0)), o 39 (.pick (t 36) (t 38) (kb false)), o 40 (.mv (t 39)), og 41 40 true (.mv (t 5)), og 42 40 true (.lenS (t 41)), og 43 40 true (.mv (t 0)), og 44 40 true (.mv (t 1)), og 45 40 true (.call 582 [(t 43), (t 44)]), og 46 40 true (.bin .eql (t 42) (t 45)), o 47 (.pick (t 40) (t 46) (kb false)), o 48 (.mv (t 47)), og 49 48 true (.mv (t 5)), og 50 48 true (.mv (t 0)), og 51 48 true (.call 583 [(t 49), (t 50)]), o 52 (.pick (t 48) (t 51) (kb false)), o 53 (.mv (t 52)), og 54 53 true (.mv (t 5)), og 55 53 true (.mv (t 1)), og 56 53 true (.call 583 [(t 54), (t 55)]), o 57 (.pick (t 53) (t 56) (kb false)), o 58 (.mv (t 57)), og 59 58 true (.mv (t 7)), og 60 58 true (.mv (t 0)), og 61 58 true (.lenS (t 60)), og 62 58 true (.mv (t 1)), og 63 58 true (.lenS (t 62)), og 64 58 true (.bin .add (t 61) (t 63)), og 65 58 true (.mv (t 5)), og 66 58 true (.lenS (t 65)), og 67 58 true (.bin .mul (k 2) (t 66)), og 68 58 true (.bin .sub (t 64) (t 67)), og 69 58 true (.bin .leq (t 59) (t 68)), o 70 (.pick (t 58) (t 69) (kb false)), o 4 (.mv (t 70))])
 (.fz [4] .ret))))))
def q64_F : VFn := ⟨true, 71, [.t 4], q64_c⟩
def q64_f (lo : Lo) : FnE := ⟨566, true, ⟨[0, 1], [.s, .s], [], (cs [.s, .s])⟩, .b, [], (cs [.b]), (fun x => q64 lo x.1 x.2 : ByteArray × ByteArray → Option Bool)⟩
theorem q64_e (lo : Lo) : ∀ x : ByteArray × ByteArray, evP (⟨pf, fs64 lo, [], 0⟩ : Tabs) q64_F ⟨[0, 1], [.s, .s], [], (cs [.s, .s])⟩ (.b) (cs [.b]) x = q64 lo x.1 x.2 := fun x => by kernel_rfl
theorem q64_S {P : Program} {fm : FM} {lo : Lo} (hlo : LoOK lo) (hS : Sound P fm ⟨pf, fs64 lo, [], 0⟩) (hm : P.follows .mixedOrders = true) (htie : ∀ f, fm f = 566 → fnTr P fm pf f = some (q64_F.slots, q64_F.res, q64_F.code.er)) : Sound P fm ⟨pf, q64_f lo :: fs64 lo, [], 0⟩ :=
  fn_sound hS hm [] (q64_f lo) rfl q64_F htie (by decide) rfl (Nat.le_of_ble_eq_true (by kernel_rfl)) (fun C hT => show LsOK (fun _ => False) [] C (⟨pf, fs64 lo, [], 0⟩ : Tabs) q64_c from ⟨trivial, ⟨⟨trivial, ⟨⟨trivial, trivial⟩, trivial⟩⟩, ⟨trivial, ⟨trivial, ⟨trivial, trivial⟩⟩⟩⟩⟩) (fun x y h => (q64_e lo x).trans h)
def fs65 (lo : Lo) : List FnE := q64_f lo :: fs64 lo
def q65 (lo : Lo) (a0 : ByteArray) (b1 : ByteArray) (most2 : Int) : Option (Bool × Int) :=
  Option.bind (q5 lo a0 b1) fun y298 => bif (decide (y298.2 = (0 : Int))) then (some ((decide (y298.1 ≤ most2)), y298.2)) else (some (false, y298.2))
def q65_c : VCode :=
 (.seq (.reg [o 6 (.mv (kb false)), o 7 (.mv (k 0))])
 (.seq (.reg [o 11 (.mv (t 0)), o 12 (.mv (t 1)), o 13 (.call 571 [(t 11), (t 12)]), o 10 (.mv (t 13)), o 14 (.ext (t 10) 0), o 15 (.ext (t 10) 1), o 8 (.mv (t 14)), o 9 (.mv (t 15))])
 (.seq (.reg [o 16 (.mv (t 9)), o 17 (.bin .eql (t 16) (k 0)), o 18 (.mv (t 17)), og 19 18 true (.mv (t 8)), og 20 18 true (.mv (t 2)), og 21 18 true (.bin .leq (t 19) (t 20)), o 22 (.pick (t 18) (t 21) (kb false)), o 23 (.mv (t 9)), o 6 (.mv (t 22)), o 7 (.mv (t 23))])
 (.fz [6, 7] .ret))))
def q65_F : VFn := ⟨true, 24, [.t 6, .t 7], q65_c⟩
def q65_f (lo : Lo) : FnE := ⟨584, true, ⟨[0, 1, 2], [.s, .s, .i .i64], [], (cs [.s, .s, I])⟩, .tp [.b, .i .i64], [], (cs [.b, I]), (fun x => q65 lo x.1 x.2.1 x.2.2 : ByteArray × ByteArray × Int → Option (Bool × Int))⟩
theorem q65_e (lo : Lo) : ∀ x : ByteArray × ByteArray × Int, evP (⟨pf, fs65 lo, [], 0⟩ : Tabs) q65_F ⟨[0, 1, 2], [.s, .s, .i .i64], [], (cs [.s, .s, I])⟩ (.tp [.b, .i .i64]) (cs [.b, I]) x = q65 lo x.1 x.2.1 x.2.2 := fun x => by kernel_rfl
theorem q65_S {P : Program} {fm : FM} {lo : Lo} (hlo : LoOK lo) (hS : Sound P fm ⟨pf, fs65 lo, [], 0⟩) (hm : P.follows .mixedOrders = true) (htie : ∀ f, fm f = 584 → fnTr P fm pf f = some (q65_F.slots, q65_F.res, q65_F.code.er)) : Sound P fm ⟨pf, q65_f lo :: fs65 lo, [], 0⟩ :=
  fn_sound hS hm [] (q65_f lo) rfl q65_F htie (by decide) rfl (Nat.le_of_ble_eq_true (by kernel_rfl)) (fun C hT => show LsOK (fun _ => False) [] C (⟨pf, fs65 lo, [], 0⟩ : Tabs) q65_c from ⟨trivial, ⟨trivial, ⟨trivial, trivial⟩⟩⟩) (fun x y h => (q65_e lo x).trans h)
def fs66 (lo : Lo) : List FnE := q65_f lo :: fs65 lo
def q66_L20_b : VCode :=
 (.seq (.seq (.reg [o 11 (.mv (t 6)), o 12 (.mv (t 1)), o 13 (.lenS (t 12)), o 14 (.bin .leq (t 11) (t 13))])
 (.cond (t 14) .skip
 (.exit 0)))
 (.seq (.blk 1 (.reg [o 17 (.mv (t 5)), o 18 (.mv (t 6)), o 19 (.bsl (cs [I]) 1 [(0, (t 18))]), o 20 (.app (cs [I]) 0 (t 17) (t 19)), o 5 (.mv (t 20))]))
 (.reg [o 15 (.mv (t 6)), o 16 (.bin .add (t 15) (k 1)), o 6 (.mv (t 16))])))
def q66_L20_g : Sg := ⟨[0, 1, 5, 6], [.s, .s, .ref 0, .i .i64], [.sq (cs [I])], (cs [.s, .s, I, .l (cs [I])])⟩
def q66_L20_o : List Out1 := [⟨.exit 0, ⟨[0, 1, 5], [.s, .s, .ref 0], [.sq (cs [I])], (cs [.s, .s, .l (cs [I])])⟩⟩]
def q66_L20_s (lo : Lo) : ByteArray × ByteArray × Int × (List Int) → Option ((ByteArray × ByteArray × Int × (List Int)) ⊕ ((ByteArray × ByteArray × (List Int)))) := fun x => match x with
  | (a0, b1, k6, d5) => bif (decide (k6 ≤ (b1.size : Int))) then (chk (d5.length + [k6].length ≤ maxEl) (some (.inl (a0, b1, (IntKind.wrap .i64 (k6 + (1 : Int))), (d5 ++ [k6]))))) else (some (.inr (a0, b1, d5)))
theorem q66_L20_e (lo : Lo) : ∀ x : ByteArray × ByteArray × Int × (List Int), stepL (⟨pf, fs66 lo, [], 0⟩ : Tabs) [(5, none, false)] q66_L20_g q66_L20_o q66_L20_b x = q66_L20_s lo x := fun x => by kernel_rfl
def q66_L20 (lo : Lo) : ByteArray × ByteArray × Int × (List Int) → Option ((ByteArray × ByteArray × (List Int))) := lo.run (q66_L20_s lo)
def q66_L20_p (lo : Lo) : LpE := ⟨20, [(5, none, false)], q66_L20_g, q66_L20_o, q66_L20 lo⟩
theorem q66_L20_k {lo : Lo} (hlo : LoOK lo) (C : Ctx) (hT : TOK (⟨pf, fs66 lo, [], 0⟩ : Tabs) C) : LpSound (fun _ => False) [] 0 C (.loop q66_L20_b.er) (q66_L20_p lo) :=
  loop_sound (T := (⟨pf, fs66 lo, [], 0⟩ : Tabs)) hT frNo (show LsOK (fun _ => False) [] C (⟨pf, fs66 lo, [], 0⟩ : Tabs) q66_L20_b from ⟨⟨trivial, ⟨trivial, trivial⟩⟩, ⟨trivial, trivial⟩⟩) (fun x y h => loopO_congr (q66_L20_e lo) (hlo _ _ _ h))
def q66_J11_b : VCode :=
 (.reg [o 49 (.mv (t 8)), o 50 (.mv (t 10)), o 51 (.mv (t 5)), o 52 (.mv (t 9)), o 53 (.bin .add (t 52) (k 1)), o 54 (.iad 1 (t 51) (t 53)), o 55 (.load false 1 (t 54)), o 56 (.bin .add (t 55) (k 1)), o 57 (.mv (t 8)), o 58 (.mv (t 9)), o 59 (.iad 1 (t 57) (t 58)), o 60 (.load false 1 (t 59)), o 61 (.bin .add (t 60) (k 1)), o 62 (.mm false [(t 50), (t 56), (t 61)]), o 63 (.bsl (cs [I]) 1 [(0, (t 62))]), o 64 (.app (cs [I]) 0 (t 49) (t 63)), o 8 (.mv (t 64))])
def q66_J11_g : Sg := ⟨[0, 1, 5, 7, 8, 9, 10], [.s, .s, .ref 0, .i .i64, .ref 1, .i .i64, .i .i64], [.sq (cs [I]), .sq (cs [I])], (cs [.s, .s, I, I, I, .l (cs [I]), .l (cs [I])])⟩
def q66_J11_o : List Out1 := [⟨.nor, ⟨[0, 1, 5, 7, 8, 9], [.s, .s, .ref 0, .i .i64, .ref 1, .i .i64], [.sq (cs [I]), .sq (cs [I])], (cs [.s, .s, I, I, .l (cs [I]), .l (cs [I])])⟩⟩]
def q66_J11 (lo : Lo) : ByteArray × ByteArray × Int × Int × Int × (List Int) × (List Int) → Option ((ByteArray × ByteArray × Int × Int × (List Int) × (List Int))) := fun x => match x with
  | (a0, b1, i7, k9, n10, d5, next8) => chk (0 ≤ (IntKind.wrap .i64 (k9 + (1 : Int))) ∧ (IntKind.wrap .i64 (k9 + (1 : Int))) < (d5.length : Int)) (chk (0 ≤ k9 ∧ k9 < (next8.length : Int)) (chk (next8.length + ([(min (min n10 (IntKind.wrap .i64 ((d5.getD ((IntKind.wrap .i64 (k9 + (1 : Int))).toNat) (0 : Int)) + (1 : Int)))) (IntKind.wrap .i64 ((next8.getD k9.toNat (0 : Int)) + (1 : Int))))]).length ≤ maxEl) (some (a0, b1, i7, k9, d5, (next8 ++ ([(min (min n10 (IntKind.wrap .i64 ((d5.getD ((IntKind.wrap .i64 (k9 + (1 : Int))).toNat) (0 : Int)) + (1 : Int)))) (IntKind.wrap .i64 ((next8.getD k9.toNat (0 : Int)) + (1 : Int))))]))))))
theorem q66_J11_e (lo : Lo) : ∀ x : ByteArray × ByteArray × Int × Int × Int × (List Int) × (List Int), stepJ (⟨pf, fs66 lo, [q66_L20_p lo], 0⟩ : Tabs) q66_J11_g q66_J11_o q66_J11_b x = q66_J11 lo x := fun x => by kernel_rfl
def q66_J11_p (lo : Lo) : LpE := ⟨11, [], q66_J11_g, q66_J11_o, q66_J11 lo⟩
theorem q66_J11_k {lo : Lo} (hlo : LoOK lo) (C : Ctx) (hT : TOK (⟨pf, fs66 lo, [q66_L20_p lo], 0⟩ : Tabs) C) : LpSound (fun _ => False) [] 0 C q66_J11_b.er (q66_J11_p lo) :=
  jn_sound (T := (⟨pf, fs66 lo, [q66_L20_p lo], 0⟩ : Tabs)) hT frNo (show LsOK (fun _ => False) [] C (⟨pf, fs66 lo, [q66_L20_p lo], 0⟩ : Tabs) q66_J11_b from trivial) (fun x y h => (q66_J11_e lo x).trans h)
def q66_L6_b : VCode :=
 (.seq (.seq (.reg [o 30 (.mv (t 9)), o 31 (.mv (t 1)), o 32 (.lenS (t 31)), o 33 (.bin .lss (t 30) (t 32))])
 (.cond (t 33) .skip
 (.exit 4)))
 (.seq (.blk 5 (.seq (.reg [o 36 (.mv (t 5)), o 37 (.mv (t 9)), o 38 (.iad 1 (t 36) (t 37)), o 39 (.load false 1 (t 38)), o 10 (.mv (t 39))])
 (.seq (.seq (.reg [o 40 (.mv (t 0)), o 41 (.mv (t 7)), o 42 (.idx (t 40) (t 41)), o 43 (.mv (t 1)), o 44 (.mv (t 9)), o 45 (.idx (t 43) (t 44)), o 46 (.bin .neq (t 42) (t 45))])
 (.cond (t 46) (.reg [o 47 (.mv (t 10)), o 48 (.bin .add (t 47) (k 1)), o 10 (.mv (t 48))])
 .skip))
 (.jn 11 q66_J11_b))))
 (.reg [o 34 (.mv (t 9)), o 35 (.bin .add (t 34) (k 1)), o 9 (.mv (t 35))])))
def q66_L6_g : Sg := ⟨[0, 1, 5, 7, 8, 9], [.s, .s, .ref 0, .i .i64, .ref 1, .i .i64], [.sq (cs [I]), .sq (cs [I])], (cs [.s, .s, I, I, .l (cs [I]), .l (cs [I])])⟩
def q66_L6_o : List Out1 := [⟨.exit 4, ⟨[0, 1, 7, 8], [.s, .s, .i .i64, .ref 0], [.sq (cs [I])], (cs [.s, .s, I, .l (cs [I])])⟩⟩]
def q66_L6_s (lo : Lo) : ByteArray × ByteArray × Int × Int × (List Int) × (List Int) → Option ((ByteArray × ByteArray × Int × Int × (List Int) × (List Int)) ⊕ ((ByteArray × ByteArray × Int × (List Int)))) := fun x => match x with
  | (a0, b1, i7, k9, d5, next8) => bif (decide (k9 < (b1.size : Int))) then (chk (0 ≤ k9 ∧ k9 < (d5.length : Int)) (chk (0 ≤ i7 ∧ i7 < (a0.size : Int)) (chk (0 ≤ k9 ∧ k9 < (b1.size : Int)) (bif (!decide ((byteI a0 i7) = (byteI b1 k9))) then (Option.bind (q66_J11 lo (a0, b1, i7, k9, (IntKind.wrap .i64 ((d5.getD k9.toNat (0 : Int)) + (1 : Int))), d5, next8)) fun y303 => some (.inl (y303.1, y303.2.1, y303.2.2.1, (IntKind.wrap .i64 (y303.2.2.2.1 + (1 : Int))), y303.2.2.2.2.1, y303.2.2.2.2.2))) else (Option.bind (q66_J11 lo (a0, b1, i7, k9, d5.getD k9.toNat (0 : Int), d5, next8)) fun y304 => some (.inl (y304.1, y304.2.1, y304.2.2.1, (IntKind.wrap .i64 (y304.2.2.2.1 + (1 : Int))), y304.2.2.2.2.1, y304.2.2.2.2.2))))))) else (some (.inr (a0, b1, i7, next8)))
theorem q66_L6_e (lo : Lo) : ∀ x : ByteArray × ByteArray × Int × Int × (List Int) × (List Int), stepL (⟨pf, fs66 lo, [q66_J11_p lo, q66_L20_p lo], 0⟩ : Tabs) [] q66_L6_g q66_L6_o q66_L6_b x = q66_L6_s lo x := fun x => by kernel_rfl
def q66_L6 (lo : Lo) : ByteArray × ByteArray × Int × Int × (List Int) × (List Int) → Option ((ByteArray × ByteArray × Int × (List Int))) := lo.run (q66_L6_s lo)
def q66_L6_p (lo : Lo) : LpE := ⟨6, [], q66_L6_g, q66_L6_o, q66_L6 lo⟩
theorem q66_L6_k {lo : Lo} (hlo : LoOK lo) (C : Ctx) (hT : TOK (⟨pf, fs66 lo, [q66_J11_p lo, q66_L20_p lo], 0⟩ : Tabs) C) : LpSound (fun _ => False) [] 0 C (.loop q66_L6_b.er) (q66_L6_p lo) :=
  loop_sound (T := (⟨pf, fs66 lo, [q66_J11_p lo, q66_L20_p lo], 0⟩ : Tabs)) hT frNo (show LsOK (fun _ => False) [] C (⟨pf, fs66 lo, [q66_J11_p lo, q66_L20_p lo], 0⟩ : Tabs) q66_L6_b from ⟨⟨trivial, ⟨trivial, trivial⟩⟩, ⟨⟨trivial, ⟨⟨trivial, ⟨trivial, trivial⟩⟩, (lsGet (by kernel_rfl) (q66_J11_k hlo C (tok_ls hT)))⟩⟩, trivial⟩⟩) (fun x y h => loopO_congr (q66_L6_e lo) (hlo _ _ _ h))
def q66_L3_b : VCode :=
 (.seq (.seq (.reg [o 21 (.mv (t 7)), o 22 (.mv (t 0)), o 23 (.lenS (t 22)), o 24 (.bin .lss (t 21) (t 23))])
 (.cond (t 24) .skip
 (.exit 2)))
 (.seq (.blk 3 (.seq (.reg [o 27 (.mv (t 7)), o 28 (.bin .add (t 27) (k 1)), o 29 (.lit (cs [I]) [(t 28)]), o 8 (.mv (t 29))])
 (.seq (.seq (.reg [o 9 (.mv (k 0))])
 (.blk 4 (.loop 6 q66_L6_b)))
 (.reg [o 65 (.mv (t 8)), o 5 (.mv (t 65))]))))
 (.reg [o 25 (.mv (t 7)), o 26 (.bin .add (t 25) (k 1)), o 7 (.mv (t 26))])))
def q66_L3_g : Sg := ⟨[0, 1, 5, 7], [.s, .s, .ref 0, .i .i64], [.sq (cs [I])], (cs [.s, .s, I, .l (cs [I])])⟩
def q66_L3_o : List Out1 := [⟨.exit 2, ⟨[1, 5], [.s, .ref 0], [.sq (cs [I])], (cs [.s, .l (cs [I])])⟩⟩]
def q66_L3_s (lo : Lo) : ByteArray × ByteArray × Int × (List Int) → Option ((ByteArray × ByteArray × Int × (List Int)) ⊕ ((ByteArray × (List Int)))) := fun x => match x with
  | (a0, b1, i7, d5) => bif (decide (i7 < (a0.size : Int))) then (Option.bind (q66_L6 lo (a0, b1, i7, (0 : Int), d5, [(IntKind.wrap .i64 (i7 + (1 : Int)))])) fun y305 => some (.inl (y305.1, y305.2.1, (IntKind.wrap .i64 (y305.2.2.1 + (1 : Int))), y305.2.2.2))) else (some (.inr (b1, d5)))
theorem q66_L3_e (lo : Lo) : ∀ x : ByteArray × ByteArray × Int × (List Int), stepL (⟨pf, fs66 lo, [q66_L6_p lo, q66_J11_p lo, q66_L20_p lo], 0⟩ : Tabs) [] q66_L3_g q66_L3_o q66_L3_b x = q66_L3_s lo x := fun x => by kernel_rfl
def q66_L3 (lo : Lo) : ByteArray × ByteArray × Int × (List Int) → Option ((ByteArray × (List Int))) := lo.run (q66_L3_s lo)
def q66_L3_p (lo : Lo) : LpE := ⟨3, [], q66_L3_g, q66_L3_o, q66_L3 lo⟩
theorem q66_L3_k {lo : Lo} (hlo : LoOK lo) (C : Ctx) (hT : TOK (⟨pf, fs66 lo, [q66_L6_p lo, q66_J11_p lo, q66_L20_p lo], 0⟩ : Tabs) C) : LpSound (fun _ => False) [] 0 C (.loop q66_L3_b.er) (q66_L3_p lo) :=
  loop_sound (T := (⟨pf, fs66 lo, [q66_L6_p lo, q66_J11_p lo, q66_L20_p lo], 0⟩ : Tabs)) hT frNo (show LsOK (fun _ => False) [] C (⟨pf, fs66 lo, [q66_L6_p lo, q66_J11_p lo, q66_L20_p lo], 0⟩ : Tabs) q66_L3_b from ⟨⟨trivial, ⟨trivial, trivial⟩⟩, ⟨⟨trivial, ⟨⟨trivial, (lsGet (by kernel_rfl) (q66_L6_k hlo C (tok_ls hT)))⟩, trivial⟩⟩, trivial⟩⟩) (fun x y h => loopO_congr (q66_L3_e lo) (hlo _ _ _ h))
def q66 (lo : Lo) (a0 : ByteArray) (b1 : ByteArray) : Option Int :=
  Option.bind (q66_L20 lo (a0, b1, (0 : Int), [])) fun y302 => Option.bind (q66_L3 lo (y302.1, y302.2.1, (0 : Int), y302.2.2)) fun y306 => chk (0 ≤ (y306.1.size : Int) ∧ (y306.1.size : Int) < (y306.2.length : Int)) (some (y306.2.getD ((y306.1.size : Int).toNat) (0 : Int)))
def q66_c : VCode :=
 (.seq (.reg [o 4 (.mv (k 0))])
 (.seq (.reg [o 5 (.mv (ke (cs [I])))])
 (.seq (.seq (.reg [o 6 (.mv (k 0))])
 (.blk 0 (.loop 20 q66_L20_b)))
 (.seq (.seq (.reg [o 7 (.mv (k 0))])
 (.blk 2 (.loop 3 q66_L3_b)))
 (.seq (.reg [o 66 (.mv (t 5)), o 67 (.mv (t 1)), o 68 (.lenS (t 67)), o 69 (.iad 1 (t 66) (t 68)), o 70 (.load false 1 (t 69)), o 4 (.mv (t 70))])
 (.fz [4] .ret))))))
def q66_F : VFn := ⟨true, 71, [.t 4], q66_c⟩
def q66_f (lo : Lo) : FnE := ⟨585, true, ⟨[0, 1], [.s, .s], [], (cs [.s, .s])⟩, .i .i64, [], (cs [I]), (fun x => q66 lo x.1 x.2 : ByteArray × ByteArray → Option Int)⟩
theorem q66_e (lo : Lo) : ∀ x : ByteArray × ByteArray, evP (⟨pf, fs66 lo, [q66_L3_p lo, q66_L6_p lo, q66_J11_p lo, q66_L20_p lo], 0⟩ : Tabs) q66_F ⟨[0, 1], [.s, .s], [], (cs [.s, .s])⟩ (.i .i64) (cs [I]) x = q66 lo x.1 x.2 := fun x => by kernel_rfl
theorem q66_S {P : Program} {fm : FM} {lo : Lo} (hlo : LoOK lo) (hS : Sound P fm ⟨pf, fs66 lo, [], 0⟩) (hm : P.follows .mixedOrders = true) (htie : ∀ f, fm f = 585 → fnTr P fm pf f = some (q66_F.slots, q66_F.res, q66_F.code.er)) : Sound P fm ⟨pf, q66_f lo :: fs66 lo, [], 0⟩ :=
  fn_sound hS hm [q66_L3_p lo, q66_L6_p lo, q66_J11_p lo, q66_L20_p lo] (q66_f lo) rfl q66_F htie (by decide) rfl (Nat.le_of_ble_eq_true (by kernel_rfl)) (fun C hT => show LsOK (fun _ => False) [] C (⟨pf, fs66 lo, [q66_L3_p lo, q66_L6_p lo, q66_J11_p lo, q66_L20_p lo], 0⟩ : Tabs) q66_c from ⟨trivial, ⟨trivial, ⟨⟨trivial, (lsGet (by kernel_rfl) (q66_L20_k hlo C (tok_ls hT)))⟩, ⟨⟨trivial, (lsGet (by kernel_rfl) (q66_L3_k hlo C (tok_ls hT)))⟩, ⟨trivial, trivial⟩⟩⟩⟩⟩) (fun x y h => (q66_e lo x).trans h)
def fs67 (lo : Lo) : List FnE := q66_f lo :: fs66 lo
def q67 (lo : Lo) (a0 : ByteArray) (b1 : ByteArray) (most2 : Int) : Option Bool :=
  Option.bind (q51 lo) fun y289 => bif (!y289) then (Option.bind (q51 lo) fun y290 => some y290) else (bif (decide ((60 : Int) < (a0.size : Int))) then (Option.bind (q53 lo a0) fun y291 => bif (!y291) then (Option.bind (q51 lo) fun y292 => some y292) else (bif (decide ((60 : Int) < (b1.size : Int))) then (Option.bind (q53 lo b1) fun y293 => bif (!y293) then (Option.bind (q51 lo) fun y294 => some y294) else (bif (decide ((300 : Int) < (a0.size : Int))) then (Option.bind (q51 lo) fun y295 => some y295) else (bif (decide ((300 : Int) < (b1.size : Int))) then (Option.bind (q51 lo) fun y296 => some y296) else (Option.bind (q5 lo a0 b1) fun y297 => Option.bind (q65 lo a0 b1 most2) fun y299 => Option.bind (q53 lo a0) fun y300 => bif y300 then (bif (decide (y297.1 = (0 : Int))) then (bif (!y299.1) then (bif (decide (y297.2 = (3 : Int))) then (some (decide (y299.2 = y297.2))) else (some false)) else (some false)) else (some false)) else (Option.bind (q53 lo b1) fun y301 => bif y301 then (bif (decide (y297.1 = (0 : Int))) then (bif (!y299.1) then (bif (decide (y297.2 = (3 : Int))) then (some (decide (y299.2 = y297.2))) else (some false)) else (some false)) else (some false)) else (bif (decide (y297.2 = (0 : Int))) then (Option.bind (q66 lo a0 b1) fun y307 => bif (decide (y297.1 = y307)) then (bif (decide (y299.2 = (0 : Int))) then (some (y299.1 == (decide (y297.1 ≤ most2)))) else (some false)) else (some false)) else (some false))))))) else (bif (decide ((300 : Int) < (a0.size : Int))) then (Option.bind (q51 lo) fun y308 => some y308) else (bif (decide ((300 : Int) < (b1.size : Int))) then (Option.bind (q51 lo) fun y309 => some y309) else (Option.bind (q5 lo a0 b1) fun y310 => Option.bind (q65 lo a0 b1 most2) fun y311 => Option.bind (q53 lo a0) fun y312 => bif y312 then (bif (decide (y310.1 = (0 : Int))) then (bif (!y311.1) then (bif (decide (y310.2 = (3 : Int))) then (some (decide (y311.2 = y310.2))) else (some false)) else (some false)) else (some false)) else (Option.bind (q53 lo b1) fun y313 => bif y313 then (bif (decide (y310.1 = (0 : Int))) then (bif (!y311.1) then (bif (decide (y310.2 = (3 : Int))) then (some (decide (y311.2 = y310.2))) else (some false)) else (some false)) else (some false)) else (bif (decide (y310.2 = (0 : Int))) then (Option.bind (q66 lo a0 b1) fun y314 => bif (decide (y310.1 = y314)) then (bif (decide (y311.2 = (0 : Int))) then (some (y311.1 == (decide (y310.1 ≤ most2)))) else (some false)) else (some false)) else (some false)))))))) else (bif (decide ((60 : Int) < (b1.size : Int))) then (Option.bind (q53 lo b1) fun y315 => bif (!y315) then (Option.bind (q51 lo) fun y316 => some y316) else (bif (decide ((300 : Int) < (a0.size : Int))) then (Option.bind (q51 lo) fun y317 => some y317) else (bif (decide ((300 : Int) < (b1.size : Int))) then (Option.bind (q51 lo) fun y318 => some y318) else (Option.bind (q5 lo a0 b1) fun y319 => Option.bind (q65 lo a0 b1 most2) fun y320 => Option.bind (q53 lo a0) fun y321 => bif y321 then (bif (decide (y319.1 = (0 : Int))) then (bif (!y320.1) then (bif (decide (y319.2 = (3 : Int))) then (some (decide (y320.2 = y319.2))) else (some false)) else (some false)) else (some false)) else (Option.bind (q53 lo b1) fun y322 => bif y322 then (bif (decide (y319.1 = (0 : Int))) then (bif (!y320.1) then (bif (decide (y319.2 = (3 : Int))) then (some (decide (y320.2 = y319.2))) else (some false)) else (some false)) else (some false)) else (bif (decide (y319.2 = (0 : Int))) then (Option.bind (q66 lo a0 b1) fun y323 => bif (decide (y319.1 = y323)) then (bif (decide (y320.2 = (0 : Int))) then (some (y320.1 == (decide (y319.1 ≤ most2)))) else (some false)) else (some false)) else (some false))))))) else (bif (decide ((300 : Int) < (a0.size : Int))) then (Option.bind (q51 lo) fun y324 => some y324) else (bif (decide ((300 : Int) < (b1.size : Int))) then (Option.bind (q51 lo) fun y325 => some y325) else (Option.bind (q5 lo a0 b1) fun y326 => Option.bind (q65 lo a0 b1 most2) fun y327 => Option.bind (q53 lo a0) fun y328 => bif y328 then (bif (decide (y326.1 = (0 : Int))) then (bif (!y327.1) then (bif (decide (y326.2 = (3 : Int))) then (some (decide (y327.2 = y326.2))) else (some false)) else (some false)) else (some false)) else (Option.bind (q53 lo b1) fun y329 => bif y329 then (bif (decide (y326.1 = (0 : Int))) then (bif (!y327.1) then (bif (decide (y326.2 = (3 : Int))) then (some (decide (y327.2 = y326.2))) else (some false)) else (some false)) else (some false)) else (bif (decide (y326.2 = (0 : Int))) then (Option.bind (q66 lo a0 b1) fun y330 => bif (decide (y326.1 = y330)) then (bif (decide (y327.2 = (0 : Int))) then (some (y327.1 == (decide (y326.1 ≤ most2)))) else (some false)) else (some false)) else (some false))))))))
def q67_c : VCode :=
 (.seq (.reg [o 6 (.mv (kb false))])
 (.seq (.seq (.reg [o 11 (.call 570 []), o 12 (.not (t 11)), o 13 (.mv (t 12)), og 14 13 false (.mv (t 0)), og 15 13 false (.lenS (t 14)), og 16 13 false (.bin .gtr (t 15) (k 60)), og 17 13 false (.mv (t 16)), og 18 17 true (.mv (t 0)), og 19 17 true (.call 572 [(t 18)]), og 20 17 true (.not (t 19)), og 21 13 false (.pick (t 17) (t 20) (kb false)), o 22 (.pick (t 13) (kb true) (t 21)), o 23 (.mv (t 22)), og 24 23 false (.mv (t 1)), og 25 23 false (.lenS (t 24)), og 26 23 false (.bin .gtr (t 25) (k 60)), og 27 23 false (.mv (t 26)), og 28 27 true (.mv (t 1)), og 29 27 true (.call 572 [(t 28)]), og 30 27 true (.not (t 29)), og 31 23 false (.pick (t 27) (t 30) (kb false)), o 32 (.pick (t 23) (kb true) (t 31)), o 33 (.mv (t 32)), og 34 33 false (.mv (t 0)), og 35 33 false (.lenS (t 34)), og 36 33 false (.bin .gtr (t 35) (k 300)), o 37 (.pick (t 33) (kb true) (t 36)), o 38 (.mv (t 37)), og 39 38 false (.mv (t 1)), og 40 38 false (.lenS (t 39)), og 41 38 false (.bin .gtr (t 40) (k 300)), o 42 (.pick (t 38) (kb true) (t 41))])
 (.cond (t 42) (.seq (.reg [o 43 (.call 570 []), o 6 (.mv (t 43))])
 (.fz [6] .ret))
 .skip))
 (.seq (.reg [o 45 (.mv (t 0)), o 46 (.mv (t 1)), o 47 (.call 571 [(t 45), (t 46)]), o 44 (.mv (t 47)), o 48 (.ext (t 44) 0), o 49 (.ext (t 44) 1), o 7 (.mv (t 48)), o 8 (.mv (t 49))])
 (.seq (.reg [o 51 (.mv (t 0)), o 52 (.mv (t 1)), o 53 (.mv (t 2)), o 54 (.call 584 [(t 51), (t 52), (t 53)]), o 50 (.mv (t 54)), o 55 (.ext (t 50) 0), o 56 (.ext (t 50) 1), o 9 (.mv (t 55)), o 10 (.mv (t 56))])
 (.seq (.seq (.reg [o 57 (.mv (t 0)), o 58 (.call 572 [(t 57)]), o 59 (.mv (t 58)), og 60 59 false (.mv (t 1)), og 61 59 false (.call 572 [(t 60)]), o 62 (.pick (t 59) (kb true) (t 61))])
 (.cond (t 62) (.seq (.reg [o 63 (.mv (t 7)), o 64 (.bin .eql (t 63) (k 0)), o 65 (.mv (t 64)), og 66 65 true (.mv (t 9)), og 67 65 true (.not (t 66)), o 68 (.pick (t 65) (t 67) (kb false)), o 69 (.mv (t 68)), og 70 69 true (.mv (t 8)), og 71 69 true (.bin .eql (t 70) (k 3)), o 72 (.pick (t 69) (t 71) (kb false)), o 73 (.mv (t 72)), og 74 73 true (.mv (t 10)), og 75 73 true (.mv (t 8)), og 76 73 true (.bin .eql (t 74) (t 75)), o 77 (.pick (t 73) (t 76) (kb false)), o 6 (.mv (t 77))])
 (.fz [6] .ret))
 .skip))
 (.seq (.reg [o 78 (.mv (t 8)), o 79 (.bin .eql (t 78) (k 0)), o 80 (.mv (t 79)), og 81 80 true (.mv (t 7)), og 82 80 true (.mv (t 0)), og 83 80 true (.mv (t 1)), og 84 80 true (.call 585 [(t 82), (t 83)]), og 85 80 true (.bin .eql (t 81) (t 84)), o 86 (.pick (t 80) (t 85) (kb false)), o 87 (.mv (t 86)), og 88 87 true (.mv (t 10)), og 89 87 true (.bin .eql (t 88) (k 0)), o 90 (.pick (t 87) (t 89) (kb false)), o 91 (.mv (t 90)), og 92 91 true (.mv (t 9)), og 93 91 true (.mv (t 7)), og 94 91 true (.mv (t 2)), og 95 91 true (.bin .leq (t 93) (t 94)), og 96 91 true (.beq false (t 92) (t 95)), o 97 (.pick (t 91) (t 96) (kb false)), o 6 (.mv (t 97))])
 (.fz [6] .ret)))))))
def q67_F : VFn := ⟨true, 98, [.t 6], q67_c⟩
def q67_f (lo : Lo) : FnE := ⟨567, true, ⟨[0, 1, 2], [.s, .s, .i .i64], [], (cs [.s, .s, I])⟩, .b, [], (cs [.b]), (fun x => q67 lo x.1 x.2.1 x.2.2 : ByteArray × ByteArray × Int → Option Bool)⟩
theorem q67_e (lo : Lo) : ∀ x : ByteArray × ByteArray × Int, evP (⟨pf, fs67 lo, [], 0⟩ : Tabs) q67_F ⟨[0, 1, 2], [.s, .s, .i .i64], [], (cs [.s, .s, I])⟩ (.b) (cs [.b]) x = q67 lo x.1 x.2.1 x.2.2 := fun x => by kernel_rfl
theorem q67_S {P : Program} {fm : FM} {lo : Lo} (hlo : LoOK lo) (hS : Sound P fm ⟨pf, fs67 lo, [], 0⟩) (hm : P.follows .mixedOrders = true) (htie : ∀ f, fm f = 567 → fnTr P fm pf f = some (q67_F.slots, q67_F.res, q67_F.code.er)) : Sound P fm ⟨pf, q67_f lo :: fs67 lo, [], 0⟩ :=
  fn_sound hS hm [] (q67_f lo) rfl q67_F htie (by decide) rfl (Nat.le_of_ble_eq_true (by kernel_rfl)) (fun C hT => show LsOK (fun _ => False) [] C (⟨pf, fs67 lo, [], 0⟩ : Tabs) q67_c from ⟨trivial, ⟨⟨trivial, ⟨⟨trivial, trivial⟩, trivial⟩⟩, ⟨trivial, ⟨trivial, ⟨⟨trivial, ⟨⟨trivial, trivial⟩, trivial⟩⟩, ⟨trivial, trivial⟩⟩⟩⟩⟩⟩) (fun x y h => (q67_e lo x).trans h)
def fs68 (lo : Lo) : List FnE := q67_f lo :: fs67 lo
end Go.Abs.G52
