/- The law TableDelete of chapter 3 returns true for all arguments. Conditions: those of the given statement alone (the arguments are of bulk at most 1048576). -/
import Derived.Test.YtkgoecnchnbbfaaT
import Derived.Test.YtkgoecnchnbbfaaP
import Derived.Test.YtkgoecnchnbbfaaB
import Derived.Test.YtkgoecnchnbbfaaRows
import Derived.JoinedCond
set_option linter.unusedVariables false
set_option linter.unusedSimpArgs false
set_option linter.unusedSectionVars false
namespace Go.Proofs.Ytkgoecnchnbbfaa.tableDelete
open Go.ChangeShapes Go.WideShapes Go.ChangeAt Go.RowKit Go.Abs
set_option maxRecDepth 100000
theorem own : ownKnob Try.prog.godebug = none := by kernel_rfl
theorem laid : laidOutB Try.prog = true := by kernel_rfl
theorem bulkOK (H : Type) : BulkOK (Rows.uptoBulk (H := H)) Rows.uptoBulkAll :=
  ⟨fun l => by simp [Rows.uptoBulk], fun e s => by simp only [Rows.uptoBulk]; omega, fun e => by simp only [Rows.uptoBulk]; omega, by simp [Rows.uptoBulk], fun l => by cases l <;> simp [Rows.uptoBulk],
    fun d r => by simp only [Rows.uptoBulkAll]; omega⟩
theorem contract (H : Type) (enc : TypeId × Value -> H) (W : World) (base : Nat) (args : Array Value) (ds gs : List (DataW H)) (before : List MemPlace)
    (hval : ∀ (j : Nat) t v, Try.f10.params[j]? = some t -> args[j]? = some v -> Value.okWide Try.prog W .any base t v)
    (hW : DataW.Whole enc Try.prog Try.f10.params.toList Rows.tableDeleteSpec.vars false W args.toList ds gs before) (hk : Rows.uptoSmall H (ds ++ gs) = true) :
    Calls Try.prog 10 args W fun e W' => ∃ v, e = .returned v /\ Rows.tableDeleteSpec.post enc Try.prog Try.f10 false true false false W args v W' :=
  law_contract (G03.S100 loO_ok) laid (e := G03.q99_f loO) (List.mem_cons_self ..) (by kernel_rfl) (by kernel_rfl) rfl Try.params10 (by kernel_rfl) rfl Try.underlying4 (by kernel_rfl) rfl
    (fun ds hd => match ds, hd with | [_, _], _ => rfl) (bulkOK H) (N := 1048576) (fun x hr hs => ⟨true, G03.delete_law x.1 x.2.1 x.2.2.1 x.2.2.2 (G03.szR (sz3 hs)), rfl⟩) W base args ds gs before hval hW (of_decide_eq_true hk)
theorem lifted (os : Os) (started : os.Started) (H : Type) (enc : TypeId × Value -> H) (F : Stop.Interp) :
    ReturnsInHanded {} Try.checked os 10 .any ((Rows.OpenSpec.upto Rows.tableDeleteSpec).pre6 enc Try.prog Try.f10 Rows.tableDeleteUptoRow.domain false) (((Rows.OpenSpec.upto Rows.tableDeleteSpec).at F).post enc Try.prog Try.f10 false true false false) := by
  refine returnsInHanded_of_cond (C := Try.checked) (s := Rows.OpenSpec.upto Rows.tableDeleteSpec) (k := Rows.uptoSmall) rfl own started (by kernel_rfl) Try.func10
    (OpenSpec.witness (enc := enc) (C := Try.checked) (s := Rows.OpenSpec.upto Rows.tableDeleteSpec) (k := Rows.uptoSmall) rfl false ⟨#[], #[.agg #[.string (ByteArray.mk #[]), .slice none 0 0, .slice none 0 0], .int .i64 0], []⟩ 8 (by kernel_rfl) (by kernel_rfl) (by kernel_rfl)
      (x := ([.agg [.lit (.string []), .nil, .nil], .lit (.int .i64 0)], [], [])) (by kernel_rfl) rfl (by kernel_rfl)) ?_
  intro W base args ds gs before hval hW _ hk _
  exact contract H enc W base args ds gs before hval hW hk
theorem said : Rows.TableDeleteUptoSaid :=
  OpenClaim.holds_of_cond 10 Try.f10 rfl rfl rfl rfl rfl rfl rfl ⟨rfl, rfl, rfl, rfl, rfl⟩ rfl rfl rfl rfl rfl (by kernel_rfl) Try.func10 (by kernel_rfl)
    (of_decide_eq_true (by kernel_rfl)) (by unfold Func.isWrapper; first | (rw [if_pos (by decide +kernel)]; kernel_rfl) | (rw [if_neg (by decide +kernel)]; exact ⟨rfl, rfl⟩))
    (fun os started H enc _ F => lifted os started H enc F)
end Go.Proofs.Ytkgoecnchnbbfaa.tableDelete
