/- The law TableParts of chapter 3 returns true for all arguments. Conditions: those of the given statement alone (the arguments are of bulk at most 1048576). -/
import Derived.Test.YtkgoecnchnbbfaaT
import Derived.Test.YtkgoecnchnbbfaaP
import Derived.Test.YtkgoecnchnbbfaaB
import Derived.Test.YtkgoecnchnbbfaaRows
import Derived.JoinedCond
set_option linter.unusedVariables false
set_option linter.unusedSimpArgs false
set_option linter.unusedSectionVars false
open List renaming getElem?_eq_some_iff → YzN, getElem?_eq_getElem → YzO, getElem?_map → YzP, mem_of_getElem? → YzQ, map_cons → YzR, getElem?_append_left → YzS, map_nil → YzT, getElem?_append_right → YzU, getElem?_set_ne → YzV, getD_eq_getElem?_getD → YzW, append_assoc → YzX, length_eq_zero_iff → YzY, getElem?_set_self → YzZ, mem_singleton → Yz0, mem_iff_getElem? → Yz1, mem_cons_self → Yz2, getElem?_take → Yz3, mem_cons → Yz4, mem_map → Yz5, mem_append → Yz6, length_map → Yz7, getElem?_drop → Yz8, all_eq_true → Yz9, getElem?_eq_none → YAa, length_cons → YAb, map_map → YAc, mem_append_left → YAd, cons_append → YAe, getElem?_range → YAf, take_length → YAg, mem_cons_of_mem → YAh, length_append → YAi, mem_iff_getElem → YAj, append_nil → YAk, getElem?_replicate → YAl, ext_getElem? → YAm, nil_append → YAn, mem_filter → YAo, map_append → YAp, any_eq_true → YAq, getElem?_cons_succ → YAr, drop_zero → YAs, pairwise_cons → YAt, getElem_mem → YAu, mem_of_mem_take → YAv, mem_append_right → YAw, getElem?_eq_none_iff → YAx
namespace Go.Proofs.Ytkgoecnchnbbfaa.tableParts
open Go.ChangeShapes Go.WideShapes Go.ChangeAt Go.RowKit Go.Abs
set_option maxRecDepth 100000
theorem own : ownKnob Try.prog.godebug = none := by kernel_rfl
theorem laid : laidOutB Try.prog = true := by kernel_rfl
theorem YzD (H : Type) : BulkOK (Rows.uptoBulk (H := H)) Rows.uptoBulkAll :=
  ⟨fun l => by simp [Rows.uptoBulk], fun e s => by simp only [Rows.uptoBulk]; omega, fun e => by simp only [Rows.uptoBulk]; omega, by simp [Rows.uptoBulk], fun l => by cases l <;> simp [Rows.uptoBulk],
    fun d r => by simp only [Rows.uptoBulkAll]; omega⟩
theorem YyZ (H : Type) (enc : TypeId × Value -> H) (W : World) (base : Nat) (args : Array Value) (ds gs : List (DataW H)) (before : List MemPlace)
    (hval : ∀ (j : Nat) t v, Try.f6.params[j]? = some t -> args[j]? = some v -> Value.okWide Try.prog W .any base t v)
    (hW : DataW.Whole enc Try.prog Try.f6.params.toList Rows.tablePartsSpec.vars false W args.toList ds gs before) (hk : Rows.uptoSmall H (ds ++ gs) = true) :
    Calls Try.prog 6 args W fun e W' => ∃ v, e = .returned v /\ Rows.tablePartsSpec.post enc Try.prog Try.f6 false true false false W args v W' :=
  Yst (G03.S76 Yr3) laid (e := G03.q75_f loO) (Yz2 ..) (by kernel_rfl) (by kernel_rfl) rfl Try.params6 (by kernel_rfl) rfl Try.underlying4 (by kernel_rfl) rfl
    (fun ds hd => match ds, hd with | [_, _], _ => rfl) (YzD H) (N := 1048576) (fun x hr hs => ⟨true, G03.parts_fin x hr, rfl⟩) W base args ds gs before hval hW (of_decide_eq_true hk)
theorem lifted (os : Os) (started : os.Started) (H : Type) (enc : TypeId × Value -> H) (F : Stop.Interp) :
    ReturnsInHanded {} Try.checked os 6 .any ((Rows.OpenSpec.upto Rows.tablePartsSpec).pre6 enc Try.prog Try.f6 Rows.tablePartsUptoRow.domain false) (((Rows.OpenSpec.upto Rows.tablePartsSpec).at F).post enc Try.prog Try.f6 false true false false) := by
  refine returnsInHanded_of_cond (C := Try.checked) (s := Rows.OpenSpec.upto Rows.tablePartsSpec) (k := Rows.uptoSmall) rfl own started (by kernel_rfl) Try.func6
    (OpenSpec.witness (enc := enc) (C := Try.checked) (s := Rows.OpenSpec.upto Rows.tablePartsSpec) (k := Rows.uptoSmall) rfl false ⟨#[], #[.agg #[.int .u8 0, .int .u8 0, .slice none 0 0], .int .u32 0], []⟩ 8 (by kernel_rfl) (by kernel_rfl) (by kernel_rfl)
      (x := ([.agg [.lit (.int .u8 0), .lit (.int .u8 0), .nil], .lit (.int .u32 0)], [], [])) (by kernel_rfl) rfl (by kernel_rfl)) ?_
  intro W base args ds gs before hval hW _ hk _
  exact YyZ H enc W base args ds gs before hval hW hk
theorem said : Rows.TablePartsUptoSaid :=
  OpenClaim.holds_of_cond 6 Try.f6 rfl rfl rfl rfl rfl rfl rfl ⟨rfl, rfl, rfl, rfl, rfl⟩ rfl rfl rfl rfl rfl (by kernel_rfl) Try.func6 (by kernel_rfl)
    (of_decide_eq_true (by kernel_rfl)) (by unfold Func.isWrapper; first | (rw [if_pos (by decide +kernel)]; kernel_rfl) | (rw [if_neg (by decide +kernel)]; exact ⟨rfl, rfl⟩))
    (fun os started H enc _ F => lifted os started H enc F)
end Go.Proofs.Ytkgoecnchnbbfaa.tableParts
