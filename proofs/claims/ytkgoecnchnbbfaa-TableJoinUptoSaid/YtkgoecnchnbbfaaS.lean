/- The law TableJoin of chapter 3 returns true for all arguments. Conditions: those of the given statement alone (the arguments are of bulk at most 1048576). -/
import Derived.Test.YtkgoecnchnbbfaaT
import Derived.Test.YtkgoecnchnbbfaaP
import Derived.Test.YtkgoecnchnbbfaaB
import Derived.Test.YtkgoecnchnbbfaaRows
import Derived.JoinedCond
set_option linter.unusedVariables false
set_option linter.unusedSimpArgs false
set_option linter.unusedSectionVars false
open List renaming getElem?_eq_some_iff → YBc, getElem?_eq_getElem → YBd, mem_of_getElem? → YBe, getElem?_map → YBf, map_cons → YBg, getElem?_append_left → YBh, map_nil → YBi, getElem?_append_right → YBj, append_assoc → YBk, getElem?_set_ne → YBl, getD_eq_getElem?_getD → YBm, length_eq_zero_iff → YBn, getElem?_set_self → YBo, mem_cons_self → YBp, mem_iff_getElem? → YBq, mem_cons → YBr, mem_singleton → YBs, getElem?_take → YBt, getElem?_drop → YBu, getElem?_eq_none → YBv, mem_map → YBw, length_cons → YBx, mem_append → YBy, all_eq_true → YBz, length_map → YBA, mem_cons_of_mem → YBB, mem_append_left → YBC, append_nil → YBD, cons_append → YBE, getElem?_range → YBF, mem_iff_getElem → YBG, take_length → YBH, ext_getElem? → YBI, map_map → YBJ, getElem?_replicate → YBK, nil_append → YBL, mem_filter → YBM, length_append → YBN, drop_zero → YBO, getElem?_cons_succ → YBP, any_eq_true → YBQ, getElem_mem → YBR, mem_append_right → YBS, getElem?_eq_none_iff → YBT, pairwise_cons → YBU
namespace Go.Proofs.Ytkgoecnchnbbfaa.tableJoin
open Go.ChangeShapes Go.WideShapes Go.ChangeAt Go.RowKit Go.Abs
set_option maxRecDepth 100000
theorem own : ownKnob Try.prog.godebug = none := by kernel_rfl
theorem laid : laidOutB Try.prog = true := by kernel_rfl
theorem YA2 (H : Type) : BulkOK (Rows.uptoBulk (H := H)) Rows.uptoBulkAll :=
  ⟨fun l => by simp [Rows.uptoBulk], fun e s => by simp only [Rows.uptoBulk]; omega, fun e => by simp only [Rows.uptoBulk]; omega, by simp [Rows.uptoBulk], fun l => by cases l <;> simp [Rows.uptoBulk],
    fun d r => by simp only [Rows.uptoBulkAll]; omega⟩
theorem YAl (H : Type) (enc : TypeId × Value -> H) (W : World) (base : Nat) (args : Array Value) (ds gs : List (DataW H)) (before : List MemPlace)
    (hval : ∀ (j : Nat) t v, Try.f5.params[j]? = some t -> args[j]? = some v -> Value.okWide Try.prog W .any base t v)
    (hW : DataW.Whole enc Try.prog Try.f5.params.toList Rows.tableJoinSpec.vars false W args.toList ds gs before) (hk : Rows.uptoSmall H (ds ++ gs) = true) :
    Calls Try.prog 5 args W fun e W' => ∃ v, e = .returned v /\ Rows.tableJoinSpec.post enc Try.prog Try.f5 false true false false W args v W' :=
  Ytv (G03.S71 Ys5) laid (e := G03.q70_f loO) (YBp ..) (by kernel_rfl) (by kernel_rfl) rfl Try.params5 (by kernel_rfl) rfl Try.underlying4 (by kernel_rfl) rfl
    (fun ds hd => match ds, hd with | [_, _], _ => rfl) (YA2 H) (N := 1048576) (fun x hr hs => ⟨true, G03.join_fin x hr hs, rfl⟩) W base args ds gs before hval hW (of_decide_eq_true hk)
theorem lifted (os : Os) (started : os.Started) (H : Type) (enc : TypeId × Value -> H) (F : Stop.Interp) :
    ReturnsInHanded {} Try.checked os 5 .any ((Rows.OpenSpec.upto Rows.tableJoinSpec).pre6 enc Try.prog Try.f5 Rows.tableJoinUptoRow.domain false) (((Rows.OpenSpec.upto Rows.tableJoinSpec).at F).post enc Try.prog Try.f5 false true false false) := by
  refine returnsInHanded_of_cond (C := Try.checked) (s := Rows.OpenSpec.upto Rows.tableJoinSpec) (k := Rows.uptoSmall) rfl own started (by kernel_rfl) Try.func5
    (OpenSpec.witness (enc := enc) (C := Try.checked) (s := Rows.OpenSpec.upto Rows.tableJoinSpec) (k := Rows.uptoSmall) rfl false ⟨#[], #[.agg #[.string (ByteArray.mk #[]), .slice none 0 0, .slice none 0 0], .agg #[.string (ByteArray.mk #[]), .slice none 0 0, .slice none 0 0]], []⟩ 8 (by kernel_rfl) (by kernel_rfl) (by kernel_rfl)
      (x := ([.agg [.lit (.string []), .nil, .nil], .agg [.lit (.string []), .nil, .nil]], [], [])) (by kernel_rfl) rfl (by kernel_rfl)) ?_
  intro W base args ds gs before hval hW _ hk _
  exact YAl H enc W base args ds gs before hval hW hk
theorem said : Rows.TableJoinUptoSaid :=
  OpenClaim.holds_of_cond 5 Try.f5 rfl rfl rfl rfl rfl rfl rfl ⟨rfl, rfl, rfl, rfl, rfl⟩ rfl rfl rfl rfl rfl (by kernel_rfl) Try.func5 (by kernel_rfl)
    (of_decide_eq_true (by kernel_rfl)) (by unfold Func.isWrapper; first | (rw [if_pos (by decide +kernel)]; kernel_rfl) | (rw [if_neg (by decide +kernel)]; exact ⟨rfl, rfl⟩))
    (fun os started H enc _ F => lifted os started H enc F)
end Go.Proofs.Ytkgoecnchnbbfaa.tableJoin
