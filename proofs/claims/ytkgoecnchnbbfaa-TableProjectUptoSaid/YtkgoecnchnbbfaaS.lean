/- The law TableProject of chapter 3 returns true for all arguments. Conditions: those of the given statement alone (the arguments are of bulk at most 1048576). -/
import Derived.Test.YtkgoecnchnbbfaaT
import Derived.Test.YtkgoecnchnbbfaaP
import Derived.Test.YtkgoecnchnbbfaaB
import Derived.Test.YtkgoecnchnbbfaaRows
import Derived.JoinedCond
set_option linter.unusedVariables false
set_option linter.unusedSimpArgs false
set_option linter.unusedSectionVars false
open List renaming getElem?_eq_some_iff → YxR, getElem?_eq_getElem → YxS, mem_of_getElem? → YxT, getElem?_map → YxU, map_cons → YxV, getElem?_append_left → YxW, map_nil → YxX, getElem?_append_right → YxY, getElem?_set_ne → YxZ, length_eq_zero_iff → Yx0, getElem?_set_self → Yx1, mem_iff_getElem? → Yx2, getElem?_take → Yx3, mem_cons_self → Yx4, mem_singleton → Yx5, getElem?_eq_none → Yx6, mem_cons → Yx7, append_assoc → Yx8, getElem?_drop → Yx9, all_eq_true → Yya, length_cons → Yyb, getD_eq_getElem?_getD → Yyc, cons_append → Yyd, getElem?_range → Yye, mem_map → Yyf, length_map → Yyg, take_length → Yyh, mem_cons_of_mem → Yyi, map_map → Yyj, mem_append → Yyk, getElem?_replicate → Yyl, ext_getElem? → Yym, mem_iff_getElem → Yyn, nil_append → Yyo, mem_filter → Yyp, append_nil → Yyq, any_eq_true → Yyr, drop_zero → Yys, getElem?_cons_succ → Yyt, getElem_mem → Yyu, mem_append_left → Yyv, getElem?_eq_none_iff → Yyw
namespace Go.Proofs.Ytkgoecnchnbbfaa.tableProject
open Go.ChangeShapes Go.WideShapes Go.ChangeAt Go.RowKit Go.Abs
set_option maxRecDepth 100000
theorem own : ownKnob Try.prog.godebug = none := by kernel_rfl
theorem laid : laidOutB Try.prog = true := by kernel_rfl
theorem bulkOK (H : Type) : BulkOK (Rows.uptoBulk (H := H)) Rows.uptoBulkAll :=
  ⟨fun l => by simp [Rows.uptoBulk], fun e s => by simp only [Rows.uptoBulk]; omega, fun e => by simp only [Rows.uptoBulk]; omega, by simp [Rows.uptoBulk], fun l => by cases l <;> simp [Rows.uptoBulk],
    fun d r => by simp only [Rows.uptoBulkAll]; omega⟩
theorem contract (H : Type) (enc : TypeId × Value -> H) (W : World) (base : Nat) (args : Array Value) (ds gs : List (DataW H)) (before : List MemPlace)
    (hval : ∀ (j : Nat) t v, Try.f4.params[j]? = some t -> args[j]? = some v -> Value.okWide Try.prog W .any base t v)
    (hW : DataW.Whole enc Try.prog Try.f4.params.toList Rows.tableProjectSpec.vars false W args.toList ds gs before) (hk : Rows.uptoSmall H (ds ++ gs) = true) :
    Calls Try.prog 4 args W fun e W' => ∃ v, e = .returned v /\ Rows.tableProjectSpec.post enc Try.prog Try.f4 false true false false W args v W' :=
  Ys2 (G03.S68 Ysx) laid (e := G03.q67_f loO) (Yx4 ..) (by kernel_rfl) (by kernel_rfl) rfl Try.params4 (by kernel_rfl) rfl Try.underlying4 (by kernel_rfl) rfl
    (fun ds hd => match ds, hd with | [_, _], _ => rfl) (bulkOK H) (N := 1048576) (fun x hr hs => ⟨true, G03.project_fin x hr hs, rfl⟩) W base args ds gs before hval hW (of_decide_eq_true hk)
theorem lifted (os : Os) (started : os.Started) (H : Type) (enc : TypeId × Value -> H) (F : Stop.Interp) :
    ReturnsInHanded {} Try.checked os 4 .any ((Rows.OpenSpec.upto Rows.tableProjectSpec).pre6 enc Try.prog Try.f4 Rows.tableProjectUptoRow.domain false) (((Rows.OpenSpec.upto Rows.tableProjectSpec).at F).post enc Try.prog Try.f4 false true false false) := by
  refine returnsInHanded_of_cond (C := Try.checked) (s := Rows.OpenSpec.upto Rows.tableProjectSpec) (k := Rows.uptoSmall) rfl own started (by kernel_rfl) Try.func4
    (OpenSpec.witness (enc := enc) (C := Try.checked) (s := Rows.OpenSpec.upto Rows.tableProjectSpec) (k := Rows.uptoSmall) rfl false ⟨#[], #[.agg #[.string (ByteArray.mk #[]), .slice none 0 0, .slice none 0 0], .int .u32 0], []⟩ 8 (by kernel_rfl) (by kernel_rfl) (by kernel_rfl)
      (x := ([.agg [.lit (.string []), .nil, .nil], .lit (.int .u32 0)], [], [])) (by kernel_rfl) rfl (by kernel_rfl)) ?_
  intro W base args ds gs before hval hW _ hk _
  exact contract H enc W base args ds gs before hval hW hk
theorem said : Rows.TableProjectUptoSaid :=
  OpenClaim.holds_of_cond 4 Try.f4 rfl rfl rfl rfl rfl rfl rfl ⟨rfl, rfl, rfl, rfl, rfl⟩ rfl rfl rfl rfl rfl (by kernel_rfl) Try.func4 (by kernel_rfl)
    (of_decide_eq_true (by kernel_rfl)) (by unfold Func.isWrapper; first | (rw [if_pos (by decide +kernel)]; kernel_rfl) | (rw [if_neg (by decide +kernel)]; exact ⟨rfl, rfl⟩))
    (fun os started H enc _ F => lifted os started H enc F)
end Go.Proofs.Ytkgoecnchnbbfaa.tableProject
