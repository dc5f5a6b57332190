/- The law IndexMemory of chapter 35 returns true for all arguments. Conditions: those of the given statement alone (the arguments are of bulk at most 1048576). -/
import Derived.Test.YtgjoneiojhakgaaT
import Derived.Test.YtgjoneiojhakgaaP
import Derived.Test.YtgjoneiojhakgaaB
import Derived.Test.YtgjoneiojhakgaaRows
import Derived.JoinedCond
set_option linter.unusedVariables false
set_option linter.unusedSimpArgs false
set_option linter.unusedSectionVars false
open List renaming mem_cons_self → YCl
namespace Go.Proofs.Ytgjoneiojhakgaa.indexMemory
open Go.ChangeShapes Go.WideShapes Go.ChangeAt Go.RowKit Go.Abs
set_option maxRecDepth 100000
theorem own:ownKnob Try.prog.godebug=none:=by kernel_rfl
theorem laid:laidOutB Try.prog=true:=by kernel_rfl
theorem YBY(H:Type):BulkOK (Rows.uptoBulk (H:=H)) Rows.uptoBulkAll:=
  ⟨fun l=>by simp[Rows.uptoBulk],fun e s=>by simp only[Rows.uptoBulk];omega,fun e=>by simp only[Rows.uptoBulk];omega,by simp[Rows.uptoBulk],fun l=>by cases l<;>simp[Rows.uptoBulk],
    fun d r=>by simp only[Rows.uptoBulkAll];omega⟩
theorem YA5(H:Type)(enc:TypeId×Value->H)(W:World)(base:Nat)(args:Array Value)(ds gs:List (DataW H))(before:List MemPlace)
    (hval: ∀(j:Nat) t v,Try.f9.params[j]?=some t->args[j]?=some v->Value.okWide Try.prog W .any base t v)
    (hW:DataW.Whole enc Try.prog Try.f9.params.toList Rows.indexMemorySpec.vars false W args.toList ds gs before) (hk:Rows.uptoSmall H (ds++gs)=true):
    Calls Try.prog 9 args W fun e W'=> ∃v,e= .returned v/\Rows.indexMemorySpec.post enc Try.prog Try.f9 false true false false W args v W':=
  YsB (G3m.S101 Ysd).S laid (e:=G3m.q100_f loO) (YCl ..) (by kernel_rfl) (by kernel_rfl) rfl Try.params9 (by kernel_rfl) rfl Try.underlying4 (by kernel_rfl) rfl
    (fun ds hd=>match ds,hd with| [_,_,_],_=>rfl) (YBY H) (N:=1048576) (fun x hr hs=>⟨true,G3m.memory_fin x hr hs,rfl⟩) W base args ds gs before hval hW (of_decide_eq_true hk) (fun p hp=>nomatch hp)
theorem lifted(os:Os)(started:os.Started)(H:Type)(enc:TypeId×Value->H)(F:Stop.Interp):
    ReturnsInHanded {} Try.checked os 9 .any ((Rows.OpenSpec.upto Rows.indexMemorySpec).pre6 enc Try.prog Try.f9 Rows.indexMemoryUptoRow.domain false) (((Rows.OpenSpec.upto Rows.indexMemorySpec).at F).post enc Try.prog Try.f9 false true false false):=by
  refine returnsInHanded_of_cond (C:=Try.checked) (s:=Rows.OpenSpec.upto Rows.indexMemorySpec) (k:=Rows.uptoSmall) rfl own started (by kernel_rfl) Try.func9
    (OpenSpec.witness (enc:=enc) (C:=Try.checked) (s:=Rows.OpenSpec.upto Rows.indexMemorySpec) (k:=Rows.uptoSmall) rfl false ⟨#[], #[.agg #[.int .u8 0,.int .u32 0],.slice none 0 0,.int .u8 0],[]⟩ 8 (by kernel_rfl) (by kernel_rfl) (by kernel_rfl)
      (x:=([.agg [.lit (.int .u8 0),.lit (.int .u32 0)],.nil,.lit (.int .u8 0)],[],[])) (by kernel_rfl) rfl (by kernel_rfl)) ?_
  intro W base args ds gs before hval hW _ hk _
  exact YA5 H enc W base args ds gs before hval hW hk
theorem said:Rows.IndexMemoryUptoSaid:=
  OpenClaim.holds_of_cond 9 Try.f9 rfl rfl rfl rfl rfl rfl rfl ⟨rfl,rfl,rfl,rfl,rfl⟩ rfl rfl rfl rfl rfl (by kernel_rfl) Try.func9 (by kernel_rfl)
    (of_decide_eq_true (by kernel_rfl)) (by unfold Func.isWrapper;first| (rw[if_pos (by decide+kernel)];kernel_rfl)| (rw[if_neg (by decide+kernel)];exact⟨rfl,rfl⟩))
    (fun os started H enc _ F=>lifted os started H enc F)
end Go.Proofs.Ytgjoneiojhakgaa.indexMemory
