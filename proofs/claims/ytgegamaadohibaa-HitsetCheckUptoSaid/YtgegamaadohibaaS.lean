/- The law HitsetCheck of chapter 39 returns true for all arguments. Conditions: those of the given statement alone (the arguments are of bulk at most 1048576). -/
import Derived.Test.YtgegamaadohibaaT
import Derived.Test.YtgegamaadohibaaP
import Derived.Test.YtgegamaadohibaaB
import Derived.Test.YtgegamaadohibaaRows
import Derived.JoinedCond
set_option linter.unusedVariables false
set_option linter.unusedSimpArgs false
set_option linter.unusedSectionVars false
open List renaming mem_cons_self → YAq
namespace Go.Proofs.Ytgegamaadohibaa.hitsetCheck
open Go.ChangeShapes Go.WideShapes Go.ChangeAt Go.RowKit Go.Abs
set_option maxRecDepth 100000
theorem own:ownKnob Try.prog.godebug=none:=by kernel_rfl
theorem laid:laidOutB Try.prog=true:=by kernel_rfl
theorem Yz5(H:Type):BulkOK (Rows.uptoBulk (H:=H)) Rows.uptoBulkAll:=
  ⟨fun l=>by simp[Rows.uptoBulk],fun e s=>by simp only[Rows.uptoBulk];omega,fun e=>by simp only[Rows.uptoBulk];omega,by simp[Rows.uptoBulk],fun l=>by cases l<;>simp[Rows.uptoBulk],
    fun d r=>by simp only[Rows.uptoBulkAll];omega⟩
theorem Yzm(H:Type)(enc:TypeId×Value->H)(W:World)(base:Nat)(args:Array Value)(ds gs:List (DataW H))(before:List MemPlace)
    (hval: ∀(j:Nat) t v,Try.f10.params[j]?=some t->args[j]?=some v->Value.okWide Try.prog W .any base t v)
    (hW:DataW.Whole enc Try.prog Try.f10.params.toList Rows.hitsetCheckSpec.vars false W args.toList ds gs before) (hk:Rows.uptoSmall H (ds++gs)=true):
    Calls Try.prog 10 args W fun e W'=> ∃v,e= .returned v/\Rows.hitsetCheckSpec.post enc Try.prog Try.f10 false true false false W args v W':=
  Yrx (G39.S92 Yrf).S laid (e:=G39.q91_f loO) (YAq ..) (by kernel_rfl) (by kernel_rfl) rfl Try.params10 (by kernel_rfl) rfl Try.underlying4 (by kernel_rfl) rfl
    (fun ds hd=>match ds,hd with| [_,_,_],_=>rfl) (Yz5 H) (N:=1048576) (fun x hr hs=>⟨true,G39.check_fin x hr,rfl⟩) W base args ds gs before hval hW (of_decide_eq_true hk) (fun p hp=>nomatch hp)
theorem lifted(os:Os)(started:os.Started)(H:Type)(enc:TypeId×Value->H)(F:Stop.Interp):
    ReturnsInHanded {} Try.checked os 10 .any ((Rows.OpenSpec.upto Rows.hitsetCheckSpec).pre6 enc Try.prog Try.f10 Rows.hitsetCheckUptoRow.domain false) (((Rows.OpenSpec.upto Rows.hitsetCheckSpec).at F).post enc Try.prog Try.f10 false true false false):=by
  refine returnsInHanded_of_cond (C:=Try.checked) (s:=Rows.OpenSpec.upto Rows.hitsetCheckSpec) (k:=Rows.uptoSmall) rfl own started (by kernel_rfl) Try.func10
    (OpenSpec.witness (enc:=enc) (C:=Try.checked) (s:=Rows.OpenSpec.upto Rows.hitsetCheckSpec) (k:=Rows.uptoSmall) rfl false ⟨#[], #[.agg #[.slice none 0 0,.slice none 0 0],.int .i8 0,.agg #[.int .u8 0,.int .u8 0,.int .i8 0]],[]⟩ 8 (by kernel_rfl) (by kernel_rfl) (by kernel_rfl)
      (x:=([.agg [.nil,.nil],.lit (.int .i8 0),.agg [.lit (.int .u8 0),.lit (.int .u8 0),.lit (.int .i8 0)]],[],[])) (by kernel_rfl) rfl (by kernel_rfl)) ?_
  intro W base args ds gs before hval hW _ hk _
  exact Yzm H enc W base args ds gs before hval hW hk
theorem said:Rows.HitsetCheckUptoSaid:=
  OpenClaim.holds_of_cond 10 Try.f10 rfl rfl rfl rfl rfl rfl rfl ⟨rfl,rfl,rfl,rfl,rfl⟩ rfl rfl rfl rfl rfl (by kernel_rfl) Try.func10 (by kernel_rfl)
    (of_decide_eq_true (by kernel_rfl)) (by unfold Func.isWrapper;first| (rw[if_pos (by decide+kernel)];kernel_rfl)| (rw[if_neg (by decide+kernel)];exact⟨rfl,rfl⟩))
    (fun os started H enc _ F=>lifted os started H enc F)
end Go.Proofs.Ytgegamaadohibaa.hitsetCheck
