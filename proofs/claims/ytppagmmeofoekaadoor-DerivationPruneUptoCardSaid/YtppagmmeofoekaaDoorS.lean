/- The law DerivationPrune of chapter 12 returns true for all arguments. Conditions: those of the given statement alone (the arguments are of bulk at most 1048576; the listed variables of the library start as the text lays them). -/
import Derived.Test.YtppagmmeofoekaaDoorT
import Derived.Test.YtppagmmeofoekaaDoorP
import Derived.Test.YtppagmmeofoekaaDoorB
import Derived.LaidSub
import Derived.Test.YtppagmmeofoekaaDoorRows
import Derived.Test.YtppagmmeofoekaaDoorCards
import Derived.Test.YtppagmmeofoekaaDoorTie
import Derived.JoinedCond
import Derived.SevenTiedAt
set_option linter.unusedVariables false
set_option linter.unusedSimpArgs false
set_option linter.unusedSectionVars false
open List renaming mem_of_getElem? → YwQ, all_eq_true → Yw1, mem_cons_self → Yw6
namespace Go.Proofs.YtppagmmeofoekaaDoor.derivationPrune
open Go.ChangeShapes Go.WideShapes Go.ChangeAt Go.RowKit Go.Abs
set_option maxRecDepth 100000
theorem own:ownKnob Tryd.prog.godebug=none:=by kernel_rfl
theorem laid:laidOutB Tryd.prog=true:=by kernel_rfl
theorem YwJ(H:Type):BulkOK (Rows.uptoBulk (H:=H)) Rows.uptoBulkAll:=
  ⟨fun l=>by simp[Rows.uptoBulk],fun e s=>by simp only[Rows.uptoBulk];omega,fun e=>by simp only[Rows.uptoBulk];omega,by simp[Rows.uptoBulk],fun l=>by cases l<;>simp[Rows.uptoBulk],
    fun d r=>by simp only[Rows.uptoBulkAll];omega⟩
theorem contract(H:Type)(enc:TypeId×Value->H)(W:World)(base:Nat)(args:Array Value)(ds gs:List (DataW H))(before:List MemPlace)
    (hval: ∀(j:Nat) t v,Tryd.f7.params[j]?=some t->args[j]?=some v->Value.okWide Tryd.prog W .any base t v)
    (hW:DataW.Whole enc Tryd.prog Tryd.f7.params.toList Rows.derivationPruneSpec.vars false W args.toList ds gs before) (hk:Rows.uptoSmall H (ds++gs)=true) (hX:laidMetH Tryd.prog Rows.derivationPruneUptoRow.laid W.memory):
    Calls Tryd.prog 7 args W fun e W'=> ∃v,e= .returned v/\Rows.derivationPruneSpec.post enc Tryd.prog Tryd.f7 false true false false W args v W':=
  YpV (G1p.S58 YpA).S laid (e:=G1p.q57_f loO) (Yw6 ..) (by kernel_rfl) (by kernel_rfl) rfl Tryd.params7 (by kernel_rfl) rfl Tryd.underlying4 (by kernel_rfl) rfl
    (fun ds hd=>match ds,hd with| [_,_],_=>rfl) (YwJ H) (N:=1048576) (fun x hr hs=>⟨true,G1p.prune_fin x hr hs,rfl⟩) W base args ds gs before hval hW (of_decide_eq_true hk) (fun _ h=>(List.not_mem_nil h).elim)
theorem YtH(os:Os)(args:Array Value):laidMetH Tryd.prog Rows.derivationPruneUptoRow.laid ((World.doorLaid Tryd.prog 400 os).forCall (fun _ _=>0) ⟨#[],args,[]⟩).memory:=
  laidMetH_of_parts3 (fuel:=8) (laidMet_of_run' 8 (by kernel_rfl) (by kernel_rfl)) (by kernel_rfl) (by kernel_rfl)
theorem lifted(os:Os)(started:os.Started)(H:Type)(enc:TypeId×Value->H)(F:Stop.Interp):
    ReturnsInHanded {} Tryd.checked os 7 .any (fun w args=>((Rows.OpenSpec.upto Rows.derivationPruneSpec).pre enc Tryd.prog Tryd.f7 Rows.derivationPruneUptoRow.domain false w args/\laidMetH Tryd.prog Rows.derivationPruneUptoRow.laid w)/\sizedMet enc Tryd.prog Tryd.f7 (Rows.OpenSpec.upto Rows.derivationPruneSpec) false w args) (((Rows.OpenSpec.upto Rows.derivationPruneSpec).at F).post enc Tryd.prog Tryd.f7 false true false false):=by
  refine YpZ (C:=Tryd.checked) (s:=Rows.OpenSpec.upto Rows.derivationPruneSpec) (k:=Rows.uptoSmall) (X:=fun w=>laidMetH Tryd.prog Rows.derivationPruneUptoRow.laid w) rfl own started (by kernel_rfl) Tryd.func7
    (Yp0 (enc:=enc) (C:=Tryd.checked) (s:=Rows.OpenSpec.upto Rows.derivationPruneSpec) (k:=Rows.uptoSmall) rfl false (World.doorLaid Tryd.prog 400 os) #[.agg #[.int .u8 0,.slice none 0 0],.slice none 0 0] 8 rfl (World.shaped_of_RefB (by kernel_rfl) (by kernel_rfl)) (by kernel_rfl)
      (x:=([.agg [.lit (.int .u8 0),.nil],.nil],[],[])) (by kernel_rfl) rfl (by kernel_rfl) (YtH os _) (by kernel_rfl)) ?_
  intro W base args ds gs before hval hW hk hX
  exact contract H enc W base args ds gs before hval hW hk hX
theorem row:Rows.DerivationPruneUptoSaid:=
  OpenClaim.holds_of_cond 7 Tryd.f7 rfl rfl rfl rfl rfl rfl rfl ⟨rfl,rfl,rfl,rfl,rfl⟩ rfl rfl rfl rfl rfl (by kernel_rfl) Tryd.func7 (by kernel_rfl)
    (of_decide_eq_true (by kernel_rfl)) (by unfold Func.isWrapper;first| (rw[if_pos (by decide+kernel)];kernel_rfl)| (rw[if_neg (by decide+kernel)];exact⟨rfl,rfl⟩))
    (fun os started H enc _ F=>lifted os started H enc F)
theorem Ywu:(Tryd.f7.params.toList.all fun t=> !Tryd.prog.wantsStandIn t)=true:=by kernel_rfl
theorem said:Rows.DerivationPruneUptoCardSaid:=
  Claim7.holds_tied_plain_at .later [] [.data,.data,.data] true (true, "1ef57d54702810c897e2eda224055617a28835e27bb53610c6a9d7226007621e") false
    row (fun _ h=>by cases h) (by kernel_rfl) (fun _ h=>by cases h) derivationPruneUpto_row_tie rfl ⟨rfl,rfl⟩ (by kernel_rfl) rfl
    (fun f fn hf hfn=>by
      obtain rfl:f=7:=Option.some.inj ((show Tryd.prog.funcNamed Rows.derivationPruneUptoRow.func=some 7 by kernel_rfl).symm.trans hf)|>.symm
      obtain rfl:fn=Tryd.f7:=(Option.some.inj (Tryd.func7.symm.trans hfn)).symm
      exact⟨by kernel_rfl,fun j t ht=>by
        have hm:t∈Tryd.f7.params.toList:=YwQ (by simpa using ht)
        have:=Yw1.1 Ywu t hm
        exact(show Tryd.prog.wantsStandIn t=false by simpa using this)⟩)
    (by kernel_rfl)
end Go.Proofs.YtppagmmeofoekaaDoor.derivationPrune
