/- The law QueryReduced of chapter 47 returns true for all arguments. Conditions: those of the given statement alone (the arguments are of bulk at most 1048576; the listed variables of the library start as the text lays them). -/
import Derived.Test.YtlmcnindhfbkhaaGreatDoorT
import Derived.Test.YtlmcnindhfbkhaaGreatDoorP
import Derived.Test.YtlmcnindhfbkhaaGreatDoorB
import Derived.Test.YtlmcnindhfbkhaaGreatDoorRows
import Derived.Test.YtlmcnindhfbkhaaGreatDoorCards
import Derived.Test.YtlmcnindhfbkhaaGreatDoorTie
import Derived.JoinedCond
import Derived.SevenTiedAt
set_option linter.unusedVariables false
set_option linter.unusedSimpArgs false
set_option linter.unusedSectionVars false
open List renaming mem_of_getElem? → YGi, mem_cons_self → YGo, all_eq_true → YGx
namespace Go.Proofs.YtlmcnindhfbkhaaGreatDoor.queryReduced
open Go.ChangeShapes Go.WideShapes Go.ChangeAt Go.RowKit Go.Abs
set_option maxRecDepth 100000
theorem own:ownKnob Tryz.prog.godebug=none:=by kernel_rfl
theorem laid:laidOutB Tryz.prog=true:=by kernel_rfl
theorem YF3(H:Type):BulkOK (Rows.uptoBulk (H:=H)) Rows.uptoBulkAll:=
  ⟨fun l=>by simp[Rows.uptoBulk],fun e s=>by simp only[Rows.uptoBulk];omega,fun e=>by simp only[Rows.uptoBulk];omega,by simp[Rows.uptoBulk],fun l=>by cases l<;>simp[Rows.uptoBulk],
    fun d r=>by simp only[Rows.uptoBulkAll];omega⟩
theorem contract(H:Type)(enc:TypeId×Value->H)(W:World)(base:Nat)(args:Array Value)(ds gs:List (DataW H))(before:List MemPlace)
    (hval: ∀(j:Nat) t v,Tryz.f8.params[j]?=some t->args[j]?=some v->Value.okWide Tryz.prog W .any base t v)
    (hW:DataW.Whole enc Tryz.prog Tryz.f8.params.toList Rows.queryReducedSpec.vars false W args.toList ds gs before) (hk:Rows.uptoSmall H (ds++gs)=true):
    Calls Tryz.prog 8 args W fun e W'=> ∃v,e= .returned v/\Rows.queryReducedSpec.post enc Tryz.prog Tryz.f8 false true false false W args v W':=
  Ys3 (G47.S154 YsA).S laid (e:=G47.q153_f loO) (YGo ..) (by kernel_rfl) (by kernel_rfl) rfl Tryz.params8 (by kernel_rfl) rfl Tryz.underlying4 (by kernel_rfl) rfl
    (fun ds hd=>match ds,hd with| [_,_],_=>rfl) (YF3 H) (N:=1048576) (fun x hr hs=>⟨true,G47.red_fin x hr,rfl⟩) W base args ds gs before hval hW (of_decide_eq_true hk)
theorem YBN(os:Os)(args:Array Value):laidMetH Tryz.prog Rows.queryReducedUptoRow.laid ((World.doorLaid Tryz.prog 400 os).forCall (fun _ _=>0) ⟨#[],args,[]⟩).memory:=
  laidMetH_of_parts3 (fuel:=8) (laidMet_of_run' 8 (by kernel_rfl) (by kernel_rfl)) (by kernel_rfl) (by kernel_rfl)
theorem lifted(os:Os)(started:os.Started)(H:Type)(enc:TypeId×Value->H)(F:Stop.Interp):
    ReturnsInHanded {} Tryz.checked os 8 .any (fun w args=>((Rows.OpenSpec.upto Rows.queryReducedSpec).pre enc Tryz.prog Tryz.f8 Rows.queryReducedUptoRow.domain false w args/\laidMetH Tryz.prog Rows.queryReducedUptoRow.laid w)/\sizedMet enc Tryz.prog Tryz.f8 (Rows.OpenSpec.upto Rows.queryReducedSpec) false w args) (((Rows.OpenSpec.upto Rows.queryReducedSpec).at F).post enc Tryz.prog Tryz.f8 false true false false):=by
  refine Yth (C:=Tryz.checked) (s:=Rows.OpenSpec.upto Rows.queryReducedSpec) (k:=Rows.uptoSmall) (X:=fun w=>laidMetH Tryz.prog Rows.queryReducedUptoRow.laid w) rfl own started (by kernel_rfl) Tryz.func8
    (Yti (enc:=enc) (C:=Tryz.checked) (s:=Rows.OpenSpec.upto Rows.queryReducedSpec) (k:=Rows.uptoSmall) rfl false (World.doorLaid Tryz.prog 400 os) #[.slice none 0 0,.agg #[.slice none 0 0,.slice none 0 0]] 8 rfl (World.shaped_of_RefB (by kernel_rfl) (by kernel_rfl)) (by kernel_rfl)
      (x:=([.nil,.agg [.nil,.nil]],[],[])) (by kernel_rfl) rfl (by kernel_rfl) (YBN os _) (by kernel_rfl)) ?_
  intro W base args ds gs before hval hW hk
  exact contract H enc W base args ds gs before hval hW hk
theorem row:Rows.QueryReducedUptoSaid:=
  OpenClaim.holds_of_cond 8 Tryz.f8 rfl rfl rfl rfl rfl rfl rfl ⟨rfl,rfl,rfl,rfl,rfl⟩ rfl rfl rfl rfl rfl (by kernel_rfl) Tryz.func8 (by kernel_rfl)
    (of_decide_eq_true (by kernel_rfl)) (by unfold Func.isWrapper;first| (rw[if_pos (by decide+kernel)];kernel_rfl)| (rw[if_neg (by decide+kernel)];exact⟨rfl,rfl⟩))
    (fun os started H enc _ F=>lifted os started H enc F)
theorem YFf:(Tryz.f8.params.toList.all fun t=> !Tryz.prog.wantsStandIn t)=true:=by kernel_rfl
theorem said:Rows.QueryReducedUptoCardSaid:=
  Claim7.holds_tied_plain_at .later [] [.data,.data,.data] true (true, "1b6b3c8391fd4510d26cbaa1c120170ff06a32dbaf1baec913de66d8bef16d27") false
    row (fun _ h=>by cases h) (by kernel_rfl) (fun _ h=>by cases h) queryReducedUpto_row_tie rfl ⟨rfl,rfl⟩ (by kernel_rfl) rfl
    (fun f fn hf hfn=>by
      obtain rfl:f=8:=Option.some.inj ((show Tryz.prog.funcNamed Rows.queryReducedUptoRow.func=some 8 by kernel_rfl).symm.trans hf)|>.symm
      obtain rfl:fn=Tryz.f8:=(Option.some.inj (Tryz.func8.symm.trans hfn)).symm
      exact⟨by kernel_rfl,fun j t ht=>by
        have hm:t∈Tryz.f8.params.toList:=YGi (by simpa using ht)
        have:=YGx.1 YFf t hm
        exact(show Tryz.prog.wantsStandIn t=false by simpa using this)⟩)
    (by kernel_rfl)
end Go.Proofs.YtlmcnindhfbkhaaGreatDoor.queryReduced
