/- The law QueryHolds of chapter 47 returns true for all arguments. Conditions: those of the given statement alone (the arguments are of bulk at most 1048576; the listed variables of the library start as the text lays them). -/
import Derived.Test.YtlmcnindhfbkhaaGreatDoorT
import Derived.Test.YtlmcnindhfbkhaaGreatDoorP
import Derived.Test.YtlmcnindhfbkhaaGreatDoorB
import Derived.Test.YtlmcnindhfbkhaaGreatDoorRows
import Derived.Test.YtlmcnindhfbkhaaGreatDoorCards
import Derived.Test.YtlmcnindhfbkhaaGreatDoorTie
import Derived.JoinedCond
import Derived.SevenTiedAt
set_option linter.unusedVariables false
set_option linter.unusedSimpArgs false
set_option linter.unusedSectionVars false
open List renaming mem_of_getElem? → YHU, mem_cons_self → YH5, all_eq_true → YIb
namespace Go.Proofs.YtlmcnindhfbkhaaGreatDoor.queryHolds
open Go.ChangeShapes Go.WideShapes Go.ChangeAt Go.RowKit Go.Abs
set_option maxRecDepth 100000
theorem own:ownKnob Tryz.prog.godebug=none:=by kernel_rfl
theorem laid:laidOutB Tryz.prog=true:=by kernel_rfl
theorem YHv(H:Type):BulkOK (Rows.uptoBulk (H:=H)) Rows.uptoBulkAll:=
  ⟨fun l=>by simp[Rows.uptoBulk],fun e s=>by simp only[Rows.uptoBulk];omega,fun e=>by simp only[Rows.uptoBulk];omega,by simp[Rows.uptoBulk],fun l=>by cases l<;>simp[Rows.uptoBulk],
    fun d r=>by simp only[Rows.uptoBulkAll];omega⟩
theorem contract(H:Type)(enc:TypeId×Value->H)(W:World)(base:Nat)(args:Array Value)(ds gs:List (DataW H))(before:List MemPlace)
    (hval: ∀(j:Nat) t v,Tryz.f11.params[j]?=some t->args[j]?=some v->Value.okWide Tryz.prog W .any base t v)
    (hW:DataW.Whole enc Tryz.prog Tryz.f11.params.toList Rows.queryHoldsSpec.vars false W args.toList ds gs before) (hk:Rows.uptoSmall H (ds++gs)=true):
    Calls Tryz.prog 11 args W fun e W'=> ∃v,e= .returned v/\Rows.queryHoldsSpec.post enc Tryz.prog Tryz.f11 false true false false W args v W':=
  Yte (G47.S174 YsL).S laid (e:=G47.q173_f loO) (YH5 ..) (by kernel_rfl) (by kernel_rfl) rfl Tryz.params11 (by kernel_rfl) rfl Tryz.underlying4 (by kernel_rfl) rfl
    (fun ds hd=>match ds,hd with| [_,_,_],_=>rfl) (YHv H) (N:=1048576) (fun x hr hs=>⟨true,G47.holds_fin x hr,rfl⟩) W base args ds gs before hval hW (of_decide_eq_true hk)
theorem YCW(os:Os)(args:Array Value):laidMetH Tryz.prog Rows.queryHoldsUptoRow.laid ((World.doorLaid Tryz.prog 400 os).forCall (fun _ _=>0) ⟨#[],args,[]⟩).memory:=
  laidMetH_of_parts3 (fuel:=8) (laidMet_of_run' 8 (by kernel_rfl) (by kernel_rfl)) (by kernel_rfl) (by kernel_rfl)
theorem lifted(os:Os)(started:os.Started)(H:Type)(enc:TypeId×Value->H)(F:Stop.Interp):
    ReturnsInHanded {} Tryz.checked os 11 .any (fun w args=>((Rows.OpenSpec.upto Rows.queryHoldsSpec).pre enc Tryz.prog Tryz.f11 Rows.queryHoldsUptoRow.domain false w args/\laidMetH Tryz.prog Rows.queryHoldsUptoRow.laid w)/\sizedMet enc Tryz.prog Tryz.f11 (Rows.OpenSpec.upto Rows.queryHoldsSpec) false w args) (((Rows.OpenSpec.upto Rows.queryHoldsSpec).at F).post enc Tryz.prog Tryz.f11 false true false false):=by
  refine Yts (C:=Tryz.checked) (s:=Rows.OpenSpec.upto Rows.queryHoldsSpec) (k:=Rows.uptoSmall) (X:=fun w=>laidMetH Tryz.prog Rows.queryHoldsUptoRow.laid w) rfl own started (by kernel_rfl) Tryz.func11
    (Ytt (enc:=enc) (C:=Tryz.checked) (s:=Rows.OpenSpec.upto Rows.queryHoldsSpec) (k:=Rows.uptoSmall) rfl false (World.doorLaid Tryz.prog 400 os) #[.slice none 0 0,.agg #[.slice none 0 0,.slice none 0 0],.slice none 0 0] 8 rfl (World.shaped_of_RefB (by kernel_rfl) (by kernel_rfl)) (by kernel_rfl)
      (x:=([.nil,.agg [.nil,.nil],.nil],[],[])) (by kernel_rfl) rfl (by kernel_rfl) (YCW os _) (by kernel_rfl)) ?_
  intro W base args ds gs before hval hW hk
  exact contract H enc W base args ds gs before hval hW hk
theorem row:Rows.QueryHoldsUptoSaid:=
  OpenClaim.holds_of_cond 11 Tryz.f11 rfl rfl rfl rfl rfl rfl rfl ⟨rfl,rfl,rfl,rfl,rfl⟩ rfl rfl rfl rfl rfl (by kernel_rfl) Tryz.func11 (by kernel_rfl)
    (of_decide_eq_true (by kernel_rfl)) (by unfold Func.isWrapper;first| (rw[if_pos (by decide+kernel)];kernel_rfl)| (rw[if_neg (by decide+kernel)];exact⟨rfl,rfl⟩))
    (fun os started H enc _ F=>lifted os started H enc F)
theorem YGB:(Tryz.f11.params.toList.all fun t=> !Tryz.prog.wantsStandIn t)=true:=by kernel_rfl
theorem said:Rows.QueryHoldsUptoCardSaid:=
  Claim7.holds_tied_plain_at .later [] [.data,.data,.data] true (true, "1b6b3c8391fd4510d26cbaa1c120170ff06a32dbaf1baec913de66d8bef16d27") false
    row (fun _ h=>by cases h) (by kernel_rfl) (fun _ h=>by cases h) queryHoldsUpto_row_tie rfl ⟨rfl,rfl⟩ (by kernel_rfl) rfl
    (fun f fn hf hfn=>by
      obtain rfl:f=11:=Option.some.inj ((show Tryz.prog.funcNamed Rows.queryHoldsUptoRow.func=some 11 by kernel_rfl).symm.trans hf)|>.symm
      obtain rfl:fn=Tryz.f11:=(Option.some.inj (Tryz.func11.symm.trans hfn)).symm
      exact⟨by kernel_rfl,fun j t ht=>by
        have hm:t∈Tryz.f11.params.toList:=YHU (by simpa using ht)
        have:=YIb.1 YGB t hm
        exact(show Tryz.prog.wantsStandIn t=false by simpa using this)⟩)
    (by kernel_rfl)
end Go.Proofs.YtlmcnindhfbkhaaGreatDoor.queryHolds
