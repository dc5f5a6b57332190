/- The law QueryFormat of chapter 47 returns true for all arguments. Conditions: those of the given statement alone (the arguments are of bulk at most 1048576; the listed variables of the library start as the text lays them). -/
import Derived.Test.YtlmcnindhfbkhaaGreatDoorT
import Derived.Test.YtlmcnindhfbkhaaGreatDoorP
import Derived.Test.YtlmcnindhfbkhaaGreatDoorB
import Derived.LaidSub
import Derived.Test.YtlmcnindhfbkhaaGreatDoorRows
import Derived.Test.YtlmcnindhfbkhaaGreatDoorCards
import Derived.Test.YtlmcnindhfbkhaaGreatDoorTie
import Derived.JoinedCond
import Derived.SevenTiedAt
set_option linter.unusedVariables false
set_option linter.unusedSimpArgs false
set_option linter.unusedSectionVars false
open List renaming mem_of_getElem? → YDz, mem_cons_self → YDI, all_eq_true → YDL
namespace Go.Proofs.YtlmcnindhfbkhaaGreatDoor.queryFormat
open Go.ChangeShapes Go.WideShapes Go.ChangeAt Go.RowKit Go.Abs
set_option maxRecDepth 100000
theorem own:ownKnob Tryz.prog.godebug=none:=by kernel_rfl
theorem laid:laidOutB Tryz.prog=true:=by kernel_rfl
theorem YDf(H:Type):BulkOK (Rows.uptoBulk (H:=H)) Rows.uptoBulkAll:=
  ⟨fun l=>by simp[Rows.uptoBulk],fun e s=>by simp only[Rows.uptoBulk];omega,fun e=>by simp only[Rows.uptoBulk];omega,by simp[Rows.uptoBulk],fun l=>by cases l<;>simp[Rows.uptoBulk],
    fun d r=>by simp only[Rows.uptoBulkAll];omega⟩
abbrev YBq:String:=(Rows.queryFormatUptoRow.laid.getD 2 ("",.nil)).1
theorem tabX{W:World}(hX:laidMetH Tryz.prog Rows.queryFormatUptoRow.laid W.memory):TabW G47.fm W:=by
  have h2:=(laidMetH_iff.1 hX).1.filter fun x=>x.1==YBq
  have e:((Rows.queryFormatUptoRow.laid.filter fun x=>x.2.handleName?.isNone).filter fun x=>x.1==YBq)=[(YBq,Lib.tabData .u64 Lib.pow10Tab)]:=by kernel_rfl
  rw[e]at h2
  exact YrC (P:=Tryz.prog) (W:=W) (g:=0) (name:=YBq) (by kernel_rfl) rfl (show Lib.TabIs Tryz.prog W YBq .u64 Lib.pow10Tab from Lib.tabIs_of_head (W:=W.memory) (g:=0) (t:=235) (e:=193) (n:=20) (by kernel_rfl) (by kernel_rfl) (by kernel_rfl) (by kernel_rfl) (by kernel_rfl) (by kernel_rfl) h2)
theorem contract(H:Type)(enc:TypeId×Value->H)(W:World)(base:Nat)(args:Array Value)(ds gs:List (DataW H))(before:List MemPlace)
    (hval: ∀(j:Nat) t v,Tryz.f9.params[j]?=some t->args[j]?=some v->Value.okWide Tryz.prog W .any base t v)
    (hW:DataW.Whole enc Tryz.prog Tryz.f9.params.toList Rows.queryFormatSpec.vars false W args.toList ds gs before) (hk:Rows.uptoSmall H (ds++gs)=true) (hX:laidMetH Tryz.prog Rows.queryFormatUptoRow.laid W.memory):
    Calls Tryz.prog 9 args W fun e W'=> ∃v,e= .returned v/\Rows.queryFormatSpec.post enc Tryz.prog Tryz.f9 false true false false W args v W':=
  Yrj (G47.S156 YqQ).S laid (e:=G47.q155_f loO) (YDI ..) (by kernel_rfl) (by kernel_rfl) rfl Tryz.params9 (by kernel_rfl) rfl Tryz.underlying4 (by kernel_rfl) rfl
    (fun ds hd=>match ds,hd with| [_],_=>rfl) (YDf H) (N:=1048576) (fun x hr hs=>⟨true,G47.form_fin x hr hs,rfl⟩) W base args ds gs before hval hW (of_decide_eq_true hk) (tabX hX)
theorem Yy4(os:Os)(args:Array Value):laidMetH Tryz.prog Rows.queryFormatUptoRow.laid ((World.doorLaid Tryz.prog 400 os).forCall (fun _ _=>0) ⟨#[],args,[]⟩).memory:=
  laidMetH_of_parts3 (fuel:=8) (laidMet_of_run' 8 (by kernel_rfl) (by kernel_rfl)) (by kernel_rfl) (by kernel_rfl)
theorem lifted(os:Os)(started:os.Started)(H:Type)(enc:TypeId×Value->H)(F:Stop.Interp):
    ReturnsInHanded {} Tryz.checked os 9 .any (fun w args=>((Rows.OpenSpec.upto Rows.queryFormatSpec).pre enc Tryz.prog Tryz.f9 Rows.queryFormatUptoRow.domain false w args/\laidMetH Tryz.prog Rows.queryFormatUptoRow.laid w)/\sizedMet enc Tryz.prog Tryz.f9 (Rows.OpenSpec.upto Rows.queryFormatSpec) false w args) (((Rows.OpenSpec.upto Rows.queryFormatSpec).at F).post enc Tryz.prog Tryz.f9 false true false false):=by
  refine Yrx (C:=Tryz.checked) (s:=Rows.OpenSpec.upto Rows.queryFormatSpec) (k:=Rows.uptoSmall) (X:=fun w=>laidMetH Tryz.prog Rows.queryFormatUptoRow.laid w) rfl own started (by kernel_rfl) Tryz.func9
    (Yry (enc:=enc) (C:=Tryz.checked) (s:=Rows.OpenSpec.upto Rows.queryFormatSpec) (k:=Rows.uptoSmall) rfl false (World.doorLaid Tryz.prog 400 os) #[.agg #[.slice none 0 0,.slice none 0 0]] 8 rfl (World.shaped_of_RefB (by kernel_rfl) (by kernel_rfl)) (by kernel_rfl)
      (x:=([.agg [.nil,.nil]],[],[])) (by kernel_rfl) rfl (by kernel_rfl) (Yy4 os _) (by kernel_rfl)) ?_
  intro W base args ds gs before hval hW hk hX
  exact contract H enc W base args ds gs before hval hW hk hX
theorem row:Rows.QueryFormatUptoSaid:=
  OpenClaim.holds_of_cond 9 Tryz.f9 rfl rfl rfl rfl rfl rfl rfl ⟨rfl,rfl,rfl,rfl,rfl⟩ rfl rfl rfl rfl rfl (by kernel_rfl) Tryz.func9 (by kernel_rfl)
    (of_decide_eq_true (by kernel_rfl)) (by unfold Func.isWrapper;first| (rw[if_pos (by decide+kernel)];kernel_rfl)| (rw[if_neg (by decide+kernel)];exact⟨rfl,rfl⟩))
    (fun os started H enc _ F=>lifted os started H enc F)
theorem YCh:(Tryz.f9.params.toList.all fun t=> !Tryz.prog.wantsStandIn t)=true:=by kernel_rfl
theorem said:Rows.QueryFormatUptoCardSaid:=
  Claim7.holds_tied_plain_at .later [] [.data,.data,.data] true (true, "1b6b3c8391fd4510d26cbaa1c120170ff06a32dbaf1baec913de66d8bef16d27") false
    row (fun _ h=>by cases h) (by kernel_rfl) (fun _ h=>by cases h) queryFormatUpto_row_tie rfl ⟨rfl,rfl⟩ (by kernel_rfl) rfl
    (fun f fn hf hfn=>by
      obtain rfl:f=9:=Option.some.inj ((show Tryz.prog.funcNamed Rows.queryFormatUptoRow.func=some 9 by kernel_rfl).symm.trans hf)|>.symm
      obtain rfl:fn=Tryz.f9:=(Option.some.inj (Tryz.func9.symm.trans hfn)).symm
      exact⟨by kernel_rfl,fun j t ht=>by
        have hm:t∈Tryz.f9.params.toList:=YDz (by simpa using ht)
        have:=YDL.1 YCh t hm
        exact(show Tryz.prog.wantsStandIn t=false by simpa using this)⟩)
    (by kernel_rfl)
end Go.Proofs.YtlmcnindhfbkhaaGreatDoor.queryFormat
