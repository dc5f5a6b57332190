/- The law QueryValid of chapter 47 returns true for all arguments. Conditions: those of the given statement alone (the arguments are of bulk at most 1048576; the listed variables of the library start as the text lays them). -/
import Derived.Test.YtlmcnindhfbkhaaGreatDoorT
import Derived.Test.YtlmcnindhfbkhaaGreatDoorP
import Derived.Test.YtlmcnindhfbkhaaGreatDoorB
import Derived.Test.YtlmcnindhfbkhaaGreatDoorRows
import Derived.Test.YtlmcnindhfbkhaaGreatDoorCards
import Derived.Test.YtlmcnindhfbkhaaGreatDoorTie
import Derived.JoinedCond
import Derived.SevenTiedAt
set_option linter.unusedVariables false
set_option linter.unusedSimpArgs false
set_option linter.unusedSectionVars false
open List renaming getElem?_eq_some_iff → YCk, mem_of_getElem? → YCl, getElem?_map → YCm, getElem?_eq_getElem → YCn, map_cons → YCo, getElem?_append_left → YCp, map_nil → YCq, getElem?_set_ne → YCr, getElem?_append_right → YCs, getElem?_set_self → YCt, mem_cons → YCu, length_eq_zero_iff → YCv, mem_cons_self → YCw, getElem?_take → YCx, mem_iff_getElem? → YCy, all_eq_true → YCz, getElem?_drop → YCA, getElem?_eq_none → YCB, length_cons → YCC, mem_cons_of_mem → YCD, mem_singleton → YCE, mem_map → YCF, length_map → YCG, getElem?_range → YCH, append_assoc → YCI, cons_append → YCJ, take_length → YCK, map_map → YCL, mem_filter → YCM, getElem?_replicate → YCN, ext_getElem? → YCO, nil_append → YCP, drop_zero → YCQ, foldl_cons → YCR, mem_append → YCS, mem_iff_getElem → YCT, getElem?_cons_succ → YCU, length_nil → YCV, append_nil → YCW, getD_eq_getElem?_getD → YCX, getElem_mem → YCY, mem_append_left → YCZ, getElem?_eq_none_iff → YC0
namespace Go.Proofs.YtlmcnindhfbkhaaGreatDoor.queryValid
open Go.ChangeShapes Go.WideShapes Go.ChangeAt Go.RowKit Go.Abs
set_option maxRecDepth 100000
theorem own:ownKnob Tryz.prog.godebug=none:=by kernel_rfl
theorem laid:laidOutB Tryz.prog=true:=by kernel_rfl
theorem YB5(H:Type):BulkOK (Rows.uptoBulk (H:=H)) Rows.uptoBulkAll:=
  ⟨fun l=>by simp[Rows.uptoBulk],fun e s=>by simp only[Rows.uptoBulk];omega,fun e=>by simp only[Rows.uptoBulk];omega,by simp[Rows.uptoBulk],fun l=>by cases l<;>simp[Rows.uptoBulk],
    fun d r=>by simp only[Rows.uptoBulkAll];omega⟩
theorem contract(H:Type)(enc:TypeId×Value->H)(W:World)(base:Nat)(args:Array Value)(ds gs:List (DataW H))(before:List MemPlace)
    (hval: ∀(j:Nat) t v,Tryz.f3.params[j]?=some t->args[j]?=some v->Value.okWide Tryz.prog W .any base t v)
    (hW:DataW.Whole enc Tryz.prog Tryz.f3.params.toList Rows.queryValidSpec.vars false W args.toList ds gs before) (hk:Rows.uptoSmall H (ds++gs)=true):
    Calls Tryz.prog 3 args W fun e W'=> ∃v,e= .returned v/\Rows.queryValidSpec.post enc Tryz.prog Tryz.f3 false true false false W args v W':=
  Yq4 (G47.S117 YqA).S laid (e:=G47.q116_f loO) (YCw ..) (by kernel_rfl) (by kernel_rfl) rfl Tryz.params3 (by kernel_rfl) rfl Tryz.underlying4 (by kernel_rfl) rfl
    (fun ds hd=>match ds,hd with| [_,_],_=>rfl) (YB5 H) (N:=1048576) (fun x hr hs=>⟨true,G47.valid_law x.1 x.2.1 x.2.2,rfl⟩) W base args ds gs before hval hW (of_decide_eq_true hk)
theorem YyJ(os:Os)(args:Array Value):laidMetH Tryz.prog Rows.queryValidUptoRow.laid ((World.doorLaid Tryz.prog 400 os).forCall (fun _ _=>0) ⟨#[],args,[]⟩).memory:=
  laidMetH_of_parts3 (fuel:=8) (laidMet_of_run' 8 (by kernel_rfl) (by kernel_rfl)) (by kernel_rfl) (by kernel_rfl)
theorem lifted(os:Os)(started:os.Started)(H:Type)(enc:TypeId×Value->H)(F:Stop.Interp):
    ReturnsInHanded {} Tryz.checked os 3 .any (fun w args=>((Rows.OpenSpec.upto Rows.queryValidSpec).pre enc Tryz.prog Tryz.f3 Rows.queryValidUptoRow.domain false w args/\laidMetH Tryz.prog Rows.queryValidUptoRow.laid w)/\sizedMet enc Tryz.prog Tryz.f3 (Rows.OpenSpec.upto Rows.queryValidSpec) false w args) (((Rows.OpenSpec.upto Rows.queryValidSpec).at F).post enc Tryz.prog Tryz.f3 false true false false):=by
  refine Yri (C:=Tryz.checked) (s:=Rows.OpenSpec.upto Rows.queryValidSpec) (k:=Rows.uptoSmall) (X:=fun w=>laidMetH Tryz.prog Rows.queryValidUptoRow.laid w) rfl own started (by kernel_rfl) Tryz.func3
    (Yrj (enc:=enc) (C:=Tryz.checked) (s:=Rows.OpenSpec.upto Rows.queryValidSpec) (k:=Rows.uptoSmall) rfl false (World.doorLaid Tryz.prog 400 os) #[.agg #[.slice none 0 0],.agg #[.slice none 0 0,.slice none 0 0]] 8 rfl (World.shaped_of_RefB (by kernel_rfl) (by kernel_rfl)) (by kernel_rfl)
      (x:=([.agg [.nil],.agg [.nil,.nil]],[],[])) (by kernel_rfl) rfl (by kernel_rfl) (YyJ os _) (by kernel_rfl)) ?_
  intro W base args ds gs before hval hW hk
  exact contract H enc W base args ds gs before hval hW hk
theorem row:Rows.QueryValidUptoSaid:=
  OpenClaim.holds_of_cond 3 Tryz.f3 rfl rfl rfl rfl rfl rfl rfl ⟨rfl,rfl,rfl,rfl,rfl⟩ rfl rfl rfl rfl rfl (by kernel_rfl) Tryz.func3 (by kernel_rfl)
    (of_decide_eq_true (by kernel_rfl)) (by unfold Func.isWrapper;first| (rw[if_pos (by decide+kernel)];kernel_rfl)| (rw[if_neg (by decide+kernel)];exact⟨rfl,rfl⟩))
    (fun os started H enc _ F=>lifted os started H enc F)
theorem YBN:(Tryz.f3.params.toList.all fun t=> !Tryz.prog.wantsStandIn t)=true:=by kernel_rfl
theorem said:Rows.QueryValidUptoCardSaid:=
  Claim7.holds_tied_plain_at .later [] [.data,.data,.data] true (true, "1b6b3c8391fd4510d26cbaa1c120170ff06a32dbaf1baec913de66d8bef16d27") false
    row (fun _ h=>by cases h) (by kernel_rfl) (fun _ h=>by cases h) queryValidUpto_row_tie rfl ⟨rfl,rfl⟩ (by kernel_rfl) rfl
    (fun f fn hf hfn=>by
      obtain rfl:f=3:=Option.some.inj ((show Tryz.prog.funcNamed Rows.queryValidUptoRow.func=some 3 by kernel_rfl).symm.trans hf)|>.symm
      obtain rfl:fn=Tryz.f3:=(Option.some.inj (Tryz.func3.symm.trans hfn)).symm
      exact⟨by kernel_rfl,fun j t ht=>by
        have hm:t∈Tryz.f3.params.toList:=YCl (by simpa using ht)
        have:=YCz.1 YBN t hm
        exact(show Tryz.prog.wantsStandIn t=false by simpa using this)⟩)
    (by kernel_rfl)
end Go.Proofs.YtlmcnindhfbkhaaGreatDoor.queryValid
