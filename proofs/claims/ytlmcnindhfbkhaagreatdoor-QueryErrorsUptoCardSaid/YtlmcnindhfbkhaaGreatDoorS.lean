/- The law QueryErrors of chapter 47 returns true for all arguments. Conditions: those of the given statement alone (the arguments are of bulk at most 1048576; the listed variables of the library start as the text lays them). -/
import Derived.Test.YtlmcnindhfbkhaaGreatDoorT
import Derived.Test.YtlmcnindhfbkhaaGreatDoorP
import Derived.Test.YtlmcnindhfbkhaaGreatDoorB
import Derived.Test.YtlmcnindhfbkhaaGreatDoorRows
import Derived.Test.YtlmcnindhfbkhaaGreatDoorCards
import Derived.Test.YtlmcnindhfbkhaaGreatDoorTie
import Derived.JoinedCond
import Derived.SevenTiedAt
set_option linter.unusedVariables false
set_option linter.unusedSimpArgs false
set_option linter.unusedSectionVars false
open List renaming getElem?_eq_some_iff → YDK, mem_of_getElem? → YDL, getElem?_map → YDM, getElem?_eq_getElem → YDN, map_cons → YDO, getElem?_append_left → YDP, map_nil → YDQ, getElem?_set_ne → YDR, getElem?_append_right → YDS, getElem?_set_self → YDT, mem_cons → YDU, length_eq_zero_iff → YDV, mem_cons_self → YDW, getElem?_take → YDX, mem_iff_getElem? → YDY, all_eq_true → YDZ, getElem?_drop → YD0, getElem?_eq_none → YD1, length_cons → YD2, mem_cons_of_mem → YD3, mem_singleton → YD4, mem_map → YD5, length_map → YD6, getElem?_range → YD7, append_assoc → YD8, cons_append → YD9, take_length → YEa, map_map → YEb, mem_filter → YEc, getElem?_replicate → YEd, ext_getElem? → YEe, nil_append → YEf, drop_zero → YEg, foldl_cons → YEh, mem_append → YEi, mem_iff_getElem → YEj, getElem?_cons_succ → YEk, length_nil → YEl, append_nil → YEm, getD_eq_getElem?_getD → YEn, getElem_mem → YEo, mem_append_left → YEp, getElem?_eq_none_iff → YEq
namespace Go.Proofs.YtlmcnindhfbkhaaGreatDoor.queryErrors
open Go.ChangeShapes Go.WideShapes Go.ChangeAt Go.RowKit Go.Abs
set_option maxRecDepth 100000
theorem own:ownKnob Tryz.prog.godebug=none:=by kernel_rfl
theorem laid:laidOutB Tryz.prog=true:=by kernel_rfl
theorem YDv(H:Type):BulkOK (Rows.uptoBulk (H:=H)) Rows.uptoBulkAll:=
  ⟨fun l=>by simp[Rows.uptoBulk],fun e s=>by simp only[Rows.uptoBulk];omega,fun e=>by simp only[Rows.uptoBulk];omega,by simp[Rows.uptoBulk],fun l=>by cases l<;>simp[Rows.uptoBulk],
    fun d r=>by simp only[Rows.uptoBulkAll];omega⟩
theorem contract(H:Type)(enc:TypeId×Value->H)(W:World)(base:Nat)(args:Array Value)(ds gs:List (DataW H))(before:List MemPlace)
    (hval: ∀(j:Nat) t v,Tryz.f12.params[j]?=some t->args[j]?=some v->Value.okWide Tryz.prog W .any base t v)
    (hW:DataW.Whole enc Tryz.prog Tryz.f12.params.toList Rows.queryErrorsSpec.vars false W args.toList ds gs before) (hk:Rows.uptoSmall H (ds++gs)=true):
    Calls Tryz.prog 12 args W fun e W'=> ∃v,e= .returned v/\Rows.queryErrorsSpec.post enc Tryz.prog Tryz.f12 false true false false W args v W':=
  Yrl (G47.S167 YqR).S laid (e:=G47.q166_f loO) (YDW ..) (by kernel_rfl) (by kernel_rfl) rfl Tryz.params12 (by kernel_rfl) rfl Tryz.underlying4 (by kernel_rfl) rfl
    (fun ds hd=>match ds,hd with| [_,_,_],_=>rfl) (YDv H) (N:=1048576) (fun x hr hs=>⟨true,G47.errors_law x.1 x.2.1 x.2.2.1 x.2.2.2,rfl⟩) W base args ds gs before hval hW (of_decide_eq_true hk)
theorem Yzl(os:Os)(args:Array Value):laidMetH Tryz.prog Rows.queryErrorsUptoRow.laid ((World.doorLaid Tryz.prog 400 os).forCall (fun _ _=>0) ⟨#[],args,[]⟩).memory:=
  laidMetH_of_parts3 (fuel:=8) (laidMet_of_run' 8 (by kernel_rfl) (by kernel_rfl)) (by kernel_rfl) (by kernel_rfl)
theorem lifted(os:Os)(started:os.Started)(H:Type)(enc:TypeId×Value->H)(F:Stop.Interp):
    ReturnsInHanded {} Tryz.checked os 12 .any (fun w args=>((Rows.OpenSpec.upto Rows.queryErrorsSpec).pre enc Tryz.prog Tryz.f12 Rows.queryErrorsUptoRow.domain false w args/\laidMetH Tryz.prog Rows.queryErrorsUptoRow.laid w)/\sizedMet enc Tryz.prog Tryz.f12 (Rows.OpenSpec.upto Rows.queryErrorsSpec) false w args) (((Rows.OpenSpec.upto Rows.queryErrorsSpec).at F).post enc Tryz.prog Tryz.f12 false true false false):=by
  refine Yrz (C:=Tryz.checked) (s:=Rows.OpenSpec.upto Rows.queryErrorsSpec) (k:=Rows.uptoSmall) (X:=fun w=>laidMetH Tryz.prog Rows.queryErrorsUptoRow.laid w) rfl own started (by kernel_rfl) Tryz.func12
    (YrA (enc:=enc) (C:=Tryz.checked) (s:=Rows.OpenSpec.upto Rows.queryErrorsSpec) (k:=Rows.uptoSmall) rfl false (World.doorLaid Tryz.prog 400 os) #[.agg #[.slice none 0 0],.agg #[.slice none 0 0,.slice none 0 0],.slice none 0 0] 8 rfl (World.shaped_of_RefB (by kernel_rfl) (by kernel_rfl)) (by kernel_rfl)
      (x:=([.agg [.nil],.agg [.nil,.nil],.nil],[],[])) (by kernel_rfl) rfl (by kernel_rfl) (Yzl os _) (by kernel_rfl)) ?_
  intro W base args ds gs before hval hW hk
  exact contract H enc W base args ds gs before hval hW hk
theorem row:Rows.QueryErrorsUptoSaid:=
  OpenClaim.holds_of_cond 12 Tryz.f12 rfl rfl rfl rfl rfl rfl rfl ⟨rfl,rfl,rfl,rfl,rfl⟩ rfl rfl rfl rfl rfl (by kernel_rfl) Tryz.func12 (by kernel_rfl)
    (of_decide_eq_true (by kernel_rfl)) (by unfold Func.isWrapper;first| (rw[if_pos (by decide+kernel)];kernel_rfl)| (rw[if_neg (by decide+kernel)];exact⟨rfl,rfl⟩))
    (fun os started H enc _ F=>lifted os started H enc F)
theorem YCv:(Tryz.f12.params.toList.all fun t=> !Tryz.prog.wantsStandIn t)=true:=by kernel_rfl
theorem said:Rows.QueryErrorsUptoCardSaid:=
  Claim7.holds_tied_plain_at .later [] [.data,.data,.data] true (true, "1b6b3c8391fd4510d26cbaa1c120170ff06a32dbaf1baec913de66d8bef16d27") false
    row (fun _ h=>by cases h) (by kernel_rfl) (fun _ h=>by cases h) queryErrorsUpto_row_tie rfl ⟨rfl,rfl⟩ (by kernel_rfl) rfl
    (fun f fn hf hfn=>by
      obtain rfl:f=12:=Option.some.inj ((show Tryz.prog.funcNamed Rows.queryErrorsUptoRow.func=some 12 by kernel_rfl).symm.trans hf)|>.symm
      obtain rfl:fn=Tryz.f12:=(Option.some.inj (Tryz.func12.symm.trans hfn)).symm
      exact⟨by kernel_rfl,fun j t ht=>by
        have hm:t∈Tryz.f12.params.toList:=YDL (by simpa using ht)
        have:=YDZ.1 YCv t hm
        exact(show Tryz.prog.wantsStandIn t=false by simpa using this)⟩)
    (by kernel_rfl)
end Go.Proofs.YtlmcnindhfbkhaaGreatDoor.queryErrors
