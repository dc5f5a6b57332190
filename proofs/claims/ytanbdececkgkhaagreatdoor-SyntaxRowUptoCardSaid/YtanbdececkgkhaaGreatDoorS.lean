/- The law SyntaxRow of chapter 57 returns true for all arguments. Conditions: those of the given statement alone (the arguments are of bulk at most 1048576; the listed variables start as the text lays them). -/
import Derived.Test.YtanbdececkgkhaaGreatDoorX
import Derived.Test.YtanbdececkgkhaaGreatDoorB
import Derived.Test.YtanbdececkgkhaaGreatDoorD
import Derived.Lay
import Derived.LaidSub
import Derived.Test.YtanbdececkgkhaaGreatDoorRows
import Derived.Test.YtanbdececkgkhaaGreatDoorCards
import Derived.Test.YtanbdececkgkhaaGreatDoorTie
import Derived.JoinedCond
import Derived.SevenTiedAt
set_option linter.unusedVariables false
set_option linter.unusedSimpArgs false
set_option linter.unusedSectionVars false
open Option renaming some → U,none → zz
open Bool renaming true → zZ,false → zj
open List renaming mem_of_getElem? → jc, all_eq_true → ly, mem_cons → mT, mem_cons_self → pM
namespace Go.Proofs.YtanbdececkgkhaaGreatDoor.syntaxRow
open Go.ChangeShapes Go.WideShapes Go.ChangeAt Go.RowKit Go.Abs
set_option maxRecDepth 100000
theorem own:ownKnob Tryz.prog.godebug=none:=by kernel_rfl
theorem laid:laidOutB Tryz.prog=true:=by kernel_rfl
theorem Eu(H:Type):kg (Rows.uptoBulk (H:=H)) Rows.uptoBulkAll:=
 ⟨λl=>by simp[Rows.uptoBulk],λe s=>by simp only[Rows.uptoBulk];omega,λe=>by simp only[Rows.uptoBulk];omega,by simp[Rows.uptoBulk],λl=>by cases l<;>simp[Rows.uptoBulk],
  λd r=>by simp only[Rows.uptoBulkAll];omega⟩
theorem gS:Tryz.prog.globalNamed "strconv.ErrSyntax" =U 7:=by kernel_rfl
theorem gR:Tryz.prog.globalNamed "strconv.ErrRange" =U 8:=by kernel_rfl
theorem YBu(u:TypeId)(h:Tryz.prog.typeName? 3 u=U "*errors.errorString"):u=391:=
 typeName_ptr_named (nm:= "errors.errorString") (by rw[show "*" ++ "errors.errorString" = "*errors.errorString" by decide];kernel_rfl) (by kernel_rfl) (by decide) u (by rw[show "*" ++ "errors.errorString" = "*errors.errorString" by decide];exact h)
theorem Vz{W:World}(hX:laidMetH Tryz.prog Rows.syntaxRowUptoRow.laid W.memory):rf iA.fm W:=by
 have hA:=(laidMetH_iff.1 hX).1;have h0:=hA.filter λx=>x.1== "internal/strconv.uint64pow10";have e0:((Rows.syntaxRowUptoRow.laid.filter λx=>x.2.handleName?.isNone).filter λx=>x.1== "internal/strconv.uint64pow10")=[("internal/strconv.uint64pow10",Lib.tabData .u64 Lib.pow10Tab)]:=by kernel_rfl
 rw[e0]at h0;have h1:=hA.filter λx=>x.1== "strconv.ErrSyntax";have e1:((Rows.syntaxRowUptoRow.laid.filter λx=>x.2.handleName?.isNone).filter λx=>x.1== "strconv.ErrSyntax")=[("strconv.ErrSyntax",Rows.laid_strconv_ErrSyntax)]:=by kernel_rfl
 rw[e1]at h1;have h2:=hA.filter λx=>x.1== "strconv.ErrRange";have e2:((Rows.syntaxRowUptoRow.laid.filter λx=>x.2.handleName?.isNone).filter λx=>x.1== "strconv.ErrRange")=[("strconv.ErrRange",Rows.laid_strconv_ErrRange)]:=by kernel_rfl
 rw[e2]at h2;have h3:=hA.filter λx=>x.1== "dross/syntax.measures";have e3:((Rows.syntaxRowUptoRow.laid.filter λx=>x.2.handleName?.isNone).filter λx=>x.1== "dross/syntax.measures")=[("dross/syntax.measures",.agg ((iA.HY.map λb=>b.data.toList).map λb=>.lit (.string b)))]:=by kernel_rfl
 rw[e3]at h3;have h4:=hA.filter λx=>x.1== "dross/syntax.survivors";have e4:((Rows.syntaxRowUptoRow.laid.filter λx=>x.2.handleName?.isNone).filter λx=>x.1== "dross/syntax.survivors")=[("dross/syntax.survivors",.agg ((iA.Qc.map λb=>b.data.toList).map λb=>.lit (.string b)))]:=by kernel_rfl
 rw[e4]at h4;have h5:=hA.filter λx=>x.1== "dross/lexer.symbols";have e5:((Rows.syntaxRowUptoRow.laid.filter λx=>x.2.handleName?.isNone).filter λx=>x.1== "dross/lexer.symbols")=[("dross/lexer.symbols",.agg ((iA.ku.map λb=>b.data.toList).map λb=>.lit (.string b)))]:=by kernel_rfl
 rw[e5]at h5;obtain⟨_,_,v1,_⟩:=laid_sentinel h1 gS (ti:=110) (by kernel_rfl) Tryz.underlying110 YBu Tryz.underlying391 Tryz.underlying393 rfl rfl Tryz.underlying9 (by kernel_rfl) (by kernel_rfl);obtain⟨_,_,v2,_⟩:=laid_sentinel h2 gR (ti:=110) (by kernel_rfl) Tryz.underlying110 YBu Tryz.underlying391 Tryz.underlying393 rfl rfl Tryz.underlying9 (by kernel_rfl) (by kernel_rfl);have t0:=Yvg (P:=Tryz.prog) (W:=W) (g:=4) (name:= "internal/strconv.uint64pow10") (by kernel_rfl) (show Lib.TabIs Tryz.prog W "internal/strconv.uint64pow10" .u64 Lib.pow10Tab from Lib.tabIs_of_head (W:=W.memory) (g:=4) (t:=333) (e:=231) (n:=20) (by kernel_rfl) (by kernel_rfl) (by kernel_rfl) (by kernel_rfl) (by kernel_rfl) (by kernel_rfl) h0);have t1:=YqT gS v1;have t2:=YqT gR v2;have t3:=P' (P:=Tryz.prog) (W:=W.memory) (g:=0) (t:=190) (e:=9) (n:=5) (by kernel_rfl) (by kernel_rfl) (by kernel_rfl) (by kernel_rfl) (by kernel_rfl) (by kernel_rfl) h3;have t4:=P' (P:=Tryz.prog) (W:=W.memory) (g:=1) (t:=201) (e:=9) (n:=6) (by kernel_rfl) (by kernel_rfl) (by kernel_rfl) (by kernel_rfl) (by kernel_rfl) (by kernel_rfl) h4;have t5:=P' (P:=Tryz.prog) (W:=W.memory) (g:=2) (t:=259) (e:=9) (n:=20) (by kernel_rfl) (by kernel_rfl) (by kernel_rfl) (by kernel_rfl) (by kernel_rfl) (by kernel_rfl) h5;intro p hp;rcases mT.1 hp with rfl|hp
 .exact t3
 rcases mT.1 hp with rfl|hp
 .exact t4
 rcases mT.1 hp with rfl|hp
 .exact t5
 rcases mT.1 hp with rfl|hp
 .exact t0
 rcases mT.1 hp with rfl|hp
 .exact t1
 rcases mT.1 hp with rfl|hp
 .exact t2
 cases hp
theorem xK(H:Type)(enc:TypeId×Value->H)(W:World)(base:Nat)(args:Array Value)(ds gs:List (DataW H))(before:List MemPlace)
  (Ev: ∀(j:Nat) t v,Tryz.f3.params[j]?=U t->args[j]?=U v->Value.okWide Tryz.prog W .any base t v)
  (hW:DataW.Whole enc Tryz.prog Tryz.f3.params.toList Rows.syntaxRowSpec.vars zj W args.toList ds gs before) (hk:Rows.uptoSmall H (ds++gs)=zZ) (hX:laidMetH Tryz.prog Rows.syntaxRowUptoRow.laid W.memory) (hS:W.ShapedOpen Tryz.prog):
  Calls Tryz.prog 3 args W λe W'=> ∃v,e= .returned v/\Rows.syntaxRowSpec.post enc Tryz.prog Tryz.f3 zj zZ zj zj W args v W':=
 Yu7 (iA.UW YuH).S laid (e:=iL 629 zZ (ik [0] [.s] []) .b [] (iA.iR f_)) (pM ..) (by kernel_rfl) (by kernel_rfl) rfl Tryz.params3 (by kernel_rfl) rfl Tryz.underlying4 (by kernel_rfl) rfl
  (λds hd=>match ds,hd with| [_],_=>rfl) (Eu H) (N:=1048576) (λx hr hs=>⟨zZ,iA.xJ x,rfl⟩) W base args ds gs before Ev hW (of_decide_eq_true hk) (Vz hX)
theorem Yym(os:Os)(args:Array Value):laidMetH Tryz.prog Rows.syntaxRowUptoRow.laid ((World.laidAll Tryz.prog os Rows.syntaxRowUptoRow.laid).forCall (λ_ _=>0) ⟨#[],args,[]⟩).memory:=
 laidMetH_of_parts3 (fuel:=8) (by rw[show(Rows.syntaxRowUptoRow.laid.filter λx=>x.2.handleName?.isNone)=Rows.syntaxRowUptoRow.laid by kernel_rfl];exact laidMet_laidAll args (by kernel_rfl) (by kernel_rfl)) (by kernel_rfl) (by kernel_rfl)
theorem lifted(os:Os)(started:os.Started)(H:Type)(enc:TypeId×Value->H)(F:Stop.Interp):
  ReturnsInHanded {} Tryz.checked os 3 .any (λw args=>((Rows.OpenSpec.upto Rows.syntaxRowSpec).pre enc Tryz.prog Tryz.f3 Rows.syntaxRowUptoRow.domain zj w args/\laidMetH Tryz.prog Rows.syntaxRowUptoRow.laid w)/\sizedMet enc Tryz.prog Tryz.f3 (Rows.OpenSpec.upto Rows.syntaxRowSpec) zj w args) (((Rows.OpenSpec.upto Rows.syntaxRowSpec).at F).post enc Tryz.prog Tryz.f3 zj zZ zj zj):=by
 refine Yyk (C:=Tryz.checked) (s:=Rows.OpenSpec.upto Rows.syntaxRowSpec) (k:=Rows.uptoSmall) (X:=λw=>laidMetH Tryz.prog Rows.syntaxRowUptoRow.laid w) rfl own started (by kernel_rfl) Tryz.func3
  (Yvb (enc:=enc) (C:=Tryz.checked) (s:=Rows.OpenSpec.upto Rows.syntaxRowSpec) (k:=Rows.uptoSmall) rfl zj (World.laidAll Tryz.prog os Rows.syntaxRowUptoRow.laid) #[.string ⟨#[]⟩] 8 (World.laidAll_os _ _ _) (World.shaped_of_ZipB (by kernel_rfl) (by kernel_rfl)) (by kernel_rfl)
   (x:=([.lit (.string [])],[],[])) (by kernel_rfl) rfl (by kernel_rfl) (Yym os _) (by kernel_rfl)) ?_
 intro W base args ds gs before Ev hW hk hX hS;exact xK H enc W base args ds gs before Ev hW hk hX hS
set_option maxHeartbeats 0 in
theorem closed:joinedFacts Tryz.pinned.checked.prog 3 Tryz.f3 (OpenSpec.bare (Rows.OpenSpec.upto Rows.syntaxRowSpec)) Rows.syntaxRowUptoRow=true:=by
 unfold joinedFacts
 repeat' refine Bool.and_eq_true_iff.2 ⟨?_,?_⟩
 all_goals as_aux_lemma=>kernel_rfl
theorem named:Tryz.pinned.checked.prog.funcNamed Rows.syntaxRowUptoRow.func=U 3:=by kernel_rfl
theorem inst:Tryz.f3.isInstance Tryz.pinned.checked.prog Rows.syntaxRowUptoRow.origin Rows.syntaxRowUptoRow.targs:=of_decide_eq_true (by kernel_rfl)
theorem wrap:Tryz.f3.isWrapper Tryz.pinned.checked.prog Rows.syntaxRowUptoRow.wrapper Rows.syntaxRowUptoRow.mainSum:=by unfold Func.isWrapper;first| (rw[if_pos (by decide+kernel)];kernel_rfl)| (rw[if_neg (by decide+kernel)];exact⟨rfl,rfl⟩)
theorem row:Rows.SyntaxRowUptoSaid:=
 OpenClaim.holds_of_cond 3 Tryz.f3 rfl rfl rfl rfl rfl rfl rfl ⟨rfl,rfl,rfl,rfl,rfl⟩ rfl rfl rfl rfl rfl named Tryz.func3 closed inst wrap
  (λos started H enc _ F=>lifted os started H enc F)
theorem YCk:(Tryz.f3.params.toList.all λt=> !Tryz.prog.wantsStandIn t)=true:=by kernel_rfl
theorem sW:Rows.syntaxRowUptoRow.wfByText (Rows.OpenSpec.upto Rows.syntaxRowSpec)=true:=by kernel_rfl
theorem sM:Tryz.pinned.checked.prog.mainIs=U ((zZ, "e1f19d19c121d00825700eea50d72fa6d4482e3b12da1bbd37fd03fefe9501c9").1,(zZ, "e1f19d19c121d00825700eea50d72fa6d4482e3b12da1bbd37fd03fefe9501c9").2.toList):=by kernel_rfl
theorem sL:zZ=Tryz.pinned.checked.prog.looks []:=by kernel_rfl
theorem sG:zj=Rows.syntaxRowUptoRow.goesBy Tryz.pinned.checked.prog:=by kernel_rfl
theorem said:Rows.SyntaxRowUptoCardSaid:=
 Claim7.holds_tied_plain_at .later [] [.data,.data,.data,.sentinel,.sentinel,.widerDeep,.widerDeep,.widerDeep] zZ (zZ, "e1f19d19c121d00825700eea50d72fa6d4482e3b12da1bbd37fd03fefe9501c9") zZ
  row (λ_ h=>by cases h) sW (λ_ h=>by cases h) syntaxRowUpto_row_tie rfl ⟨rfl,rfl⟩ sM rfl
  (λf fn hf hfn=>by
   obtain rfl:f=3:=Option.some.inj (named.symm.trans hf)|>.symm
   obtain rfl:fn=Tryz.f3:=(Option.some.inj (Tryz.func3.symm.trans hfn)).symm;exact⟨sL,λj t ht=>by
    have hm:t∈Tryz.f3.params.toList:=jc (by simpa using ht);have:=ly.1 YCk t hm;exact(show Tryz.prog.wantsStandIn t=zj by simpa using this)⟩)
  sG
end Go.Proofs.YtanbdececkgkhaaGreatDoor.syntaxRow
