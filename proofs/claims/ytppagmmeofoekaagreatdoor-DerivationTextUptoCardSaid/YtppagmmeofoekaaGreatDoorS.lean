/- The law DerivationText of chapter 12 returns true for all arguments. Conditions: those of the given statement alone (the arguments are of bulk at most 1048576; the listed variables of the library start as the text lays them). -/
import Derived.Test.YtppagmmeofoekaaGreatDoorT
import Derived.Test.YtppagmmeofoekaaGreatDoorP
import Derived.Test.YtppagmmeofoekaaGreatDoorB
import Derived.Test.YtppagmmeofoekaaGreatDoorD
import Derived.Lay
import Derived.LaidSub
import Derived.Test.YtppagmmeofoekaaGreatDoorRows
import Derived.Test.YtppagmmeofoekaaGreatDoorCards
import Derived.Test.YtppagmmeofoekaaGreatDoorTie
import Derived.JoinedCond
import Derived.SevenTiedAt
set_option linter.unusedVariables false
set_option linter.unusedSimpArgs false
set_option linter.unusedSectionVars false
open List renaming mem_of_getElem? → Yw7, mem_cons → Yxg, all_eq_true → Yxl, mem_cons_self → Yxt
namespace Go.Proofs.YtppagmmeofoekaaGreatDoor.derivationText
open Go.ChangeShapes Go.WideShapes Go.ChangeAt Go.RowKit Go.Abs
set_option maxRecDepth 100000
theorem own:ownKnob Tryz.prog.godebug=none:=by kernel_rfl
theorem laid:laidOutB Tryz.prog=true:=by kernel_rfl
theorem Yw0(H:Type):BulkOK (Rows.uptoBulk (H:=H)) Rows.uptoBulkAll:=
  ⟨fun l=>by simp[Rows.uptoBulk],fun e s=>by simp only[Rows.uptoBulk];omega,fun e=>by simp only[Rows.uptoBulk];omega,by simp[Rows.uptoBulk],fun l=>by cases l<;>simp[Rows.uptoBulk],
    fun d r=>by simp only[Rows.uptoBulkAll];omega⟩
theorem gS:Tryz.prog.globalNamed "strconv.ErrSyntax" =some 4:=by kernel_rfl
theorem gR:Tryz.prog.globalNamed "strconv.ErrRange" =some 5:=by kernel_rfl
theorem Ywn(u:TypeId)(h:Tryz.prog.typeName? 3 u=some "*errors.errorString"):u=139:=
  typeName_ptr_named (nm:= "errors.errorString") (by rw[show "*" ++ "errors.errorString" = "*errors.errorString" by decide];kernel_rfl) (by kernel_rfl) (by decide) u (by rw[show "*" ++ "errors.errorString" = "*errors.errorString" by decide];exact h)
theorem tabX{W:World}(hX:laidMetH Tryz.prog Rows.derivationTextUptoRow.laid W.memory)(hs:W.ShapedOpen Tryz.prog):TabW G12.fm W:=by
  have hA:=(laidMetH_iff.1 hX).1
  have h0:=hA.filter fun x=>x.1==(Rows.derivationTextUptoRow.laid.getD 2 ("",.nil)).1
  have e0:((Rows.derivationTextUptoRow.laid.filter fun x=>x.2.handleName?.isNone).filter fun x=>x.1==(Rows.derivationTextUptoRow.laid.getD 2 ("",.nil)).1)=[((Rows.derivationTextUptoRow.laid.getD 2 ("",.nil)).1,Lib.tabData .u64 Lib.pow10Tab)]:=by kernel_rfl
  rw[e0]at h0
  have h1:=hA.filter fun x=>x.1== "strconv.ErrSyntax"
  have e1:((Rows.derivationTextUptoRow.laid.filter fun x=>x.2.handleName?.isNone).filter fun x=>x.1== "strconv.ErrSyntax")=[("strconv.ErrSyntax",Rows.laid_strconv_ErrSyntax)]:=by kernel_rfl
  rw[e1]at h1
  have h2:=hA.filter fun x=>x.1== "strconv.ErrRange"
  have e2:((Rows.derivationTextUptoRow.laid.filter fun x=>x.2.handleName?.isNone).filter fun x=>x.1== "strconv.ErrRange")=[("strconv.ErrRange",Rows.laid_strconv_ErrRange)]:=by kernel_rfl
  rw[e2]at h2
  obtain⟨_,_,v1,_⟩:=laid_sentinel h1 gS (ti:=52) (by kernel_rfl) Tryz.underlying52 Ywn Tryz.underlying139 Tryz.underlying141 rfl rfl Tryz.underlying9 (by kernel_rfl) (by kernel_rfl)
  obtain⟨_,_,v2,_⟩:=laid_sentinel h2 gR (ti:=52) (by kernel_rfl) Tryz.underlying52 Ywn Tryz.underlying139 Tryz.underlying141 rfl rfl Tryz.underlying9 (by kernel_rfl) (by kernel_rfl)
  have t0:=YpL (P:=Tryz.prog) (W:=W) (g:=0) (name:=(Rows.derivationTextUptoRow.laid.getD 2 ("",.nil)).1) (by kernel_rfl) (show Lib.TabIs Tryz.prog W (Rows.derivationTextUptoRow.laid.getD 2 ("",.nil)).1 .u64 Lib.pow10Tab from Lib.tabIs_of_head (W:=W.memory) (g:=0) (t:=121) (e:=76) (n:=20) (by kernel_rfl) (by kernel_rfl) (by kernel_rfl) (by kernel_rfl) (by kernel_rfl) (by kernel_rfl) h0)
  have t1:=Yln gS v1
  have t2:=Yln gR v2
  have t3:=YtG (g:=3) (t:=3) (zero:= #[.int .i64 0]) hs (by decide+kernel) (by kernel_rfl) rfl (by kernel_rfl) (by kernel_rfl) Tryz.underlying3
  intro p hp
  rcases Yxg.1 hp with rfl|hp
  ·exact t0
  rcases Yxg.1 hp with rfl|hp
  ·exact t3
  rcases Yxg.1 hp with rfl|hp
  ·exact t1
  rcases Yxg.1 hp with rfl|hp
  ·exact t2
  cases hp
theorem contract(H:Type)(enc:TypeId×Value->H)(W:World)(base:Nat)(args:Array Value)(ds gs:List (DataW H))(before:List MemPlace)
    (hval: ∀(j:Nat) t v,Tryz.f3.params[j]?=some t->args[j]?=some v->Value.okWide Tryz.prog W .any base t v)
    (hW:DataW.Whole enc Tryz.prog Tryz.f3.params.toList Rows.derivationTextSpec.vars false W args.toList ds gs before) (hk:Rows.uptoSmall H (ds++gs)=true) (hX:laidMetH Tryz.prog Rows.derivationTextUptoRow.laid W.memory) (hS:W.ShapedOpen Tryz.prog):
    Calls Tryz.prog 3 args W fun e W'=> ∃v,e= .returned v/\Rows.derivationTextSpec.post enc Tryz.prog Tryz.f3 false true false false W args v W':=
  YpG (G12.S81 Ypm).S laid (e:=G12.q80_f loO) (Yxt ..) (by kernel_rfl) (by kernel_rfl) rfl Tryz.params3 (by kernel_rfl) rfl Tryz.underlying4 (by kernel_rfl) rfl
    (fun ds hd=>match ds,hd with| [_],_=>rfl) (Yw0 H) (N:=1048576) (fun x hr hs=>⟨true,G12.text_fin x hr,rfl⟩) W base args ds gs before hval hW (of_decide_eq_true hk) (tabX hX hS)
theorem YtH(os:Os)(args:Array Value):laidMetH Tryz.prog Rows.derivationTextUptoRow.laid ((World.laidAll Tryz.prog os Rows.derivationTextUptoRow.laid).forCall (fun _ _=>0) ⟨#[],args,[]⟩).memory:=
  laidMetH_of_parts3 (fuel:=8) (by rw[show(Rows.derivationTextUptoRow.laid.filter fun x=>x.2.handleName?.isNone)=Rows.derivationTextUptoRow.laid by kernel_rfl];exact laidMet_laidAll args (by kernel_rfl) (by kernel_rfl)) (by kernel_rfl) (by kernel_rfl)
theorem lifted(os:Os)(started:os.Started)(H:Type)(enc:TypeId×Value->H)(F:Stop.Interp):
    ReturnsInHanded {} Tryz.checked os 3 .any (fun w args=>((Rows.OpenSpec.upto Rows.derivationTextSpec).pre enc Tryz.prog Tryz.f3 Rows.derivationTextUptoRow.domain false w args/\laidMetH Tryz.prog Rows.derivationTextUptoRow.laid w)/\sizedMet enc Tryz.prog Tryz.f3 (Rows.OpenSpec.upto Rows.derivationTextSpec) false w args) (((Rows.OpenSpec.upto Rows.derivationTextSpec).at F).post enc Tryz.prog Tryz.f3 false true false false):=by
  refine YtF (C:=Tryz.checked) (s:=Rows.OpenSpec.upto Rows.derivationTextSpec) (k:=Rows.uptoSmall) (X:=fun w=>laidMetH Tryz.prog Rows.derivationTextUptoRow.laid w) rfl own started (by kernel_rfl) Tryz.func3
    (YpK (enc:=enc) (C:=Tryz.checked) (s:=Rows.OpenSpec.upto Rows.derivationTextSpec) (k:=Rows.uptoSmall) rfl false (World.laidAll Tryz.prog os Rows.derivationTextUptoRow.laid) #[.slice none 0 0] 8 (World.laidAll_os _ _ _) (World.shaped_of_ZipB (by kernel_rfl) (by kernel_rfl)) (by kernel_rfl)
      (x:=([.nil],[],[])) (by kernel_rfl) rfl (by kernel_rfl) (YtH os _) (by kernel_rfl)) ?_
  intro W base args ds gs before hval hW hk hX hS
  exact contract H enc W base args ds gs before hval hW hk hX hS
theorem row:Rows.DerivationTextUptoSaid:=
  OpenClaim.holds_of_cond 3 Tryz.f3 rfl rfl rfl rfl rfl rfl rfl ⟨rfl,rfl,rfl,rfl,rfl⟩ rfl rfl rfl rfl rfl (by kernel_rfl) Tryz.func3 (by kernel_rfl)
    (of_decide_eq_true (by kernel_rfl)) (by unfold Func.isWrapper;first| (rw[if_pos (by decide+kernel)];kernel_rfl)| (rw[if_neg (by decide+kernel)];exact⟨rfl,rfl⟩))
    (fun os started H enc _ F=>lifted os started H enc F)
theorem YwH:(Tryz.f3.params.toList.all fun t=> !Tryz.prog.wantsStandIn t)=true:=by kernel_rfl
theorem said:Rows.DerivationTextUptoCardSaid:=
  Claim7.holds_tied_plain_at .later [] [.data,.data,.data,.data,.sentinel,.sentinel,.pinned] true (true, "236a8342ea4dbcb9fa2c8709e69ea058fa5f75b11de1ef59c83228b3d3940e17") true
    row (fun _ h=>by cases h) (by kernel_rfl) (fun _ h=>by cases h) derivationTextUpto_row_tie rfl ⟨rfl,rfl⟩ (by kernel_rfl) rfl
    (fun f fn hf hfn=>by
      obtain rfl:f=3:=Option.some.inj ((show Tryz.prog.funcNamed Rows.derivationTextUptoRow.func=some 3 by kernel_rfl).symm.trans hf)|>.symm
      obtain rfl:fn=Tryz.f3:=(Option.some.inj (Tryz.func3.symm.trans hfn)).symm
      exact⟨by kernel_rfl,fun j t ht=>by
        have hm:t∈Tryz.f3.params.toList:=Yw7 (by simpa using ht)
        have:=Yxl.1 YwH t hm
        exact(show Tryz.prog.wantsStandIn t=false by simpa using this)⟩)
    (by kernel_rfl)
end Go.Proofs.YtppagmmeofoekaaGreatDoor.derivationText
