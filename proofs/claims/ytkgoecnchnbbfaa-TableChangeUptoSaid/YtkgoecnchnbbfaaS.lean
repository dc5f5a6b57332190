/- The law TableChange of chapter 3 returns true for all arguments. Conditions: those of the given statement alone (the arguments are of bulk at most 1048576). -/
import Derived.Test.YtkgoecnchnbbfaaT
import Derived.Test.YtkgoecnchnbbfaaP
import Derived.Test.YtkgoecnchnbbfaaB
import Derived.Test.YtkgoecnchnbbfaaRows
import Derived.JoinedCond
set_option linter.unusedVariables false
set_option linter.unusedSimpArgs false
set_option linter.unusedSectionVars false
open List renaming mem_cons_self → Yz1
open ByteArray renaming mk → YAL
namespace Go.Proofs.Ytkgoecnchnbbfaa.tableChange
open Go.ChangeShapes Go.WideShapes Go.ChangeAt Go.RowKit Go.Abs
set_option maxRecDepth 100000
theorem own:ownKnob Try.prog.godebug=none:=by kernel_rfl
theorem laid:laidOutB Try.prog=true:=by kernel_rfl
theorem Yzx(H:Type):BulkOK (Rows.uptoBulk (H:=H)) Rows.uptoBulkAll:=
  ⟨fun l=>by simp[Rows.uptoBulk],fun e s=>by simp only[Rows.uptoBulk];omega,fun e=>by simp only[Rows.uptoBulk];omega,by simp[Rows.uptoBulk],fun l=>by cases l<;>simp[Rows.uptoBulk],
    fun d r=>by simp only[Rows.uptoBulkAll];omega⟩
theorem contract(H:Type)(enc:TypeId×Value->H)(W:World)(base:Nat)(args:Array Value)(ds gs:List (DataW H))(before:List MemPlace)
    (hval: ∀(j:Nat) t v,Try.f9.params[j]?=some t->args[j]?=some v->Value.okWide Try.prog W .any base t v)
    (hW:DataW.Whole enc Try.prog Try.f9.params.toList Rows.tableChangeSpec.vars false W args.toList ds gs before) (hk:Rows.uptoSmall H (ds++gs)=true):
    Calls Try.prog 9 args W fun e W'=> ∃v,e= .returned v/\Rows.tableChangeSpec.post enc Try.prog Try.f9 false true false false W args v W':=
  YqM (G3c.S100 Yql).S laid (e:=G3c.q99_f loO) (Yz1 ..) (by kernel_rfl) (by kernel_rfl) rfl Try.params9 (by kernel_rfl) rfl Try.underlying4 (by kernel_rfl) rfl
    (fun ds hd=>match ds,hd with| [_,_,_],_=>rfl) (Yzx H) (N:=1048576) (fun x hr hs=>⟨true,G3c.change_law x.1 x.2.1 x.2.2.1 x.2.2.2.1 x.2.2.2.2.1 x.2.2.2.2.2.1 x.2.2.2.2.2.2.1 x.2.2.2.2.2.2.2 (G3c.szR (sz3 hs)) (G3c.szB (sz8 hs)),rfl⟩) W base args ds gs before hval hW (of_decide_eq_true hk) (fun p hp=>nomatch hp)
theorem lifted(os:Os)(started:os.Started)(H:Type)(enc:TypeId×Value->H)(F:Stop.Interp):
    ReturnsInHanded {} Try.checked os 9 .any ((Rows.OpenSpec.upto Rows.tableChangeSpec).pre6 enc Try.prog Try.f9 Rows.tableChangeUptoRow.domain false) (((Rows.OpenSpec.upto Rows.tableChangeSpec).at F).post enc Try.prog Try.f9 false true false false):=by
  refine returnsInHanded_of_cond (C:=Try.checked) (s:=Rows.OpenSpec.upto Rows.tableChangeSpec) (k:=Rows.uptoSmall) rfl own started (by kernel_rfl) Try.func9
    (OpenSpec.witness (enc:=enc) (C:=Try.checked) (s:=Rows.OpenSpec.upto Rows.tableChangeSpec) (k:=Rows.uptoSmall) rfl false ⟨#[], #[.agg #[.string (YAL #[]),.slice none 0 0,.slice none 0 0],.agg #[.int .i64 0,.int .i64 0],.agg #[.int .i64 0,.int .i64 0,.string (YAL #[])]],[]⟩ 8 (by kernel_rfl) (by kernel_rfl) (by kernel_rfl)
      (x:=([.agg [.lit (.string []),.nil,.nil],.agg [.lit (.int .i64 0),.lit (.int .i64 0)],.agg [.lit (.int .i64 0),.lit (.int .i64 0),.lit (.string [])]],[],[])) (by kernel_rfl) rfl (by kernel_rfl)) ?_
  intro W base args ds gs before hval hW _ hk _
  exact contract H enc W base args ds gs before hval hW hk
theorem said:Rows.TableChangeUptoSaid:=
  OpenClaim.holds_of_cond 9 Try.f9 rfl rfl rfl rfl rfl rfl rfl ⟨rfl,rfl,rfl,rfl,rfl⟩ rfl rfl rfl rfl rfl (by kernel_rfl) Try.func9 (by kernel_rfl)
    (of_decide_eq_true (by kernel_rfl)) (by unfold Func.isWrapper;first| (rw[if_pos (by decide+kernel)];kernel_rfl)| (rw[if_neg (by decide+kernel)];exact⟨rfl,rfl⟩))
    (fun os started H enc _ F=>lifted os started H enc F)
end Go.Proofs.Ytkgoecnchnbbfaa.tableChange
