/- Functions of this seat's program whose contracts are walked by hand: strconv.ParseUint at base 16, a closure. No condition. -/
import Derived.Test.YtanbdececkgkhaaGreatDoorL
import Derived.Test.YtanbdececkgkhaaGreatDoorB
import Derived.Shelf.Vars
import Derived.Stop.LaidErr
import Derived.Lib.LaidTab
set_option linter.unusedVariables false
set_option linter.unusedSimpArgs false
set_option linter.unusedSectionVars false
open Option renaming some → U,none → zz
open Bool renaming true → zZ,false → zj
open List renaming ext_getElem? → pT
open Nat renaming beq → im
open Option renaming map_eq_some_iff → lS, bind_some → pK
namespace Go.Proofs
open Go.Shelf Go.RowKit Go.Abs
theorem Tryz.tO:CS Tryz.prog 43:=⟨enters_of Tryz.func43 (by rfl) rfl,λx W=>by
 obtain⟨a,n,c⟩:=x
 go_enter Tryz.func43,Tryz.ntmps43
 go_wp2
 all_goals(go_ret;exact⟨by by_cases h:n=0<;>simp[h],0,rfl⟩)⟩
theorem Tryz.P7: ∀w,(zeroValue (Tryz.sD.t 23)).run Tryz.prog w= .ok (.slice zz 0 0) w:=Tryz.zeroValue89
theorem YvL{fm:FM}{w:World}(H:rf fm w){g:Nat}{q:Array Value->Prop}(h:(g,q)∈fm.tb)(d: ∀c,q c->yd c): ∃t p,w.cell? ⟨g,0,zz⟩=U (.iface t p):=by
 obtain⟨c,t,fr,k,y⟩:=H _ h;obtain⟨T,p,rfl⟩:=d c k;exact⟨T,p,by rw[Lib.cell_of_heap y];rfl⟩
def P8(o:Option Nat):Value:=match o with|some n=>.tuple #[.int .u64 n,.nilIface]|none=>.tuple #[.int .u64 0,.iface 373 (.int .i64 2)]
theorem Tryz.C2(s:ByteArray)(H:s.size<=2)(w:World):Calls Tryz.prog 304 #[.string s,.int .i64 16,.int .i64 8] w λe w'=>e= .returned (P8 (bif im s.size 0 then zz else la 0 s.data.toList))/\Below w.heap.size w w':=by
 by_cases h0:s.size=0
 .have:s=⟨#[]⟩:=by
   obtain⟨⟨l⟩⟩:=s;cases l with
   |nil=>rfl
   |cons _ _=>trivial
  subst this;refine(Any.internal_strconv_ParseUint_empty (ρ:=Tryz.lb) {Tryz.mP with} 16 8 w).mono ?_;rintro e w' ⟨rfl,rfl⟩;exact⟨rfl,Below.refl _ _⟩
 .refine(YBM (ρ:=Tryz.lb) {Tryz.mP with} s h0 H w).mono ?_;rintro e w' ⟨rfl,rfl⟩;have d:im s.size 0=false:=by
   cases h:im s.size 0 with
   |false=>rfl
   |true=>simp_all
  rw[d];refine⟨?_,Lib.bytesWorld_below _ _ _⟩;rfl
set_option maxHeartbeats 4000000 in
set_option maxRecDepth 100000 in
theorem Tryz.HJ{fm:FM}{q:Array Value->Prop}(h1:(7,q)∈fm.tb)(hq: ∀c,q c->yd c):vm Tryz.prog fm 295 .u64 2 16 8 ql:=by
 intro s w hs htw;have mixed:=Tryz.mP.mixed;have t110:=Tryz.underlying110;have YGf:=Tryz.isAgg110;have YGg:=Tryz.sizeOf110;have YGh:=Tryz.zeroValue110;have t231:=Tryz.underlying231;have YGi:=Tryz.isAgg231;have YGj:=Tryz.sizeOf231;have YGk:=Tryz.zeroValue231;have t9:=Tryz.underlying9;have a9:=Tryz.isAgg9;have z9:=Tryz.sizeOf9;have v9:=Tryz.zeroValue9;have t3:=Tryz.underlying3;have a3:=Tryz.isAgg3;have z3:=Tryz.sizeOf3;have v3:=Tryz.zeroValue3;have t4:=Tryz.underlying4;have a4:=Tryz.isAgg4;have z4:=Tryz.sizeOf4;have v4:=Tryz.zeroValue4;have YGl: ∀args w,(callFunc 304 args).run Tryz.prog w= .ok (.enter 304 args) w:=enters_of Tryz.func304 (by kernel_rfl) rfl;have YGm: ∀args w,(callFunc 297 args).run Tryz.prog w= .ok (.enter 297 args) w:=enters_of Tryz.func297 (by kernel_rfl) rfl;have hI:=Tryz.C2 s hs w;have hR:ql s=match(bif im s.size 0 then zz else la 0 s.data.toList)with|some n=>((n:Int),zj)|none=>(0,zZ):=by
  unfold ql;cases im s.size 0<;>rfl
 rw[hR];clear hR;generalize(bif im s.size 0 then zz else la 0 s.data.toList)=o at hI;cases o with
 |some v=>
  have hI:Calls Tryz.prog 304 #[.string s,.int .i64 16,.int .i64 8] w λe w'=>e= .returned (.tuple #[.int .u64 v,.nilIface])/\Below w.heap.size w w':=hI
  go_enter Tryz.func295,Tryz.ntmps295
  go_wp2_with (go_at_fn 304;refine hI.mono ?_;rintro e W1 ⟨rfl,hW⟩)
  go_wp2
  go_ret2
  exact⟨⟨_,rfl,.inr ⟨by first|rfl|trivial,by first|rfl|trivial⟩⟩,hW⟩
 |none=>
  obtain⟨t,p,hc⟩:=YvL htw h1 hq;have hI:Calls Tryz.prog 304 #[.string s,.int .i64 16,.int .i64 8] w λe w'=>e= .returned (.tuple #[.int .u64 (0),.iface 373 (.int .i64 2)])/\Below w.heap.size w w':=hI;have hG:7<w.heap.size:=Lib.lt_of_cell hc
  go_enter Tryz.func295,Tryz.ntmps295
  go_wp2_with (go_at_fn 304;refine hI.mono ?_)
  rintro e W1 ⟨rfl,P9⟩;have Fy:W1.cell? ⟨7,0,zz⟩=U (.iface t p):=(P9.cell (show(⟨7,0,zz⟩:Addr).block<w.heap.size from hG)).trans hc
  go_wp2_with (go_at_fn 297;refine(Any.strconv_toError_syntax (ρ:=Tryz.lb) {Tryz.mP with} ⟨#[80,97,114,115,101,85,105,110,116]⟩ s 16 8 (.iface t p) _ (by omega) ?_ (.inr ⟨_,_,rfl⟩)).mono ?_)
  .exact Fy
  rintro e W2 ⟨N,rfl,h1,h2,h3⟩
  go_wp2
  go_ret2
  exact⟨⟨_,rfl,.inl ⟨by first|rfl|trivial,_,_,rfl⟩⟩,P9.trans (h3.mono P9.size)⟩
end Go.Proofs
namespace Go.Abs
open Go.Proofs Go.Shelf
open Go Go.RowKit Go.ChangeShapes Go.ChangeAt Go.WideShapes
theorem Yyk{H:Type}{enc:TypeId×Value->H}{a:Assume}{C:Checked}{os:Os}{f:FuncId}{z:Func}{s:OpenSpec}{k:(H:Type)->List (DataW H)->Bool}(Y:s.cond=U k){F:Stop.Interp}{d:List PathCond}{A p h q:Bool}{X:World->Prop}
  (O:ownKnob C.prog.godebug=zz) (S:os.Started) (N:C.prog.inits.idxOf? f=zz) (K:C.prog.funcs[f]?=U z)
  (y: ∃(w:World) (T:Tape) (i:Input),w.os=os/\ (w.forCall T i).Shaped C.prog/\i.vars=[]/\Input.okWide C.prog (w.forCall T i) .any w.heap.size f i/\
   ((s.pre enc C.prog z d A (w.forCall T i).memory i.args/\X (w.forCall T i).memory)/\sizedMet enc C.prog z s A (w.forCall T i).memory i.args)/\a.holds C.prog (lone (Frame.enter C.prog f i.args .normal) [] (w.forCall T i)))
  (g: ∀(W:World) (base:Nat) (args:Array Value) (ds I:List (DataW H)) (B:List MemPlace),
   (∀(j:Nat) t v,z.params[j]?=U t->args[j]?=U v->Value.okWide C.prog W .any base t v)->
   DataW.Whole enc C.prog z.params.toList s.vars A W args.toList ds I B->k H (ds++I)=zZ->X W.memory->W.ShapedOpen C.prog->
   Calls C.prog f args W λe V=> ∃v,e= .returned v/\ (s.at F).post enc C.prog z A p h q W args v V):
  ReturnsInHanded a C os f .any (λw args=>(s.pre enc C.prog z d A w args/\X w)/\sizedMet enc C.prog z s A w args) ((s.at F).post enc C.prog z A p h q):=by
 refine returnsInHanded_of_calls O S N y ?_;intro w T i _ L _ M D J;obtain⟨_,_,_,P,E,_,_,_,_,G⟩:=M;have e:P=z:=Option.some.inj (E.symm.trans K);subst e;obtain⟨ds,I,B,Z,hc,Q⟩:=(OpenSpec.pre_some Y d A _ _).1 D.1.1;have R:=DataW.Whole.of_heap (w':=w.forCall T i) (by rfl) Z;refine(g (w.forCall T i) w.heap.size i.args ds I B G R Q D.1.2 L).mono λe V ⟨v,he,hp⟩=> ?_;subst he;exact ChangeSpec.post_blind hp
theorem YqT{P:Program}{W:World}{n:String}{g:Nat}{t:TypeId}{x:Value}(H:P.globalNamed n=U g)(h:W.var? P n=U #[.iface t x]): ∃c t f,yd c/\W.heap[g]?=U (.cells c t f):=by
 unfold World.var? at h;rw[H,pK]at h;split at h
 .rename_i cs t' f d;injection h with h
  exact⟨cs,t',f,⟨_,_,h⟩,d⟩
 trivial
end Go.Abs
namespace Go.Abs
open Go.Proofs Go.Shelf
open Go
theorem Yyl{H:Type}{enc:TypeId×Value->H}{P:Program}{w:World}{base:Nat}{S:Nat->Bool}{held:Bool}{fuel:Nat}{t e:TypeId}{n:Nat}{cs:List Value}{B:List (List UInt8)}{p:List MemPlace}
  (y:P.underlying t=U (.array n e)) (z:P.underlying e=U .string) (d:P.cellsOf e=1) (g:P.cellsOf t=n)
  (h:DataW.trod enc P w base S held fuel t cs=U (.agg (B.map λb=>.lit (.string b)),p)):cs=B.map λb=>Value.string ⟨⟨b⟩⟩:=by
 cases fuel with
 |zero=>trivial
 |succ fuel=>
  simp only[DataW.trod,y,d,g,Nat.mul_one]at h;split at h
  .rename_i F;obtain⟨xs,q,G⟩:=lS.1 h;have k:xs.map (·.1)=B.map λb=>(DataW.lit (.string b):DataW H):=by
    simp_all
   have A:xs.length=n:=by simpa using Lib.mapM_length q
   have C:B.length=n:=by
    have:=congrArg List.length k;grind
   apply pT;intro i;by_cases I:i<n
   .obtain⟨b,J,D⟩:=Lib.mapM_at q i i (by grind);obtain⟨s,E,rfl,_⟩:=DataW.trod_string z D;have h1:cs[i]?=U (.string s):=by
     have:=congrArg (·[0]?) E;grind
    have h2:(xs.map (·.1))[i]?=U (DataW.lit (.string s.data.toList):DataW H):=by grind
    simp_all
   simp_all
  trivial
theorem P'{P:Program}{W:World}{name:String}{B:List (List UInt8)}{R:List (String×DataW Unit)}{g:Nat}{t e:TypeId}{n:Nat}
  (A:P.globalNamed name=U g) (y:(P.globals[g]?).map (·.type)=U t) (C:P.underlying t=U (.array n e)) (D:P.underlying e=U .string) (d:P.cellsOf e=1) (k:P.cellsOf t=n)
  (h:laidMet P ((name,.agg (B.map λb=>.lit (.string b)))::R) W): ∃c t f,(c=(B.map λb=>Value.string ⟨⟨b⟩⟩).toArray)/\W.heap[g]?=U (.cells c t f):=by
 obtain⟨E,⟨G,t',cs,fuel,p,q,w,z,H,hd,_,_⟩,_⟩:=h;obtain rfl:=Option.some.inj (A.symm.trans w);obtain rfl:=Option.some.inj (y.symm.trans z);have h:W.var? P name=U (B.map λb=>Value.string ⟨⟨b⟩⟩).toArray:=by
  rw[H,<-Yyl C D d k hd]
 unfold World.var? at h;grind
end Go.Abs
