/- Helpers of the plain laws: loops as states by number, tables, short words. No condition. -/
import Derived.Test.YtlmcnindhfbkhaaGreatDoorB
import Derived.Test.YtlmcnindhfbkhaaGreatDoorG1
set_option linter.unusedVariables false
set_option linter.unusedSimpArgs false
set_option linter.unusedSectionVars false
open List renaming getElem?_eq_getElem → YHV, getElem?_map → YHW, map_cons → YHX, map_nil → YHZ, mem_cons → YH1, mem_map → YH2, mem_cons_self → YH5, drop_zero → YH6, take_length → YH8, mem_cons_of_mem → YH9, length_map → YIa, all_eq_true → YIb, map_map → YIc, length_cons → YId, map_append → YIg, drop_of_length_le → YIh, mem_iff_getElem → YIk, getElem?_eq_none → YIl, cons_append → YIm, mem_singleton → YIp
open Nat renaming le_refl → YIr, ble → YIs, le_trans → YIv, zero_add → YIw, mul_le_mul_right → YIy, zero_le → YIz, add_mul → YIA
open Option renaming bind → YIC, map_some → YIE, bind_some → YIF
open Bool renaming and_eq_true → YIK, not_true → YIL, not_false → YIM, eq_iff_iff → YIN, and_self → YIO
open Int renaming toNat_natCast → YIP
open ByteArray renaming mk → YIU
open Go.IntKind renaming wrap → YIV
namespace Go.Abs
theorem wr6{n:Int}(h0: -9223372036854775808<=n)(h1:n<9223372036854775808):YIV .i64 n=n:=by
 have e:(2:Int)^IntKind.bits .i64=18446744073709551616:=rfl
 have e':(2:Int)^(IntKind.bits .i64-1)=9223372036854775808:=rfl
 have s:IntKind.signed .i64=true:=rfl
 simp only[YIV,e,e',s,Bool.true_and,ge_iff_le,decide_eq_true_eq]
 omega
theorem chkT{β:Type}{p:Prop}[Decidable p](x:Option β)(h:p):chk p x=x:=by simp[chk,h]
theorem cT{β:Type}{p:Prop}[Decidable p](x y:β)(h:p):(bif decide p then x else y)=x:=by simp[h]
theorem YCY{α β:Type}(a:α)(f:α->Option β):YIC (some a) f=f a:=rfl
theorem YoI{S R:Type}{step:S->Option (S⊕R)}(st:Nat->S)(N:Nat)(r:R)(he:step (st N)=some (.inr r))(hs: ∀n,n<N->step (st n)=some (.inl (st (n+1)))): ∀k n,n+k=N->YC8 step (st n)=some r
 |0,n,h=>by rw[Yan];simp_all
 |k+1,n,h=>by rw[Yan,hs n (by omega)];exact YoI st N r he hs k (n+1) (by omega)
theorem Yav{S R:Type}{step:S->Option (S⊕R)}{st:Nat->S}{N:Nat}{r:R}{s:S}(hst:s=st 0)(he:step (st N)=some (.inr r))(hs: ∀n,n<N->step (st n)=some (.inl (st (n+1)))):YC8 step s=some r:=by
 subst hst;exact YoI st N r he hs N 0 (by omega)
def tab{α:Type}(n:Nat)(f:Nat->α):List α:=(List.range n).map f
theorem YaB{α:Type}(n:Nat)(f:Nat->α):(tab n f).length=n:=by simp[tab]
theorem Ycb{α:Type}(n:Nat)(f:Nat->α):tab n f++[f n]=tab (n+1) f:=by simp[tab,List.range_succ]
def bl(s:ByteArray):List UInt8:=s.data.toList
theorem YBR(a b:ByteArray)(i j:Nat):(YCZ a i=YCZ b j)↔a.data.getD i 0=b.data.getD j 0:=by
 simp only[YCZ,YIP]
 constructor
 ·intro h
  have:(a.data.getD i 0).toNat=(b.data.getD j 0).toNat:=by omega
  exact UInt8.toNat_inj.1 this
 simp_all
end Go.Abs
namespace Go.Abs.G47
open Go Go.Abs
set_option maxRecDepth 100000
abbrev Vals:=List (Int×Int×ByteArray)
abbrev Rws:=List (Int×Vals)
abbrev Tabl:=ByteArray×List ByteArray×Rws
abbrev Term:=ByteArray×Int×Int×ByteArray
abbrev Atom:=ByteArray×List Term
theorem YBX{clk:Int}{ents:List (Int×ByteArray×Vals)}{m2:Bool}
  {y} (hd:(ents.map (·.1)).Nodup) (hl:ents.length<=maxEl)
  (hy:Yb7 loO (ents.map (·.2.1),clk,clk,[],false,clk,ents,m2)=some y):
  Yel loO ([],clk,ents,m2)=some y:=by
 show rngF Yek (YcW loO) (Yb7 loO) ([],clk,clk,[],false,clk,ents,m2)=some y
 refine YsE (YBS (p:=Yek) (t:=YcW loO) (r:=Yb7 loO) (fun sn=>(sn.map (kAt (YIU #[]) ents),clk,clk,sn,false,clk,ents,m2)) (B:=ents.map (·.1)) (c:=clk) hd (fun sn=>rfl) (fun sn b hb hn hsd hsB=> ?_) (fun sn hp=> ?_))
 ·obtain⟨e,he⟩:=YBV hb
  have hlen:sn.length<ents.length:=by
   have h1:(sn++[b]).Nodup:=by
    rw[List.nodup_append]
    exact⟨hsd,by simp,fun x hx y hy=>by rw[YIp]at hy;subst hy;intro e;subst e;exact hn hx⟩
   have:=List.Nodup.length_le_of_subset h1 (l₂:=ents.map (·.1)) (fun a ha=>by
    rcases List.mem_append.1 ha with ha|ha
    ·exact hsB a ha
    ·rw[YIp]at ha;subst ha;exact hb)
   simp at this;omega
  simp only[YcW,addI,List.getLast?_append,List.getLast?_singleton,Option.some_or,YIF,he,chk,decide_true,cond_true,YIa,List.length_singleton]
  have:decide (sn.length+1<=maxEl)=true:=by simp;omega
  simp only[this,cond_true,YIg,YHX,YHZ,kAt,he]
 ·have hperm:(sn.map (kAt (YIU #[]) ents)).Perm (ents.map (·.2.1)):=by
   rw[<-YBW (d:=YIU #[]) hd];exact hp.map _
  rw[<-hy]
  show YIC (q65 loO (sn.map (kAt (YIU #[]) ents))) _=YIC (q65 loO (ents.map (·.2.1))) _
  have e1:q65 loO (sn.map (kAt (YIU #[]) ents))=q65 loO (ents.map (·.2.1)):=YBU hperm
  rw[e1]
  have e2:=hperm.length_eq
  congr 1
  funext y152
  rw[e2]
def nodB:List Int->Bool
 | []=>true
 |a::r=> !(r.any fun b=>decide (b=a))&&nodB r
theorem YoJ: ∀{l:List Int},nodB l=true->l.Nodup
 | [],_=>List.nodup_nil
 |a::r,h=>by
  simp only[nodB,YIK,Bool.not_eq_true',List.any_eq_false,decide_eq_true_eq]at h
  exact List.nodup_cons.2 ⟨fun hm=>h.1 a hm rfl,YoJ h.2⟩
def j18C(lo:Lo):(List ByteArray×Int×List (Int×ByteArray×Vals)×Bool)->Option (List Vals×Int):=fun x=>match x with
 | (keys,clk,ents,m2)=>bif keys.isEmpty&& (nodB (ents.map (·.1))&&YIs ents.length maxEl)then Yb7 lo (ents.map (·.2.1),clk,clk,[],false,clk,ents,m2)else none
theorem YBY{x y}(h:j18C loO x=some y):Yel loO x=some y:=by
 obtain⟨keys,clk,ents,m2⟩:=x
 unfold j18C at h
 obtain⟨e,hk⟩:=Yab h
 simp only[YIK,List.isEmpty_iff]at e
 obtain⟨rfl,e1,e2⟩:=e
 exact YBX (YoJ e1) (by simpa using e2) hk
def YF4(lo:Lo)(db:List Tabl)(q0:List ByteArray)(q1:List Atom):Option (List Vals×Int):=
 YIC (q40 lo db q0 q1) fun y105=>bif(!decide (y105=(0:Int)))then(some ([],y105))else(YIC (q41 lo db q0 q1) fun y108=>YIC (q50 lo (0:Int) y108.1 y108.2.1 y108.2.2.1 y108.2.2.2.1 y108.2.2.2.2.1 y108.2.2.2.2.2.1 y108.2.2.2.2.2.2.1 y108.2.2.2.2.2.2.2 (0:Int) [] false) fun y163=>chk (y163.2.2.2.1.length=y108.2.2.1.length) (bif(!y163.1)then(some ([],(3:Int)))else(YIC (j18C lo ([],y163.2.2.2.2.2.2.2.2.1,y163.2.2.2.2.2.2.2.2.2.1,y163.2.2.2.2.2.2.2.2.2.2.1)) fun y228=>some (y228.1,y228.2))))
theorem Yhg{α β:Type}{a:Option α}{f g:α->Option β}{y:β}(h: ∀z,f z=some y->g z=some y):YIC a f=some y->YIC a g=some y:=by
 cases a with
 |none=>intro h;cases h
 |some z=>exact h z
theorem YoK{β:Type}{b:Bool}{x x' z:Option β}{y:β}(h:x=some y->x'=some y):(bif b then z else x)=some y->(bif b then z else x')=some y:=by
 cases b with
 |true=>exact id
 |false=>exact h
theorem YBZ{β:Type}{p:Prop}[Decidable p]{x x':Option β}{y:β}(h:x=some y->x'=some y):chk p x=some y->chk p x'=some y:=by
 unfold chk
 cases decide p with
 |true=>exact h
 |false=>exact id
theorem YB0{db q0 q1 y}:YF4 loO db q0 q1=some y->q66 loO db q0 q1=some y:=by
 unfold YF4 q66
 refine Yhg fun _=>YoK (Yhg fun _=>Yhg fun z=>YBZ (YoK ?_))
 intro h
 cases hj:j18C loO ([],z.2.2.2.2.2.2.2.2.1,z.2.2.2.2.2.2.2.2.2.1,z.2.2.2.2.2.2.2.2.2.2.1)with
 |none=>rw[hj]at h;cases h
 |some q=>rw[hj]at h;rw[YBY hj];exact h
noncomputable def R2:Int×Vals:=(q1 (loM 400) 1 [1,2]).getD (0,[])
noncomputable def R3:Int×Vals:=(q1 (loM 400) 2 [1,3]).getD (0,[])
noncomputable def R4:Int×Vals:=(q1 (loM 400) 3 [2,3]).getD (0,[])
noncomputable def R5:Int×Vals:=(q1 (loM 400) 1 [3]).getD (0,[])
noncomputable def T6:Term:=(q2 (loM 400) (YIU #[120])).getD (YIU #[],0,0,YIU #[])
noncomputable def T7:Term:=(q2 (loM 400) (YIU #[121])).getD (YIU #[],0,0,YIU #[])
noncomputable def EA:List Vals×Int:=(YF4 (loM 400) [((YIU #[114]),[(YIU #[97]),(YIU #[98])],[R2,R3,R4]),((YIU #[115]),[(YIU #[99])],[R5])] ([(YIU #[120])]) ([((YIU #[114]),[T6,T7]),((YIU #[115]),[T7])])).getD ([],0)
theorem aw:q99 loO=some true:=by
 have e2:q1 loO 1 [1,2]=some R2:=(congrArg (fun l=>q1 l 1 [1,2]) (Ybn 400)).symm.trans (by kernel_rfl)
 have e3:q1 loO 2 [1,3]=some R3:=(congrArg (fun l=>q1 l 2 [1,3]) (Ybn 400)).symm.trans (by kernel_rfl)
 have e4:q1 loO 3 [2,3]=some R4:=(congrArg (fun l=>q1 l 3 [2,3]) (Ybn 400)).symm.trans (by kernel_rfl)
 have e5:q1 loO 1 [3]=some R5:=(congrArg (fun l=>q1 l 1 [3]) (Ybn 400)).symm.trans (by kernel_rfl)
 have e6:q2 loO (YIU #[120])=some T6:=(congrArg (fun l=>q2 l (YIU #[120])) (Ybn 400)).symm.trans (by kernel_rfl)
 have e7:q2 loO (YIU #[121])=some T7:=(congrArg (fun l=>q2 l (YIU #[121])) (Ybn 400)).symm.trans (by kernel_rfl)
 have eA:q66 loO [((YIU #[114]),[(YIU #[97]),(YIU #[98])],[R2,R3,R4]),((YIU #[115]),[(YIU #[99])],[R5])] ([(YIU #[120])]) ([((YIU #[114]),[T6,T7]),((YIU #[115]),[T7])])=some EA:=
  YB0 ((congrArg (fun l=>YF4 l [((YIU #[114]),[(YIU #[97]),(YIU #[98])],[R2,R3,R4]),((YIU #[115]),[(YIU #[99])],[R5])] ([(YIU #[120])]) ([((YIU #[114]),[T6,T7]),((YIU #[115]),[T7])])) (Ybn 400)).symm.trans (by kernel_rfl))
 unfold q99
 rw[e2,YCY,e3,YCY,e4,YCY,e5,YCY,e6,YCY,e7,YCY,YCY,eA,YCY,<-Ybn 400]
 show(_:Option Bool)=some true
 kernel_rfl
end Go.Abs.G47
namespace Go.Abs
def YC0{R:Type}(f:Nat->Option R):Nat->Nat->R->R
 |0,_,r0=>r0
 |k+1,n,r0=>match f n with
  |some r=>r
  |none=>YC0 f k (n+1) r0
theorem Yhh{R:Type}{f g:Nat->Option R}{r0:R}: ∀(k n:Nat),(∀m,n<=m->m<n+k->f m=g m)->YC0 f k n r0=YC0 g k n r0
 |0,n,h=>rfl
 |k+1,n,h=>by
  simp only[YC0]
  rw[h n (YIr _) (by omega),Yhh k (n+1) (fun m h1 h2=>h m (by omega) (by omega))]
theorem Yak{S R:Type}{step:S->Option (S⊕R)}(st:Nat->S)(f:Nat->Option R)(N:Nat)(r0:R){s:S}(hst:s=st 0)(he:step (st N)=some (.inr r0))
  (hs: ∀n,n<N->step (st n)=some (match f n with|some r=>.inr r|none=>.inl (st (n+1)))):YC8 step s=some (YC0 f N 0 r0):=by
 subst hst
 have: ∀k n,n+k=N->YC8 step (st n)=some (YC0 f k n r0):=by
  intro k
  induction k with
  |zero=>intro n h;rw[Yan];simp only[Nat.add_zero]at h;subst h;rw[he];rfl
  |succ k ih=>
   intro n h
   rw[Yan,hs n (by omega)]
   simp only[YC0]
   grind
 simp_all
theorem YeR{R:Type}{f:Nat->Option R}{r0:R}: ∀(k n:Nat),(∀m,n<=m->m<n+k->f m=none)->YC0 f k n r0=r0
 |0,n,h=>rfl
 |k+1,n,h=>by
  simp only[YC0]
  rw[h n (YIr _) (by omega)]
  exact YeR k (n+1) (fun m h1 h2=>h m (by omega) (by omega))
def anyN(p:Nat->Bool):Nat->Nat->Bool
 |0,_=>false
 |k+1,n=>p n||anyN p k (n+1)
def idxR(p:Nat->Bool)(k n:Nat):Int:=match YC0 (R:=Int⊕Unit) (fun m=>bif p m then some (.inl (m:Int))else none) k n (.inr ())with
 | .inl i=>i
 | .inr _=> -1
theorem YeS(p:Nat->Bool): ∀k n,decide (0<=idxR p k n)=anyN p k n
 |0,n=>rfl
 |k+1,n=>by
  have:=YeS p k (n+1)
  unfold idxR at this⊢
  simp only[YC0,anyN]
  grind
theorem Yhi{p:Nat->Bool}{b:Bool}: ∀k n,(match YC0 (R:=Bool⊕Unit) (fun m=>bif p m then some (.inl b)else none) k n (.inr ())with| .inl x=>x| .inr _=> !b)=(bif anyN p k n then b else !b)
 |0,n=>rfl
 |k+1,n=>by
  simp only[YC0,anyN]
  cases p n with
  |true=>rfl
  |false=>simpa using Yhi (p:=p) (b:=b) k (n+1)
theorem Ybe{R:Type}{f:Nat->Option R}{r0:R}: ∀(k n:Nat),(∃m r,n<=m/\m<n+k/\f m=some r/\YC0 f k n r0=r)\/(YC0 f k n r0=r0/\ ∀m,n<=m->m<n+k->f m=none)
 |0,n=>.inr ⟨rfl,fun m h1 h2=>by omega⟩
 |k+1,n=>by
  simp only[YC0]
  cases hf:f n with
  |some r=>grind
  |none=>
   rcases Ybe (f:=f) (r0:=r0) k (n+1)with⟨m,r,h1,h2,h3,h4⟩| ⟨h1,h2⟩
   ·grind
   grind
theorem YoL(s:ByteArray)(i:Int):0<=YCZ s i/\YCZ s i<256:=by
 unfold YCZ
 have:=(s.data.getD i.toNat 0).toNat_lt
 omega
theorem Yaj{α:Type}{l:List α}{n:Nat}{d:α}(h:n<l.length):l.getD n d∈l:=by
 simp_all
theorem YB1{a b:ByteArray}(hs:a.size=b.size)(h: ∀n:Nat,n<a.size->YCZ a n=YCZ b n):a=b:=by
 have:a.data=b.data:=by
  apply Array.ext hs
  intro i h1 h2
  have:=h i h1
  rw[YBR]at this
  unfold Array.getD at this
  rw[dif_pos h1,dif_pos h2]at this
  trivial
 cases a;simp_all
theorem YoM{α:Type}{a b:List α}{d:α}(hs:a.length=b.length)(h: ∀n,n<a.length->a.getD n d=b.getD n d):a=b:=by
 apply List.ext_getElem hs
 simp_all
theorem Ycc{p:Nat->Bool}: ∀{k n:Nat},anyN p k n=true↔ ∃m,n<=m/\m<n+k/\p m=true
 |0,n=>⟨fun h=>(by cases h),fun⟨m,h1,h2,_⟩=>(by omega)⟩
 |k+1,n=>by
  simp only[anyN,Bool.or_eq_true,Ycc (k:=k) (n:=n+1)]
  grind
theorem Yhj{R:Type}{p:Nat->Bool}(hit:Nat->R)(r0:R)(T:R->Bool)(h0:T r0=false)(h1: ∀m,T (hit m)=true): ∀k n,T (YC0 (fun m=>bif p m then some (hit m)else none) k n r0)=anyN p k n
 |0,n=>h0
 |k+1,n=>by
  simp only[YC0,anyN]
  cases hp:p n with
  |true=>grind
  |false=>simpa using Yhj hit r0 T h0 h1 k (n+1)
theorem Yhk{p:Nat->Bool}(b:Bool)(k n:Nat):YC0 (R:=Bool⊕Unit) (fun m=>bif p m then some (.inl b)else none) k n (.inr ())=bif anyN p k n then .inl b else .inr ():=by
 induction k generalizing n with
 |zero=>rfl
 |succ k ih=>
  simp only[YC0,anyN]
  grind
theorem YbM{α:Type}{l:List α}{n:Nat}{d:α}(h:n<l.length):l.take (n+1)=l.take n++[l.getD n d]:=by
 simp_all
end Go.Abs
namespace Go.Abs.G47
open Go Go.Abs
noncomputable section
theorem YoN{A B C:Type}(b:B)(f:A->Option C)(g:B->Option C):alt2 (.inr b:A⊕B) f g=g b:=rfl
def lt(c:Int):Bool:=decide (97<=c)&&decide (c<=122)||decide (65<=c)&&decide (c<=90)||decide (c=95)
theorem YeT(c:Int):q102 loO c=some (lt c):=by
 unfold q102 lt
 by_cases h1:(97:Int)<=c<;>by_cases h2:c<=(122:Int)<;>by_cases h3:(65:Int)<=c<;>by_cases h4:c<=(90:Int)<;>simp[h1,h2,h3,h4]
def fN(s:ByteArray)(n:Nat):Option (Bool⊕Unit):=
 bif lt (YCZ s n)then none else bif decide (n=0)then some (.inl false)else bif decide (YCZ s n<48)then some (.inl false)else bif decide ((57:Int)<YCZ s n)then some (.inl false)else none
theorem YB2(s:ByteArray)(hs:s.size<=24):Ygm loO (s,(s.size:Int),0)=some (YC0 (fN s) s.size 0 (.inr ())):=by
 refine Yak (fun n=>(s,(s.size:Int),(n:Int))) (fN s) s.size (.inr ()) rfl ?_ (fun n hn=> ?_)
 ·simp[Yd2]
 ·have e1:decide ((n:Int)< (s.size:Int))=true:=by simp;omega
  have e2:YIV .i64 ((n:Int)+1)=((n+1:Nat):Int):=by rw[wr6 (by omega) (by omega)];omega
  simp only[Yd2,e1,cond_true,e2]
  rw[chkT _ (by omega)]
  unfold fN lt
  have e3:decide ((n:Int)=0)=decide (n=0):=by simp
  simp only[e3]
  generalize YCZ s n=c
  by_cases h1:(97:Int)<=c<;>by_cases h2:c<=(122:Int)<;>by_cases h3:(65:Int)<=c<;>by_cases h4:c<=(90:Int)<;>by_cases h5:c=95<;>by_cases h6:n=0<;>by_cases h7:c<48<;>by_cases h8:(57:Int)<c<;>simp[h1,h2,h3,h4,h5,h6,h7,h8]
def nul:ByteArray:=YIU #[110,117,108,108]
def YDs(s:ByteArray):Bool:=
 bif decide (s=YIU #[])then false else bif decide ((24:Int)< (s.size:Int))then false else bif decide (s=nul)then false else
  match YC0 (fN s) s.size 0 (.inr ())with| .inl b=>b| .inr _=>true
theorem YoO(s:ByteArray):q3 loO s=some (YDs s):=by
 unfold q3 YDs nul
 by_cases h1:s=YIU #[]
 ·simp[h1]
 ·by_cases h2:(24:Int)< (s.size:Int)
  ·simp[h1,h2]
  ·by_cases h3:s=YIU #[110,117,108,108]
   ·simp[h1,h2,h3]
   ·simp only[h1,h2,h3,decide_false,cond_false]
    rw[YB2 s (by omega)]
    simp only[YCY]
    cases YC0 (fN s) s.size 0 (.inr ())<;>rfl
def fR(s:ByteArray)(n:Nat):Option (Bool⊕Unit):=
 bif lt (YCZ s n)then none else bif decide (YCZ s n<48)then some (.inl false)else bif decide ((57:Int)<YCZ s n)then some (.inl false)else none
theorem YoP(s:ByteArray)(hs:s.size<=24):YgQ loO (s,0)=some (YC0 (fR s) s.size 0 (.inr ())):=by
 refine Yak (fun n=>(s,(n:Int))) (fR s) s.size (.inr ()) rfl ?_ (fun n hn=> ?_)
 ·simp[Yet]
 ·have e1:decide ((n:Int)< (s.size:Int))=true:=by simp;omega
  have e2:YIV .i64 ((n:Int)+1)=((n+1:Nat):Int):=by rw[wr6 (by omega) (by omega)];omega
  simp only[Yet,e1,cond_true,e2,YeT,YCY]
  rw[chkT _ (by omega)]
  unfold fR
  generalize YCZ s n=c
  have h0:(0:Int)<=(n:Int)/\ (n:Int)< (s.size:Int):=by omega
  cases lt c<;>by_cases h7:c<48<;>by_cases h8:(57:Int)<c<;>simp[h7,h8,chkT,h0]
theorem YHk(s:ByteArray):s.size=0↔s=YIU #[]:=by
 constructor
 ·intro h
  have:s.data= #[]:=Array.eq_empty_of_size_eq_zero h
  cases s;simp_all
 ·intro h;subst h;rfl
theorem YeU(s:ByteArray):q103 loO s=some (YDs s):=by
 unfold q103 YDs nul
 by_cases h1:s=YIU #[]
 ·subst h1;rfl
 ·have h1':s.size≠0:=fun h=>h1 ((YHk s).1 h)
  by_cases h2:(24:Int)< (s.size:Int)
  ·have: ¬ (s.size:Int)=0:=by omega
   simp[h1,h2,this]
  ·have h0: ¬ (s.size:Int)=0:=by omega
   simp only[h1,h2,h0,decide_false,cond_false,YeT,YCY]
   rw[chkT _ (by omega)]
   have hz:YCZ s 0=YCZ s ((0:Nat):Int):=rfl
   have hsz:s.size=(s.size-1)+1:=by omega
   cases hl:lt (YCZ s 0)with
   |false=>
    have:YC0 (fN s) s.size 0 (.inr ())= .inl false:=by
     rw[hsz];simp only[YC0,fN,<-hz,hl];rfl
    rw[this]
    by_cases h3:s=YIU #[110,117,108,108]<;>simp[h3]
   |true=>
    have:YC0 (fN s) s.size 0 (.inr ())=YC0 (fR s) s.size 0 (.inr ()):=Yhh _ _ (fun m _ _=>by
     unfold fN fR
     by_cases hm:m=0
     ·subst hm;rw[<-hz,hl];rfl
     ·simp[hm])
    rw[this,YoP s (by omega)]
    by_cases h3:s=YIU #[110,117,108,108]
    ·simp[h3]
    ·simp only[h3,decide_false,cond_false,YIL,YCY]
     cases YC0 (fR s) s.size 0 (.inr ())<;>rfl
def idxI(l:List ByteArray)(v:ByteArray):Int:=idxR (fun m=>decide (v=l.getD m (YIU #[]))) l.length 0
theorem YB3(l:List ByteArray)(v:ByteArray)(hl:l.length<=maxEl):q4 loO l v=some (idxI l v):=by
 have hm:maxEl=1073741824:=rfl
 have:Ygn loO (l,v,(l.length:Int),0)=some (YC0 (R:=Int⊕Unit) (fun m=>bif decide (v=l.getD m (YIU #[]))then some (.inl (m:Int))else none) l.length 0 (.inr ())):=by
  refine Yak (fun n=>(l,v,(l.length:Int),(n:Int))) _ l.length (Sum.inr ()) rfl ?_ (fun n hn=> ?_)
  ·simp[Yd3]
  ·have e1:decide ((n:Int)< (l.length:Int))=true:=by simp;omega
   have e2:YIV .i64 ((n:Int)+1)=((n+1:Nat):Int):=by rw[wr6 (by omega) (by omega)];omega
   simp only[Yd3,e1,cond_true,e2,YIP]
   rw[chkT _ (by omega)]
   cases decide (v=l.getD n (YIU #[]))<;>rfl
 unfold q4 idxI idxR
 rw[this,YCY]
 cases YC0 (R:=Int⊕Unit) (fun m=>bif decide (v=l.getD m (YIU #[]))then some (.inl (m:Int))else none) l.length 0 (.inr ())<;>rfl
theorem YoQ(l:List ByteArray)(v:ByteArray)(hl:l.length<=maxEl):q5 loO l v=some (decide (0<=idxI l v)):=by
 unfold q5;rw[YB3 l v hl];rfl
theorem Ybo(l:List ByteArray)(v:ByteArray)(hl:l.length<=maxEl):q104 loO l v=some (idxI l v):=by
 have hm:maxEl=1073741824:=rfl
 have:YgR loO (l,v,0)=some (YC0 (R:=Int⊕Unit) (fun m=>bif decide (v=l.getD m (YIU #[]))then some (.inl (m:Int))else none) l.length 0 (.inr ())):=by
  refine Yak (fun n=>(l,v,(n:Int))) _ l.length (Sum.inr ()) rfl ?_ (fun n hn=> ?_)
  ·simp[Yeu]
  ·have e1:decide ((n:Int)< (l.length:Int))=true:=by simp;omega
   have e2:YIV .i64 ((n:Int)+1)=((n+1:Nat):Int):=by rw[wr6 (by omega) (by omega)];omega
   have e3:decide (l.getD n (YIU #[])=v)=decide (v=l.getD n (YIU #[])):=by simp only[eq_comm]
   simp only[Yeu,e1,cond_true,e2,YIP,e3]
   rw[chkT _ (by omega)]
   cases decide (v=l.getD n (YIU #[]))<;>rfl
 unfold q104 idxI idxR
 rw[this,YCY]
 cases YC0 (R:=Int⊕Unit) (fun m=>bif decide (v=l.getD m (YIU #[]))then some (.inl (m:Int))else none) l.length 0 (.inr ())<;>rfl
def vB(v:Int×Int×ByteArray):Bool:=(q6 loO v.1 v.2.1 v.2.2).getD false
theorem Yhl(a b:Int)(c:ByteArray):q6 loO a b c=some (vB (a,b,c)):=by
 unfold vB q6
 by_cases h0:a=0<;>by_cases h1:a=1<;>by_cases h2:a=2<;>by_cases h3:a=3<;>by_cases h4:b=0<;>by_cases h5:1<=b<;>simp[h0,h1,h2,h3,h4,h5]
theorem YoR(a b:Int)(c:ByteArray):q106 loO a b c=some (vB (a,b,c)):=Yhl a b c
abbrev zV:Int×Int×ByteArray:=(0,0,YIU #[])
def vsB(l:Vals):Bool:= !anyN (fun m=> !vB (l.getD m zV)) l.length 0
theorem YB4(l:Vals)(hl:l.length<=maxEl):q10 loO l=some (vsB l):=by
 have hm:maxEl=1073741824:=rfl
 have:Ygo loO (l,(l.length:Int),0)=some (YC0 (R:=Int⊕Unit) (fun m=>bif !vB (l.getD m zV)then some (.inl (m:Int))else none) l.length 0 (.inr ())):=by
  refine Yak (fun n=>(l,(l.length:Int),(n:Int))) _ l.length (Sum.inr ()) rfl ?_ (fun n hn=> ?_)
  ·simp[Yd4]
  ·have e1:decide ((n:Int)< (l.length:Int))=true:=by simp;omega
   have e2:YIV .i64 ((n:Int)+1)=((n+1:Nat):Int):=by rw[wr6 (by omega) (by omega)];omega
   simp only[Yd4,e1,cond_true,e2,YIP,q7,Yhl,YCY]
   rw[chkT _ (by omega)]
   cases vB (l.getD n zV)<;>rfl
 have h2:q8 loO l=some (idxR (fun m=> !vB (l.getD m zV)) l.length 0):=by
  unfold q8 idxR
  rw[this,YCY]
  cases YC0 (R:=Int⊕Unit) (fun m=>bif !vB (l.getD m zV)then some (.inl (m:Int))else none) l.length 0 (.inr ())<;>rfl
 unfold q10 q9 vsB
 rw[h2,YCY,YCY,YeS]
theorem YB5(l:Vals)(hl:l.length<=maxEl):q107 loO l=some (vsB l):=by
 have hm:maxEl=1073741824:=rfl
 have:YgT loO (l,0)=some (YC0 (R:=Bool⊕Unit) (fun m=>bif !vB (l.getD m zV)then some (.inl false)else none) l.length 0 (.inr ())):=by
  refine Yak (fun n=>(l,(n:Int))) _ l.length (Sum.inr ()) rfl ?_ (fun n hn=> ?_)
  ·simp[Yew]
  ·have e1:decide ((n:Int)< (l.length:Int))=true:=by simp;omega
   have e2:YIV .i64 ((n:Int)+1)=((n+1:Nat):Int):=by rw[wr6 (by omega) (by omega)];omega
   simp only[Yew,e1,cond_true,e2,YIP,YoR,YCY]
   rw[chkT _ (by omega)]
   cases vB (l.getD n zV)<;>rfl
 unfold q107 vsB
 rw[this,YCY]
 have h3:=Yhi (p:=fun m=> !vB (l.getD m zV)) (b:=false) l.length 0
 cases hs:YC0 (R:=Bool⊕Unit) (fun m=>bif !vB (l.getD m zV)then some (.inl false)else none) l.length 0 (.inr ())with
 |inl b=>rw[hs]at h3;simp only[alt2];rw[show b=_ from h3];cases anyN (fun m=> !vB (l.getD m zV)) l.length 0<;>rfl
 |inr u=>rw[hs]at h3;simp only[alt2];rw[show true=_ from h3];cases anyN (fun m=> !vB (l.getD m zV)) l.length 0<;>rfl
def fA(l:List ByteArray)(n:Nat):Bool:= !YDs (l.getD n (YIU #[]))||decide (0<=idxI (l.take n) (l.getD n (YIU #[])))
abbrev zR:Int×Vals:=(0,[])
def YEd(rows:Rws):Nat->Int
 |0=>0
 |n+1=>(rows.getD n zR).1
def fV(attrs:List ByteArray)(rows:Rws)(n:Nat):Option (Int⊕Unit):=
 bif decide ((rows.getD n zR).1<=YEd rows n)then some (.inl 1)else bif !decide (((rows.getD n zR).2.length:Int)=(attrs.length:Int))then some (.inl 6)else bif !vsB (rows.getD n zR).2 then some (.inl 1)else none
def YDw(nm:ByteArray)(attrs:List ByteArray)(rows:Rws):Int:=
 bif !YDs nm then 1 else bif decide ((16:Int)< (attrs.length:Int))then 3 else bif decide ((1000:Int)< (rows.length:Int))then 3 else bif anyN (fA attrs) attrs.length 0 then 1 else
  match YC0 (fV attrs rows) rows.length 0 (.inr ())with| .inl i=>i| .inr _=>0
theorem YHl(nm:ByteArray)(attrs:List ByteArray)(rows:Rws):q11 loO nm attrs rows=some (YDw nm attrs rows):=by
 have hm:maxEl=1073741824:=rfl
 unfold q11 YDw
 rw[YoO,YCY]
 cases YDs nm with
 |false=>rfl
 |true=>
  by_cases h1:(16:Int)< (attrs.length:Int)
  ·simp[h1]
  ·by_cases h2:(1000:Int)< (rows.length:Int)
   ·simp[h1,h2]
   ·simp only[h1,h2,decide_false,cond_false,YIL]
    have e20:Ygp loO (attrs,(attrs.length:Int),0,nm,attrs,rows)=some (YC0 (R:=Int⊕ (ByteArray×List ByteArray×Rws)) (fun m=>bif fA attrs m then some (.inl 1)else none) attrs.length 0 (.inr (nm,attrs,rows))):=by
     refine Yak (fun n=>(attrs,(attrs.length:Int),(n:Int),nm,attrs,rows)) _ attrs.length _ rfl ?_ (fun n hn=> ?_)
     ·simp[Yd5]
     ·have e1:decide ((n:Int)< (attrs.length:Int))=true:=by simp;omega
      have e2:YIV .i64 ((n:Int)+1)=((n+1:Nat):Int):=by rw[wr6 (by omega) (by omega)];omega
      simp only[Yd5,e1,cond_true,e2,YIP,YoO,YCY,YH6]
      rw[chkT _ (by omega),chkT _ (by omega),YoQ _ _ (by simp;omega),YCY]
      unfold fA
      cases YDs (attrs.getD n (YIU #[]))<;>cases decide (0<=idxI (attrs.take n) (attrs.getD n (YIU #[])))<;>rfl
    rw[e20,YCY]
    have hsc: ∀k n,YC0 (R:=Int⊕ (ByteArray×List ByteArray×Rws)) (fun m=>bif fA attrs m then some (.inl 1)else none) k n (.inr (nm,attrs,rows))=bif anyN (fA attrs) k n then .inl 1 else .inr (nm,attrs,rows):=by
     intro k
     induction k with
     |zero=>intro n;rfl
     |succ k ih=>intro n;simp only[YC0,anyN];cases fA attrs n with
      |true=>rfl
      |false=>simpa using ih (n+1)
    rw[hsc]
    cases anyN (fA attrs) attrs.length 0 with
    |true=>rfl
    |false=>
     simp only[cond_false,alt2]
     have e3:Ygq loO (0,rows,(rows.length:Int),0,nm,attrs,rows)=some (YC0 (fV attrs rows) rows.length 0 (.inr ())):=by
      refine Yak (fun n=>(YEd rows n,rows,(rows.length:Int),(n:Int),nm,attrs,rows)) _ rows.length _ rfl ?_ (fun n hn=> ?_)
      ·simp[Yd6]
      ·have e1:decide ((n:Int)< (rows.length:Int))=true:=by simp;omega
       have e2:YIV .i64 ((n:Int)+1)=((n+1:Nat):Int):=by rw[wr6 (by omega) (by omega)];omega
       simp only[Yd6,e1,cond_true,e2,YIP]
       rw[chkT _ (by omega)]
       unfold fV
       by_cases g1:(rows.getD n zR).1<=YEd rows n
       ·simp only[g1,decide_true,cond_true]
       ·by_cases g2:((rows.getD n zR).2.length:Int)=(attrs.length:Int)
        ·simp only[g1,g2,decide_false,decide_true,cond_false,YIL]
         rw[YB4 _ (show(rows.getD n zR).2.length<=maxEl by omega),YCY]
         cases vsB (rows.getD n zR).2<;>rfl
        ·simp only[g1,g2,decide_false,cond_false,YIM,cond_true]
     rw[e3,YCY]
     cases YC0 (fV attrs rows) rows.length 0 (.inr ())<;>rfl
theorem YHm(nm:ByteArray)(attrs:List ByteArray)(rows:Rws):q108 loO nm attrs rows=some (YDw nm attrs rows):=by
 have hm:maxEl=1073741824:=rfl
 unfold q108 YDw
 rw[YeU,YCY]
 cases YDs nm with
 |false=>rfl
 |true=>
  by_cases h1:(16:Int)< (attrs.length:Int)
  ·simp[h1]
  ·by_cases h2:(1000:Int)< (rows.length:Int)
   ·simp[h1,h2]
   ·simp only[h1,h2,decide_false,cond_false,YIL]
    have e20:YgS loO (attrs,0)=some (YC0 (R:=Bool⊕Unit) (fun m=>bif fA attrs m then some (.inl false)else none) attrs.length 0 (.inr ())):=by
     refine Yak (fun n=>(attrs,(n:Int))) _ attrs.length _ rfl ?_ (fun n hn=> ?_)
     ·simp[Yev]
     ·have e1:decide ((n:Int)< (attrs.length:Int))=true:=by simp;omega
      have e2:YIV .i64 ((n:Int)+1)=((n+1:Nat):Int):=by rw[wr6 (by omega) (by omega)];omega
      simp only[Yev,e1,cond_true,e2,YIP,YeU,YCY,YH6]
      rw[chkT _ (by omega),chkT _ (by omega),chkT _ (by omega),Ybo _ _ (by simp;omega),YCY]
      unfold fA
      cases YDs (attrs.getD n (YIU #[]))<;>cases decide (0<=idxI (attrs.take n) (attrs.getD n (YIU #[])))<;>rfl
    have eN:q105 loO attrs=some (!anyN (fA attrs) attrs.length 0):=by
     unfold q105
     rw[e20,YCY]
     have h3:=Yhi (p:=fA attrs) (b:=false) attrs.length 0
     cases hs:YC0 (R:=Bool⊕Unit) (fun m=>bif fA attrs m then some (.inl false)else none) attrs.length 0 (.inr ())with
     |inl b=>rw[hs]at h3;simp only[alt2];rw[show b=_ from h3];cases anyN (fA attrs) attrs.length 0<;>rfl
     |inr u=>rw[hs]at h3;simp only[alt2];rw[show true=_ from h3];cases anyN (fA attrs) attrs.length 0<;>rfl
    rw[eN,YCY]
    cases anyN (fA attrs) attrs.length 0 with
    |true=>rfl
    |false=>
     simp only[cond_false,YIM,YIL]
     have e3:YgU loO (0,0,nm,attrs,rows)=some (YC0 (fV attrs rows) rows.length 0 (.inr ())):=by
      refine Yak (fun n=>(YEd rows n,(n:Int),nm,attrs,rows)) _ rows.length _ rfl ?_ (fun n hn=> ?_)
      ·simp[Yex]
      ·have e1:decide ((n:Int)< (rows.length:Int))=true:=by simp;omega
       have e2:YIV .i64 ((n:Int)+1)=((n+1:Nat):Int):=by rw[wr6 (by omega) (by omega)];omega
       simp only[Yex,e1,cond_true,e2,YIP]
       rw[chkT _ (by omega)]
       unfold fV
       by_cases g1:(rows.getD n zR).1<=YEd rows n
       ·simp only[g1,decide_true,cond_true]
       ·by_cases g2:((rows.getD n zR).2.length:Int)=(attrs.length:Int)
        ·simp only[g1,g2,decide_false,decide_true,cond_false,YIL]
         rw[YB5 _ (show(rows.getD n zR).2.length<=maxEl by omega),YCY]
         cases vsB (rows.getD n zR).2<;>rfl
        ·simp only[g1,g2,decide_false,cond_false,YIM,cond_true]
     rw[e3,YCY]
     cases YC0 (fV attrs rows) rows.length 0 (.inr ())<;>rfl
end
end Go.Abs.G47
namespace Go.Abs.G47
open Go Go.Abs
noncomputable section
theorem inc{n N:Nat}(h:n<N)(hN:N<=maxEl):YIV .i64 ((n:Int)+1)=((n+1:Nat):Int):=by
 have hm:maxEl=1073741824:=rfl
 rw[wr6 (by omega) (by omega)];omega
theorem ltI{n N:Nat}(h:n<N):decide ((n:Int)< (N:Int))=true:=by simp_all
theorem nlI(N:Nat):decide ((N:Int)< (N:Int))=false:=by simp
abbrev zT:Tabl:=(YIU #[],[],[])
abbrev zA:Atom:=(YIU #[],[])
abbrev zM:Term:=(YIU #[],0,0,YIU #[])
abbrev nul0:ByteArray:=YIU #[]
def tabP(db:List Tabl)(nm:ByteArray)(n:Nat):Bool:=decide ((db.getD n zT).1=nm)
def tabI(db:List Tabl)(nm:ByteArray):Int:=idxR (tabP db nm) db.length 0
theorem YoS(db:List Tabl)(nm:ByteArray)(h:db.length<=maxEl):q14 loO db nm=some (tabI db nm):=by
 have:Ygr loO (db,(db.length:Int),0,nm)=some (YC0 (R:=(Int×ByteArray)⊕ByteArray) (fun m=>bif tabP db nm m then some (.inl ((m:Int),nm))else none) db.length 0 (.inr nm)):=by
  refine Yak (fun n=>(db,(db.length:Int),(n:Int),nm)) _ db.length _ rfl ?_ (fun n hn=> ?_)
  ·simp[Yd7]
  ·simp only[Yd7,ltI hn,cond_true,inc hn h,YIP,q12,YCY]
   rw[chkT _ (by omega)]
   unfold tabP
   grind
 unfold q14 q13
 rw[this,YCY]
 unfold tabI idxR
 have key: ∀k n,(match YC0 (R:=(Int×ByteArray)⊕ByteArray) (fun m=>bif tabP db nm m then some (.inl ((m:Int),nm))else none) k n (.inr nm)with| .inl i=>Sum.inl (β:=Unit) i.1| .inr _=>.inr ())=YC0 (R:=Int⊕Unit) (fun m=>bif tabP db nm m then some (.inl (m:Int))else none) k n (.inr ()):=by
  intro k
  induction k with
  |zero=>intro n;rfl
  |succ k ih=>intro n;simp only[YC0];grind
 rw[<-key]
 cases YC0 (R:=(Int×ByteArray)⊕ByteArray) (fun m=>bif tabP db nm m then some (.inl ((m:Int),nm))else none) db.length 0 (.inr nm)<;>rfl
theorem rTab(db:List Tabl)(nm:ByteArray)(h:db.length<=maxEl):q109 loO db nm=some (tabI db nm):=by
 have:YgV loO (db,nm,0)=some (YC0 (R:=Int⊕Unit) (fun m=>bif tabP db nm m then some (.inl (m:Int))else none) db.length 0 (.inr ())):=by
  refine Yak (fun n=>(db,nm,(n:Int))) _ db.length _ rfl ?_ (fun n hn=> ?_)
  ·simp[Yey]
  ·simp only[Yey,ltI hn,cond_true,inc hn h,YIP]
   rw[chkT _ (by omega)]
   unfold tabP
   grind
 unfold q109 tabI idxR
 rw[this,YCY]
 cases YC0 (R:=Int⊕Unit) (fun m=>bif tabP db nm m then some (.inl (m:Int))else none) db.length 0 (.inr ())<;>rfl
def tabO(db:List Tabl)(nm:ByteArray):Tabl:=bif decide (0<=tabI db nm)then db.getD (tabI db nm).toNat zT else zT
theorem YbN{p:Nat->Bool}: ∀{k n:Nat},(∃m,n<=m/\m<n+k/\p m=true/\idxR p k n=(m:Int))\/(idxR p k n= -1/\ ∀m,n<=m->m<n+k->p m=false)
 |0,n=>.inr ⟨rfl,fun m h1 h2=>by omega⟩
 |k+1,n=>by
  cases hp:p n with
  |true=>exact .inl ⟨n,YIr _,by omega,hp,by unfold idxR;simp[YC0,hp]⟩
  |false=>
   have e:idxR p (k+1) n=idxR p k (n+1):=by unfold idxR;simp[YC0,hp]
   rcases YbN (p:=p) (k:=k) (n:=n+1)with⟨m,h1,h2,h3,h4⟩| ⟨h1,h2⟩
   ·grind
   grind
theorem YHn(db:List Tabl)(nm:ByteArray)(h:db.length<=maxEl):q25 loO db nm=some ((tabO db nm).1,(tabO db nm).2.1,(tabO db nm).2.2,decide (0<=tabI db nm)):=by
 have:Ygt loO (nm,db,(db.length:Int),0,nul0,[],[])=some (YC0 (R:=(Bool×Tabl)⊕Tabl) (fun m=>bif tabP db nm m then some (.inl (true,db.getD m zT))else none) db.length 0 (.inr zT)):=by
  refine Yak (fun n=>(nm,db,(db.length:Int),(n:Int),nul0,[],[])) _ db.length _ rfl ?_ (fun n hn=> ?_)
  ·simp[Yd9]
  ·simp only[Yd9,ltI hn,cond_true,inc hn h,YIP]
   rw[chkT _ (by omega)]
   unfold tabP
   grind
 unfold q25
 rw[this,YCY]
 have key: ∀k n,YC0 (R:=(Bool×Tabl)⊕Tabl) (fun m=>bif tabP db nm m then some (.inl (true,db.getD m zT))else none) k n (.inr zT)=bif decide (0<=idxR (tabP db nm) k n)then .inl (true,db.getD (idxR (tabP db nm) k n).toNat zT)else .inr zT:=by
  intro k
  induction k with
  |zero=>intro n;rfl
  |succ k ih=>
   intro n
   cases hp:tabP db nm n with
   |true=>unfold idxR;simp[YC0,hp]
   |false=>
    have e:idxR (tabP db nm) (k+1) n=idxR (tabP db nm) k (n+1):=by unfold idxR;simp[YC0,hp]
    rw[e,<-ih (n+1)]
    simp[YC0,hp]
 rw[key]
 unfold tabO tabI
 cases decide (0<=idxR (tabP db nm) db.length 0)<;>rfl
def fD(db:List Tabl)(n:Nat):Option (Int⊕Unit):=
 bif !decide (YDw (db.getD n zT).1 (db.getD n zT).2.1 (db.getD n zT).2.2=0)then some (.inl (YDw (db.getD n zT).1 (db.getD n zT).2.1 (db.getD n zT).2.2))else bif decide (0<=tabI (db.take n) (db.getD n zT).1)then some (.inl 5)else none
def dbI(db:List Tabl):Int:=bif decide ((50:Int)< (db.length:Int))then 3 else match YC0 (fD db) db.length 0 (.inr ())with| .inl i=>i| .inr _=>0
theorem YB6(db:List Tabl):q15 loO db=some (dbI db):=by
 have hm:maxEl=1073741824:=rfl
 unfold q15 dbI
 by_cases h:(50:Int)< (db.length:Int)
 ·simp[h]
 ·have hl:db.length<=maxEl:=by omega
  simp only[h,decide_false,cond_false]
  have:Ygs loO (db,(db.length:Int),0,db)=some (YC0 (fD db) db.length 0 (.inr ())):=by
   refine Yak (fun n=>(db,(db.length:Int),(n:Int),db)) _ db.length _ rfl ?_ (fun n hn=> ?_)
   ·simp[Yd8]
   ·simp only[Yd8,ltI hn,cond_true,inc hn hl,YIP,YHl,YCY,YH6]
    rw[chkT _ (by omega),chkT _ (by omega),YoS _ _ (by grind),YCY]
    unfold fD
    grind
  rw[this,YCY]
  cases YC0 (fD db) db.length 0 (.inr ())<;>rfl
theorem rDb(db:List Tabl):q110 loO db=some (dbI db):=by
 have hm:maxEl=1073741824:=rfl
 unfold q110 dbI
 by_cases h:(50:Int)< (db.length:Int)
 ·simp[h]
 ·have hl:db.length<=maxEl:=by omega
  simp only[h,decide_false,cond_false]
  have:YgW loO (0,db)=some (YC0 (fD db) db.length 0 (.inr ())):=by
   refine Yak (fun n=>((n:Int),db)) _ db.length _ rfl ?_ (fun n hn=> ?_)
   ·simp[Yez]
   ·simp only[Yez,ltI hn,cond_true,inc hn hl,YIP,YHm,YCY,YH6]
    rw[chkT _ (by omega),chkT _ (by omega),chkT _ (by omega),rTab _ _ (by grind),YCY]
    unfold fD
    grind
  rw[this,YCY]
  cases YC0 (fD db) db.length 0 (.inr ())<;>rfl
theorem YB7(nm:ByteArray)(attrs:List ByteArray)(rows:Rws):YDw nm attrs rows≠4:=by
 unfold YDw
 cases YDs nm with
 |false=>simp
 |true=>
  cases decide ((16:Int)< (attrs.length:Int))with
  |true=>simp
  |false=>
   cases decide ((1000:Int)< (rows.length:Int))with
   |true=>simp
   |false=>
    cases anyN (fA attrs) attrs.length 0 with
    |true=>simp
    |false=>
     rcases Ybe (f:=fV attrs rows) (r0:=.inr ()) rows.length 0 with⟨m,r,_,_,h3,h4⟩| ⟨h1,_⟩
     ·unfold fV at h3
      grind
     simp_all
theorem YB8(db:List Tabl):dbI db≠4:=by
 unfold dbI
 cases decide ((50:Int)< (db.length:Int))with
 |true=>simp
 |false=>
  rcases Ybe (f:=fD db) (r0:=.inr ()) db.length 0 with⟨m,r,_,_,h3,h4⟩| ⟨h1,_⟩
  ·rw[h4]
   unfold fD at h3
   cases hv:decide (YDw (db.getD m zT).1 (db.getD m zT).2.1 (db.getD m zT).2.2=0)with
   |false=>rw[hv]at h3;injection h3 with h3;subst h3;exact YB7 _ _ _
   |true=>
    grind
  simp_all
theorem YeV{db:List Tabl}(h:dbI db=0):db.length<=50/\ ∀n,n<db.length->YDw (db.getD n zT).1 (db.getD n zT).2.1 (db.getD n zT).2.2=0:=by
 unfold dbI at h
 by_cases h50:(50:Int)< (db.length:Int)
 ·simp_all
 ·refine⟨by omega,?_⟩
  rcases Ybe (f:=fD db) (r0:=.inr ()) db.length 0 with⟨m,r,_,h2,h3,h4⟩| ⟨h1,hn⟩
  ·unfold fD at h3
   grind
  ·intro n hl
   have:=hn n (YIz _) (by omega)
   unfold fD at this
   grind
theorem YB9{nm:ByteArray}{attrs:List ByteArray}{rows:Rws}(h:YDw nm attrs rows=0):YDs nm=true:=by
 unfold YDw at h
 grind
theorem YCa{db:List Tabl}(h:dbI db=0):tabI db nul0= -1:=by
 rcases YbN (p:=tabP db nul0) (k:=db.length) (n:=0)with⟨m,_,h2,h3,_⟩| ⟨h1,_⟩
 ·exfalso
  have:=YB9 ((YeV h).2 m (by omega))
  rw[of_decide_eq_true (show decide ((db.getD m zT).1=nul0)=true from h3)]at this
  trivial
 trivial
theorem YCb(db:List Tabl):q24 loO db nul0 [] nul0 []=some (bif !decide (dbI db=0)then dbI db else 4):=by
 have hm:maxEl=1073741824:=rfl
 unfold q24
 rw[YB6,YCY]
 by_cases h:dbI db=0
 ·have hl:=(YeV h).1
  simp only[h,decide_true,YIL,cond_false]
  unfold q23
  rw[YoS _ _ (by omega),YCY,YCY,YCa h];rfl
 simp_all
theorem lexL(c:Int):q26 loO c=some (lt c):=YeT c
theorem lexD(c:Int):q27 loO c=some (decide (48<=c)&&decide (c<=57)):=by
 unfold q27
 grind
theorem YCc(s:ByteArray)(hs:s.size<=24):Ygu loO (s,(s.size:Int),0)=some (YC0 (fR s) s.size 0 (.inr ())):=by
 have hm:maxEl=1073741824:=rfl
 refine Yak (fun n=>(s,(s.size:Int),(n:Int))) (fR s) s.size (.inr ()) rfl ?_ (fun n hn=> ?_)
 ·simp[Yea]
 ·simp only[Yea,ltI hn,cond_true,inc hn (show s.size<=maxEl by omega),lexL,lexD,YCY]
  rw[chkT _ (by omega),chkT _ (by omega)]
  unfold fR
  grind
theorem lexN(s:ByteArray):q28 loO s=some (YDs s):=by
 rw[<-YeU]
 unfold q28 q103
 by_cases h1:s=YIU #[]
 ·subst h1;rfl
 ·have h1':s.size≠0:=fun h=>h1 ((YHk s).1 h)
  have h0: ¬ (s.size:Int)=0:=by omega
  by_cases h2:(24:Int)< (s.size:Int)
  ·simp_all
  ·by_cases h3:s=YIU #[110,117,108,108]
   ·subst h3
    rfl
   ·simp only[h1,h2,h3,h0,decide_false,cond_false,lexL,YeT,YCY]
    rw[chkT _ (by omega),chkT _ (by omega),YCc s (by omega),YoP s (by omega),YCY]
def YDF(t:Term):Bool:=bif !decide (t.1=nul0)then YDs t.1&& (decide (t.2.1=0)&& (decide (t.2.2.1=0)&& (decide (t.2.2.2=nul0)&&true)))else vB t.2
theorem YHC(t:Term):q29 loO t.1 t.2.1 t.2.2.1 t.2.2.2=some (YDF t):=by
 unfold q29 YDF
 rw[lexN,Yhl,YCY,YCY]
 grind
theorem YHD(t:Term):q111 loO t.1 t.2.1 t.2.2.1 t.2.2.2=some (YDF t):=by
 unfold q111 YDF
 rw[YeU,YoR,YCY,YCY]
 grind
def badT(l:List Term):Bool:=anyN (fun m=> !YDF (l.getD m zM)) l.length 0
theorem YHo(l:List Term)(h:l.length<=maxEl):q32 loO l=some (badT l):=by
 have:Ygv loO (l,(l.length:Int),0)=some (YC0 (R:=Int⊕Unit) (fun m=>bif !YDF (l.getD m zM)then some (.inl (m:Int))else none) l.length 0 (.inr ())):=by
  refine Yak (fun n=>(l,(l.length:Int),(n:Int))) _ l.length _ rfl ?_ (fun n hn=> ?_)
  ·simp[Yeb]
  ·simp only[Yeb,ltI hn,cond_true,inc hn h,YIP,q30]
   rw[chkT _ (by omega),YHC,YCY,YCY]
   grind
 unfold q32 q31 badT
 rw[this,YCY,<-YeS]
 unfold idxR
 cases YC0 (R:=Int⊕Unit) (fun m=>bif !YDF (l.getD m zM)then some (.inl (m:Int))else none) l.length 0 (.inr ())<;>rfl
theorem YHp(nm:ByteArray)(l:List Term)(h:l.length<=maxEl):q112 loO nm l=some (!badT l):=by
 have:YgX loO (0,nm,l)=some (YC0 (R:=Bool⊕Unit) (fun m=>bif !YDF (l.getD m zM)then some (.inl false)else none) l.length 0 (.inr ())):=by
  refine Yak (fun n=>((n:Int),nm,l)) _ l.length _ rfl ?_ (fun n hn=> ?_)
  ·simp[YeA]
  ·simp only[YeA,ltI hn,cond_true,inc hn h,YIP]
   rw[chkT _ (by omega),YHD,YCY]
   grind
 unfold q112 badT
 rw[this,YCY,Yhk]
 cases anyN (fun m=> !YDF (l.getD m zM)) l.length 0<;>rfl
def addV(out:List ByteArray)(v:ByteArray):List ByteArray:=bif !decide (v=nul0)&&decide (idxI out v<0)then out++[v]else out
def YDJ(out:List ByteArray)(l:List Term):List ByteArray:=l.foldl (fun o t=>addV o t.1) out
def YDn(out:List ByteArray)(l:List Atom):List ByteArray:=l.foldl (fun o a=>YDJ o a.2) out
theorem YCd(out:List ByteArray)(v:ByteArray):(addV out v).length<=out.length+1:=by
 unfold addV
 grind
theorem Yhm: ∀(l:List Term) (out:List ByteArray),(YDJ out l).length<=out.length+l.length
 | [],out=>by simp[YDJ]
 |t::l,out=>by
  have h1:=Yhm l (addV out t.1)
  have h2:=YCd out t.1
  simp only[YDJ,List.foldl_cons,YId]at h1⊢
  omega
def sumT(l:List Atom):Nat:=(l.map fun a=>a.2.length).sum
theorem YeW: ∀(l:List Atom) (out:List ByteArray),(YDn out l).length<=out.length+sumT l
 | [],out=>by simp[YDn,sumT]
 |a::l,out=>by
  have h1:=YeW l (YDJ out a.2)
  have h2:=Yhm a.2 out
  simp only[YDn,sumT,List.foldl_cons,YHX,List.sum_cons]at h1⊢
  omega
theorem Yc9{α β:Type}(f:β->α->β)(b:β){l:List α}{n:Nat}{d:α}(h:n<l.length):(l.take (n+1)).foldl f b=f ((l.take n).foldl f b) (l.getD n d):=by
 rw[YbM (d:=d) h,List.foldl_append];rfl
theorem YCe{l:List Nat}: ∀(n:Nat),(l.take n).sum<=l.sum:=by
 induction l with
 |nil=>simp
 |cons a r ih=>
  intro n
  cases n with
  |zero=>simp
  |succ n=>simp_all
theorem YCf(l:List Atom)(n:Nat):sumT (l.take n)<=sumT l:=by
 unfold sumT;rw[List.map_take];exact YCe n
theorem Yda{l:List Atom}{n:Nat}(h:n<l.length):sumT (l.take n)+(l.getD n zA).2.length<=sumT l:=by
 have:=YCf l (n+1)
 rw[YbM (d:=zA) h]at this
 unfold sumT at this⊢
 grind
theorem YHq(l:List Atom)(h:l.length<=maxEl)(h2:sumT l<=maxEl):q113 loO l=some (YDn [] l):=by
 have inner: ∀(i:Nat) (out:List ByteArray),i<l.length->out.length<=sumT (l.take i)->YgY loO (l,(i:Int),0,out)=some (l,(i:Int),YDJ out (l.getD i zA).2):=by
  intro i out hi ho
  have hb:=Yda hi
  refine Yav (st:=fun n=>(l,(i:Int),(n:Int),YDJ out ((l.getD i zA).2.take n))) (N:=(l.getD i zA).2.length) rfl ?_ (fun n hn=> ?_)
  ·simp only[YeB,YIP,nlI,cond_false,YH8]
   rw[chkT _ (by omega)]
  ·have ht:=Yhm ((l.getD i zA).2.take n) out
   rw[List.length_take,Nat.min_eq_left (by omega)]at ht
   simp only[YeB,YIP,ltI hn,cond_true,inc hn (show(l.getD i zA).2.length<=maxEl by omega)]
   rw[chkT _ (by omega),chkT _ (by omega),chkT _ ⟨by omega,Int.ofNat_lt.2 hn⟩,Ybo _ _ (by omega),YCY]
   have e:YDJ out ((l.getD i zA).2.take (n+1))=addV (YDJ out ((l.getD i zA).2.take n)) ((l.getD i zA).2.getD n zM).1:=Yc9 (fun o (t:Term)=>addV o t.1) out (d:=zM) hn
   rw[e]
   rw[chkT _ (by grind)]
   unfold addV
   grind
 have outer:YgZ loO (l,0,[])=some (YDn [] l):=by
  refine Yav (st:=fun n=>(l,(n:Int),YDn [] (l.take n))) (N:=l.length) rfl ?_ (fun n hn=> ?_)
  ·simp only[YeC,nlI,cond_false,YH8]
  ·have hl:=YeW (l.take n) []
   simp at hl
   simp only[YeC,ltI hn,cond_true]
   rw[inner n _ hn hl,YCY]
   simp only[inc hn h]
   have e:YDn [] (l.take (n+1))=YDJ (YDn [] (l.take n)) (l.getD n zA).2:=Yc9 (fun o (a:Atom)=>YDJ o a.2) [] (d:=zA) hn
   rw[e]
 unfold q113
 simp_all
def inL(l:List ByteArray)(v:ByteArray):Bool:=l.any fun w=>decide (v=w)
theorem inL_iff{l:List ByteArray}{v:ByteArray}:inL l v=true↔v∈l:=by
 unfold inL;simp
theorem Ydb(l:List ByteArray)(v:ByteArray):decide (0<=idxI l v)=inL l v:=by
 unfold idxI
 rw[YeS,YIN,Ycc,inL_iff]
 constructor
 ·simp_all
 ·intro h
  obtain⟨m,hm,e⟩:=YIk.1 h
  exact⟨m,YIz _,by omega,by simp_all⟩
theorem YeX(l:List ByteArray)(v:ByteArray):decide (idxI l v<0)= !inL l v:=by
 rw[<-Ydb];grind
theorem YCg(out:List ByteArray)(w v:ByteArray):v∈addV out w↔v∈out\/(v≠nul0/\w=v):=by
 unfold addV
 rw[YeX]
 by_cases h1:w=nul0
 ·grind
 ·by_cases h2:w∈out
  ·grind
  ·have h3:inL out w=false:=by rw[<-Bool.not_eq_true,inL_iff];exact h2
   grind
theorem YoT: ∀(l:List Term) (out:List ByteArray) (v:ByteArray),v∈YDJ out l↔v∈out\/(v≠nul0/\ ∃t∈l,t.1=v)
 | [],out,v=>by simp[YDJ]
 |t::l,out,v=>by
  have:=YoT l (addV out t.1) v
  simp only[YDJ,List.foldl_cons]at this⊢
  rw[this,YCg]
  grind
theorem Yhn: ∀(l:List Atom) (out:List ByteArray) (v:ByteArray),v∈YDn out l↔v∈out\/(v≠nul0/\ ∃a∈l,∃t∈a.2,t.1=v)
 | [],out,v=>by simp[YDn]
 |a::l,out,v=>by
  have:=Yhn l (YDJ out a.2) v
  simp only[YDn,List.foldl_cons]at this⊢
  rw[this,YoT]
  simp
  constructor
  ·rintro((h| ⟨h1,h2⟩)| ⟨h1,h2⟩)
   ·simp_all
   ·simp_all
   simp_all
  ·rintro(h| ⟨h1,h2|h2⟩)
   ·simp_all
   ·simp_all
   simp_all
def fHd(hd:List ByteArray)(at':List Atom)(n:Nat):Bool:=inL (YDn [] at') (hd.getD n nul0)&& !inL (hd.take n) (hd.getD n nul0)
def YEN(hd:List ByteArray)(at':List Atom):Bool:= !anyN (fun m=> !fHd hd at' m) hd.length 0
theorem YHE(l:List Term)(v:ByteArray)(h:l.length<=maxEl):q35 loO l v=some (anyN (fun m=>decide ((l.getD m zM).1=v)) l.length 0,v):=by
 have:Ygw loO (l,(l.length:Int),0,v)=some (YC0 (R:=(Int×ByteArray)⊕ByteArray) (fun m=>bif decide ((l.getD m zM).1=v)then some (.inl ((m:Int),v))else none) l.length 0 (.inr v)):=by
  refine Yak (fun n=>(l,(l.length:Int),(n:Int),v)) _ l.length _ rfl ?_ (fun n hn=> ?_)
  ·simp[Yec]
  ·simp only[Yec,ltI hn,cond_true,inc hn h,YIP,q33,YCY]
   rw[chkT _ (by omega)]
   grind
 unfold q35 q34
 rw[this,YCY]
 have k1:=Yhj (R:=(Int×ByteArray)⊕ByteArray) (p:=fun m=>decide ((l.getD m zM).1=v)) (fun m=>.inl ((m:Int),v)) (.inr v) (fun r=>match r with| .inl i=>decide (0<=i.1)| .inr _=>false) rfl (fun m=>by simp) l.length 0
 have k2: ∀k n,(match YC0 (R:=(Int×ByteArray)⊕ByteArray) (fun m=>bif decide ((l.getD m zM).1=v)then some (.inl ((m:Int),v))else none) k n (.inr v)with| .inl i=>i.2| .inr b=>b)=v:=by
  intro k
  induction k with
  |zero=>intro n;rfl
  |succ k ih=>intro n;simp only[YC0];grind
 have k2:=k2 l.length 0
 rw[<-k1]
 revert k2
 cases YC0 (R:=(Int×ByteArray)⊕ByteArray) (fun m=>bif decide ((l.getD m zM).1=v)then some (.inl ((m:Int),v))else none) l.length 0 (.inr v)with
 |inl i=>intro k2;subst k2;rfl
 |inr b=>intro k2;subst k2;rfl
theorem YHF(l:List Atom)(v:ByteArray)(h:l.length<=maxEl)(h2:sumT l<=maxEl):q38 loO l v=some (anyN (fun m=>anyN (fun k=>decide (((l.getD m zA).2.getD k zM).1=v)) (l.getD m zA).2.length 0) l.length 0,v):=by
 have:Ygx loO (l,(l.length:Int),0,v)=some (YC0 (R:=(Int×ByteArray)⊕ByteArray) (fun m=>bif anyN (fun k=>decide (((l.getD m zA).2.getD k zM).1=v)) (l.getD m zA).2.length 0 then some (.inl ((m:Int),v))else none) l.length 0 (.inr v)):=by
  refine Yak (fun n=>(l,(l.length:Int),(n:Int),v)) _ l.length _ rfl ?_ (fun n hn=> ?_)
  ·simp[Yed]
  ·have:=Yda hn
   have hg:(l.getD n zA).2.length<=maxEl:=by omega
   simp only[Yed,ltI hn,cond_true,inc hn h,YIP,q36]
   rw[chkT _ (by omega),YHE _ _ hg,YCY,YCY]
   grind
 unfold q38 q37
 rw[this,YCY]
 have k1:=Yhj (R:=(Int×ByteArray)⊕ByteArray) (p:=fun m=>anyN (fun k=>decide (((l.getD m zA).2.getD k zM).1=v)) (l.getD m zA).2.length 0) (fun m=>.inl ((m:Int),v)) (.inr v) (fun r=>match r with| .inl i=>decide (0<=i.1)| .inr _=>false) rfl (fun m=>by simp) l.length 0
 have k2: ∀k n,(match YC0 (R:=(Int×ByteArray)⊕ByteArray) (fun m=>bif anyN (fun k=>decide (((l.getD m zA).2.getD k zM).1=v)) (l.getD m zA).2.length 0 then some (.inl ((m:Int),v))else none) k n (.inr v)with| .inl i=>i.2| .inr b=>b)=v:=by
  intro k
  induction k with
  |zero=>intro n;rfl
  |succ k ih=>intro n;simp only[YC0];grind
 have k2:=k2 l.length 0
 rw[<-k1]
 revert k2
 cases YC0 (R:=(Int×ByteArray)⊕ByteArray) (fun m=>bif anyN (fun k=>decide (((l.getD m zA).2.getD k zM).1=v)) (l.getD m zA).2.length 0 then some (.inl ((m:Int),v))else none) l.length 0 (.inr v)with
 |inl i=>intro k2;subst k2;rfl
 |inr b=>intro k2;subst k2;rfl
theorem Yho{α:Type}(p:α->Bool)(l:List α)(d:α):anyN (fun m=>p (l.getD m d)) l.length 0=l.any p:=by
 rw[YIN,Ycc,List.any_eq_true]
 constructor
 ·grind
 ·rintro⟨x,hx,h3⟩
  obtain⟨m,hm,e⟩:=YIk.1 hx
  refine⟨m,YIz _,by omega,?_⟩
  simp_all
theorem occ(l:List Atom)(v:ByteArray):(!decide (v=nul0)&&anyN (fun m=>anyN (fun k=>decide (((l.getD m zA).2.getD k zM).1=v)) (l.getD m zA).2.length 0) l.length 0)=inL (YDn [] l) v:=by
 have e1:anyN (fun m=>anyN (fun k=>decide (((l.getD m zA).2.getD k zM).1=v)) (l.getD m zA).2.length 0) l.length 0=l.any (fun a=>a.2.any fun t=>decide (t.1=v)):=by
  rw[<-Yho (fun a=>a.2.any fun t=>decide (t.1=v)) l zA]
  congr 1;funext m
  exact Yho (fun t=>decide (t.1=v)) (l.getD m zA).2 zM
 rw[e1,YIN,inL_iff,Yhn]
 simp
theorem YHG(hd:List ByteArray)(l:List Atom)(hh:hd.length<=maxEl)(h:l.length<=maxEl)(h2:sumT l<=maxEl):q39 loO hd l=some (YEN hd l):=by
 have:Ygy loO (hd,(hd.length:Int),0,hd,l)=some (YC0 (R:=Bool⊕Unit) (fun m=>bif !fHd hd l m then some (.inl false)else none) hd.length 0 (.inr ())):=by
  refine Yak (fun n=>(hd,(hd.length:Int),(n:Int),hd,l)) _ hd.length _ rfl ?_ (fun n hn=> ?_)
  ·simp[Yee]
  ·simp only[Yee,ltI hn,cond_true,inc hn hh,YIP,YH6]
   rw[chkT _ (by omega),chkT _ (by omega),YoQ _ _ (by grind),YCY,YHF _ _ h h2,YCY]
   unfold fHd
   rw[<-occ,Ydb]
   grind
 unfold q39 YEN
 rw[this,YCY,Yhk]
 cases anyN (fun m=> !fHd hd l m) hd.length 0<;>rfl
theorem YHH(hd:List ByteArray)(l:List Atom)(hh:hd.length<=maxEl)(h:l.length<=maxEl)(h2:sumT l<=maxEl):q114 loO hd l=some (YEN hd l):=by
 have hv:=YeW l []
 simp at hv
 have:Yg0 loO (YDn [] l,0,hd,l)=some (YC0 (R:=Bool⊕Unit) (fun m=>bif !fHd hd l m then some (.inl false)else none) hd.length 0 (.inr ())):=by
  refine Yak (fun n=>(YDn [] l,(n:Int),hd,l)) _ hd.length _ rfl ?_ (fun n hn=> ?_)
  ·simp[YeD]
  ·simp only[YeD,ltI hn,cond_true,inc hn hh,YIP,YH6]
   rw[chkT _ (by omega),chkT _ (by omega),chkT _ (by omega),Ybo _ _ (by omega),YCY,Ybo _ _ (by grind),YCY]
   unfold fHd
   rw[YeX,Ydb]
   grind
 unfold q114 YEN
 rw[YHq l h h2,YCY,this,YCY,Yhk]
 cases anyN (fun m=> !fHd hd l m) hd.length 0<;>rfl
def fQ(db:List Tabl)(l:List Atom)(n:Nat):Option (Int⊕Unit):=
 bif !decide (0<=tabI db (l.getD n zA).1)then some (.inl 4)else bif !decide (((tabO db (l.getD n zA).1).2.1.length:Int)=((l.getD n zA).2.length:Int))then some (.inl 6)else bif badT (l.getD n zA).2 then some (.inl 1)else none
def qI(db:List Tabl)(hd:List ByteArray)(l:List Atom):Int:=
 bif !decide (dbI db=0)then dbI db else bif decide ((l.length:Int)<1)then 1 else bif decide ((6:Int)< (l.length:Int))then 1 else
  match YC0 (fQ db l) l.length 0 (.inr ())with| .inl i=>i| .inr _=>bif !YEN hd l then 1 else 0
theorem Yhp{R R' T:Type}(f:Nat->Option (R⊕T))(g:Nat->Option (R⊕R'))(t:T)(r0:R')(hf: ∀n,g n=match f n with|some (.inl i)=>some (.inl i)|some (.inr _)=>none|none=>none)(hn: ∀n u,f n≠some (.inr u)): ∀k n,YC0 g k n (.inr r0)=match YC0 f k n (.inr t)with| .inl i=>.inl i| .inr _=>.inr r0
 |0,n=>rfl
 |k+1,n=>by
  simp only[YC0]
  rw[hf]
  cases h:f n with
  |none=>exact Yhp f g t r0 hf hn k (n+1)
  |some x=>grind
theorem YoU(db:List Tabl)(l:List Atom)(n:Nat)(u:Unit):fQ db l n≠some (.inr u):=by
 unfold fQ
 grind
def up{R':Type}(x:Option (Int⊕Unit)):Option (Int⊕R'):=match x with|some (.inl i)=>some (.inl i)|some (.inr _)=>none|none=>none
theorem tQ(db:List Tabl)(hd:List ByteArray)(l:List Atom)(hh:hd.length<=maxEl)(h2:sumT l<=maxEl):q40 loO db hd l=some (qI db hd l):=by
 have hm:maxEl=1073741824:=rfl
 unfold q40 qI
 rw[YCb,YCY]
 by_cases h:dbI db=0
 ·have hl:=(YeV h).1
  simp only[h,decide_true,YIL,cond_false]
  by_cases h1:(l.length:Int)<1
  ·grind
  ·by_cases h6:(6:Int)< (l.length:Int)
   ·simp_all
   ·simp only[h1,h6,decide_false,cond_false]
    have:Ygz loO (l,(l.length:Int),0,db,hd,l)=some (YC0 (R:=Int⊕ (List ByteArray×List Atom)) (fun n=>up (fQ db l n)) l.length 0 (.inr (hd,l))):=by
     refine Yak (fun n=>(l,(l.length:Int),(n:Int),db,hd,l)) _ l.length _ rfl ?_ (fun n hn=> ?_)
     ·simp[Yef]
     ·have:=Yda hn
      have hg:(l.getD n zA).2.length<=maxEl:=by omega
      simp only[Yef,ltI hn,cond_true,inc hn (show l.length<=maxEl by omega),YIP]
      rw[chkT _ (by omega),YHn _ _ (by omega),YCY]
      rw[YHo _ hg,YCY]
      unfold fQ
      cases decide (0<=tabI db (l.getD n zA).1)<;>cases decide (((tabO db (l.getD n zA).1).2.1.length:Int)=((l.getD n zA).2.length:Int))<;>cases badT (l.getD n zA).2<;>rfl
    rw[this,YCY,Yhp (fQ db l) (fun n=>up (fQ db l n)) () (hd,l) (fun n=>by rcases fQ db l n with _| (_|_)<;>rfl) (YoU db l)]
    cases YC0 (fQ db l) l.length 0 (.inr ())with
    |inl i=>rfl
    |inr u=>
     simp only[alt2]
     rw[YHG hd l hh (by omega) h2,YCY]
     grind
 ·have h4:=YB8 db
  simp_all
theorem rQ(db:List Tabl)(hd:List ByteArray)(l:List Atom)(hh:hd.length<=maxEl)(h2:sumT l<=maxEl):q115 loO db hd l=some (qI db hd l):=by
 have hm:maxEl=1073741824:=rfl
 unfold q115 qI
 rw[rDb,YCY]
 by_cases h:dbI db=0
 ·have hl:=(YeV h).1
  simp only[h,decide_true,YIL,cond_false]
  by_cases h1:(l.length:Int)<1
  ·grind
  ·by_cases h6:(6:Int)< (l.length:Int)
   ·simp_all
   ·simp only[h1,h6,decide_false,cond_false]
    have:Yg1 loO (0,db,hd,l)=some (YC0 (R:=Int⊕ (List ByteArray×List Atom)) (fun n=>up (fQ db l n)) l.length 0 (.inr (hd,l))):=by
     refine Yak (fun n=>((n:Int),db,hd,l)) _ l.length _ rfl ?_ (fun n hn=> ?_)
     ·simp[YeE]
     ·have:=Yda hn
      have hg:(l.getD n zA).2.length<=maxEl:=by omega
      simp only[YeE,ltI hn,cond_true,inc hn (show l.length<=maxEl by omega),YIP]
      rw[chkT _ (by omega),rTab _ _ (by omega),YCY]
      have hcm: ∀x y:Nat,decide ((x:Int)=(y:Int))=decide ((y:Int)=(x:Int)):=fun x y=>by grind
      unfold fQ tabO
      rcases YbN (p:=tabP db (l.getD n zA).1) (k:=db.length) (n:=0)with⟨m,_,m2,m3,m4⟩| ⟨m1,_⟩
      ·have e:tabI db (l.getD n zA).1=(m:Int):=m4
       rw[e]
       have e0:decide ((m:Int)<0)=false:=by simp
       have e1:decide ((0:Int)<=(m:Int))=true:=by simp
       simp only[e0,e1,cond_false,cond_true,YIP,YIL]
       rw[chkT _ (by omega),chkT _ (by omega),YHp _ _ hg,YCY,chkT _ (by omega),hcm]
       cases decide ((((db.getD m zT).2.1.length:Nat):Int)=((l.getD n zA).2.length:Int))<;>cases badT (l.getD n zA).2<;>rfl
      ·have e:tabI db (l.getD n zA).1= -1:=m1
       rw[e];rfl
    rw[this,YCY,Yhp (fQ db l) (fun n=>up (fQ db l n)) () (hd,l) (fun n=>by rcases fQ db l n with _| (_|_)<;>rfl) (YoU db l)]
    cases YC0 (fQ db l) l.length 0 (.inr ())with
    |inl i=>rfl
    |inr u=>
     simp only[alt2]
     rw[YHH hd l hh (by omega) h2,YCY]
     grind
 simp_all
theorem YCh{l:List Atom}{k:Nat}(h: ∀n,n<l.length->(l.getD n zA).2.length<=k):sumT l<=l.length*k:=by
 unfold sumT
 have: ∀a∈l,a.2.length<=k:=fun a ha=>by
  obtain⟨m,hm,e⟩:=YIk.1 ha
  grind
 clear h
 induction l with
 |nil=>simp
 |cons a r ih=>
  have h1:=this a (YH5 ..)
  have h2:=ih (fun b hb=>this b (YH9 _ hb))
  simp only[YHX,List.sum_cons,YId,YIA];omega
end
end Go.Abs.G47
namespace Go.Abs.G47
open Go Go.Abs
noncomputable section
abbrev Asg(ν:Type):=ByteArray->Option ν
abbrev Ent(ν:Type):=List (Int×ByteArray×ν)
section
variable{ν:Type}[DecidableEq ν]
omit [DecidableEq ν] in
theorem YoV(k k':ByteArray)(c:Int)(v:ν): ∀l:Ent ν,mfd eqS k' (mpt eqS c k v l)=bif eqS k' k then some v else mfd eqS k' l
 | []=>rfl
 |e::r=>by
  simp only[mpt]
  by_cases h:k=e.2.1
  ·have:eqS k e.2.1=true:=by simp[eqS,h]
   rw[this,cond_true]
   simp only[mfd,<-h]
   cases eqS k' k<;>rfl
  ·have:eqS k e.2.1=false:=by simp[eqS,h]
   rw[this,cond_false]
   simp only[mfd,YoV k k' c v r]
   by_cases h1:k'=e.2.1
   ·have a1:eqS k' e.2.1=true:=by simp[eqS,h1]
    have a2:eqS k' k=false:=by simp only[eqS,decide_eq_false_iff_not];intro e';exact h (e'.symm.trans h1)
    rw[a1,a2];rfl
   ·have a1:eqS k' e.2.1=false:=by simp[eqS,h1]
    rw[a1];rfl
omit [DecidableEq ν] in
theorem YoW{c:Int}{k:ByteArray}{v:ν}: ∀l:Ent ν,(mpt eqS c k v l).map (·.2.1)=(match mfd eqS k l with|some _=>l.map (·.2.1)|none=>l.map (·.2.1)++[k])
 | []=>rfl
 |e::r=>by
  simp only[mpt,mfd]
  cases h:eqS k e.2.1 with
  |true=>
   have:k=e.2.1:=by unfold eqS at h;simpa using h
   simp[this]
  |false=>
   simp only[cond_false,YHX,YoW r]
   cases mfd eqS k r<;>rfl
def lk(l:Ent ν):Asg ν:=fun k=>mfd eqS k l
def upd(σ:Asg ν)(x:ByteArray)(u:ν):Asg ν:=fun k=>if k=x then some u else σ k
def del(σ:Asg ν)(x:ByteArray):Asg ν:=fun k=>if k=x then none else σ k
def KN(l:Ent ν):Prop:=(l.map (·.2.1)).Nodup
omit [DecidableEq ν] in
theorem Yhq(c:Int)(k:ByteArray)(v:ν)(l:Ent ν):lk (mpt eqS c k v l)=upd (lk l) k v:=by
 funext k'
 unfold lk upd
 rw[YoV]
 by_cases h:k'=k<;>simp[eqS,h]
omit [DecidableEq ν] in
theorem mfd_none{k:ByteArray}: ∀{l:Ent ν},mfd eqS k l=none↔k∉l.map (·.2.1)
 | []=>by simp[mfd]
 |e::r=>by
  simp only[mfd,YHX,YH1,not_or]
  by_cases h:k=e.2.1
  ·simp[eqS,h]
  ·have:eqS k e.2.1=false:=by simp[eqS,h]
   rw[this,cond_false,mfd_none (l:=r)]
   simp[h]
omit [DecidableEq ν] in
theorem YoX{c:Int}{k:ByteArray}{v:ν}{l:Ent ν}(h:KN l):KN (mpt eqS c k v l):=by
 unfold KN
 rw[YoW]
 cases hm:mfd eqS k l with
 |some _=>exact h
 |none=>
  rw[List.nodup_append]
  exact⟨h,by simp,fun x hx y hy=>by rw[YIp]at hy;subst hy;intro e;subst e;exact mfd_none.1 hm hx⟩
omit [DecidableEq ν] in
theorem YoY{k x:ByteArray}: ∀{l:Ent ν},x∈ (mdl eqS k l).map (·.2.1)->x∈l.map (·.2.1)
 | [],h=>h
 |e::r,h=>by
  simp only[mdl]at h
  cases hk:eqS k e.2.1 with
  |true=>rw[hk,cond_true]at h;exact YH9 _ h
  |false=>
   rw[hk,cond_false,YHX,YH1]at h
   rw[YHX,YH1]
   exact h.imp_right YoY
omit [DecidableEq ν] in
theorem YoZ{k:ByteArray}: ∀{l:Ent ν},KN l->KN (mdl eqS k l)/\lk (mdl eqS k l)=del (lk l) k
 | [],h=>⟨h,by funext x;unfold lk del;simp[mdl,mfd]⟩
 |e::r,h=>by
  have h':e.2.1∉r.map (·.2.1)/\KN r:=by unfold KN at h⊢;rw[YHX,List.nodup_cons]at h;exact h
  obtain⟨i1,i2⟩:=YoZ (k:=k) h'.2
  simp only[mdl]
  by_cases hk:k=e.2.1
  ·have:eqS k e.2.1=true:=by simp[eqS,hk]
   rw[this,cond_true]
   refine⟨h'.2,?_⟩
   funext x
   unfold lk del
   by_cases hx:x=k
   ·rw[if_pos hx,hx,hk];exact mfd_none.2 h'.1
   ·rw[if_neg hx]
    have:eqS x e.2.1=false:=by simp[eqS,<-hk,hx]
    simp only[mfd,this,cond_false]
  ·have:eqS k e.2.1=false:=by simp[eqS,hk]
   rw[this,cond_false]
   refine⟨?_,?_⟩
   ·show(List.map (·.2.1) (e::mdl eqS k r)).Nodup
    rw[YHX,List.nodup_cons]
    exact⟨fun hm=>h'.1 (YoY hm),i1⟩
   ·funext x
    have i2:=congrFun i2 x
    unfold lk del at i2⊢
    simp only[mfd,i2]
    by_cases hx:x=k
    ·have:eqS x e.2.1=false:=by simp[eqS,hx,hk]
     rw[this];simp[hx]
    ·simp[hx]
def delG(l:Ent ν)(fresh:List ByteArray):Ent ν:=fresh.foldl (fun l k=>mdl eqS k l) l
omit [DecidableEq ν] in
theorem Yo0: ∀(fresh:List ByteArray) {l:Ent ν},KN l->KN (delG l fresh)/\ ∀k,lk (delG l fresh) k=bif inL fresh k then none else lk l k
 | [],l,h=>⟨h,fun k=>rfl⟩
 |x::r,l,h=>by
  obtain⟨h1,h2⟩:=YoZ (k:=x) h
  obtain⟨i1,i2⟩:=Yo0 r h1
  refine⟨i1,fun k=> ?_⟩
  show lk (delG (mdl eqS x l) r) k=_
  rw[i2,h2]
  unfold del
  show _=bif decide (k=x)||inL r k then none else _
  by_cases hx:k=x<;>cases inL r k<;>simp[hx]
def tmM(σ:Asg ν)(x:ByteArray)(c u:ν):Option (Asg ν):=if x=nul0 then(if c=u then some σ else none)else
 match σ x with
 |some w=>if w=u then some σ else none
 |none=>some (upd σ x u)
def tsM:Asg ν->List (ByteArray×ν)->List ν->Option (Asg ν)
 |σ,[],_=>some σ
 |σ,_::_,[]=>none
 |σ,p::ps,u::us=>(tmM σ p.1 p.2 u).bind fun σ'=>tsM σ' ps us
def fitG:List (ByteArray×ν)->List ν->Int->Ent ν->List ByteArray->Bool×Int×Ent ν×List ByteArray
 | [],_,clk,l,fr=>(true,clk,l,fr)
 |_::_,[],clk,l,fr=>(false,clk,l,fr)
 |p::ps,u::us,clk,l,fr=>if p.1=nul0 then(if p.2=u then fitG ps us clk l fr else(false,clk,l,fr))else
  match mfd eqS p.1 l with
  |some w=>if w=u then fitG ps us clk l fr else(false,clk,l,fr)
  |none=>fitG ps us (mck eqS clk p.1 l) (mpt eqS clk p.1 u l) (fr++[p.1])
structure FitOk(σ0:Asg ν)(σ':Option (Asg ν))(r:Bool×Int×Ent ν×List ByteArray)(n:Nat):Prop where
 kn:KN r.2.2.1
 len:r.2.2.2.length<=n
 new: ∀k∈r.2.2.2,σ0 k=none
 old: ∀k,k∉r.2.2.2->lk r.2.2.1 k=σ0 k
 ok:r.1=σ'.isSome
 val: ∀σ1,σ'=some σ1->lk r.2.2.1=σ1
theorem YeY{σ0:Asg ν}: ∀(ps:List (ByteArray×ν)) (us:List ν) (clk:Int) (l:Ent ν) (fr:List ByteArray),KN l->(∀k∈fr,σ0 k=none)->(∀k,k∉fr->lk l k=σ0 k)->
  FitOk σ0 (tsM (lk l) ps us) (fitG ps us clk l fr) (fr.length+ps.length)
 | [],us,clk,l,fr,hk,hf,hl=>⟨hk,by simp[fitG],hf,hl,rfl,fun σ1 h=>by injection h⟩
 |p::ps,[],clk,l,fr,hk,hf,hl=>⟨hk,by simp[fitG],hf,hl,rfl,fun σ1 h=>by cases h⟩
 |p::ps,u::us,clk,l,fr,hk,hf,hl=>by
  have up: ∀{σ' r},FitOk σ0 σ' r (fr.length+ps.length)->FitOk σ0 σ' r (fr.length+(p::ps).length):=fun h=>⟨h.kn,by have:=h.len;grind,h.new,h.old,h.ok,h.val⟩
  have stop:FitOk σ0 none (false,clk,l,fr) (fr.length+(p::ps).length):=⟨hk,by simp,hf,hl,rfl,fun σ1 h=>by cases h⟩
  simp only[fitG,tsM,tmM]
  by_cases h0:p.1=nul0
  ·rw[if_pos h0,if_pos h0]
   by_cases hc:p.2=u
   ·rw[if_pos hc,if_pos hc];exact up (YeY ps us clk l fr hk hf hl)
   simp_all
  ·rw[if_neg h0,if_neg h0]
   have e:lk l p.1=mfd eqS p.1 l:=rfl
   rw[e]
   cases hm:mfd eqS p.1 l with
   |some w=>
    simp only
    by_cases hc:w=u
    ·rw[if_pos hc,if_pos hc];exact up (YeY ps us clk l fr hk hf hl)
    simp_all
   |none=>
    have:=YeY (σ0:=σ0) ps us (mck eqS clk p.1 l) (mpt eqS clk p.1 u l) (fr++[p.1]) (YoX hk) (fun k hk'=>by
     grind) (fun k hk'=>by
     rw[Yhq];unfold upd;simp_all)
    rw[Yhq]at this
    grind
theorem fit0{ps:List (ByteArray×ν)}{us:List ν}(clk:Int){l:Ent ν}(hk:KN l):FitOk (lk l) (tsM (lk l) ps us) (fitG ps us clk l []) ps.length:=by
 have:=YeY (σ0:=lk l) ps us clk l [] hk (fun k h=>by cases h) (fun k _=>rfl)
 simp_all
omit [DecidableEq ν] in
theorem Ycd{σ0:Asg ν}{fr:List ByteArray}{l:Ent ν}(hk:KN l)(hn: ∀k∈fr,σ0 k=none)(ho: ∀k,k∉fr->lk l k=σ0 k):KN (delG l fr)/\lk (delG l fr)=σ0:=by
 obtain⟨h1,h2⟩:=Yo0 fr hk
 refine⟨h1,?_⟩
 funext k
 rw[h2]
 cases h:inL fr k with
 |true=>exact(hn k (inL_iff.1 h)).symm
 |false=>exact ho k fun hm=>by rw[inL_iff.2 hm]at h;cases h
def leA(σ τ:Asg ν):Prop:= ∀k v,σ k=some v->τ k=some v
omit [DecidableEq ν] in
theorem leA.refl(σ:Asg ν):leA σ σ:=fun _ _ h=>h
omit [DecidableEq ν] in
theorem leA.trans{σ τ ρ:Asg ν}(h:leA σ τ)(h':leA τ ρ):leA σ ρ:=fun k v e=>h' k v (h k v e)
def Img(σ:Asg ν):List (ByteArray×ν)->List ν->Prop
 | [],_=>True
 |_::_,[]=>False
 |p::ps,u::us=>(if p.1=nul0 then p.2=u else σ p.1=some u)/\Img σ ps us
omit [DecidableEq ν] in
theorem Img.mono{σ τ:Asg ν}(h:leA σ τ): ∀{ps us},Img σ ps us->Img τ ps us
 | [],_,_=>trivial
 |_::_,[],h'=>h'.elim
 |p::ps,u::us,h'=>by
  refine⟨?_,h'.2.mono h⟩
  have:=h'.1
  by_cases h0:p.1=nul0
  ·rw[if_pos h0]at this⊢;exact this
  ·rw[if_neg h0]at this⊢;exact h _ _ this
theorem YCi{σ σ':Asg ν}{x:ByteArray}{c u:ν}(h:tmM σ x c u=some σ'):leA σ σ'/\if x=nul0 then c=u else σ' x=some u:=by
 unfold tmM at h
 by_cases h0:x=nul0
 ·rw[if_pos h0]at h⊢
  by_cases hc:c=u
  ·rw[if_pos hc]at h;injection h with h;subst h;exact⟨leA.refl _,hc⟩
  simp_all
 ·rw[if_neg h0]at h⊢
  cases hs:σ x with
  |some w=>
   rw[hs]at h;simp only at h
   by_cases hc:w=u
   ·rw[if_pos hc]at h;injection h with h;subst h;exact⟨leA.refl _,by simp_all⟩
   simp_all
  |none=>
   rw[hs]at h;injection h with h;subst h
   refine⟨fun k v e=> ?_,by unfold upd;simp⟩
   unfold upd
   grind
theorem Yhr: ∀{ps:List (ByteArray×ν)} {us:List ν} {σ σ':Asg ν},tsM σ ps us=some σ'->leA σ σ'/\Img σ' ps us
 | [],us,σ,σ',h=>by injection h with h;subst h;exact⟨leA.refl _,trivial⟩
 |_::_,[],_,_,h=>by cases h
 |p::ps,u::us,σ,σ',h=>by
  simp only[tsM]at h
  cases h1:tmM σ p.1 p.2 u with
  |none=>simp_all
  |some σ1=>
   rw[h1]at h
   obtain⟨a1,a2⟩:=YCi h1
   obtain⟨b1,b2⟩:=Yhr (show tsM σ1 ps us=some σ' from h)
   refine⟨a1.trans b1,?_,b2⟩
   by_cases h0:p.1=nul0
   ·simp_all
   ·rw[if_neg h0]at a2⊢;exact b1 _ _ a2
end
end
end Go.Abs.G47
namespace Go.Abs.G47
open Go Go.Abs
noncomputable section
theorem YE1{A B:Type}{a:Option A}{f g:A->Option B}{y:B}(h:YIC a f=some y)(k: ∀z,f z=some y->g z=some y):YIC a g=some y:=by
 cases a with
 |none=>cases h
 |some z=>simp_all
theorem YEE{A B:Type}{a a':Option A}{f g:A->Option B}{y:B}(h:YIC a f=some y)(ha: ∀z,a=some z->a'=some z)(k: ∀z,f z=some y->g z=some y):YIC a' g=some y:=by
 cases a with
 |none=>cases h
 |some z=>simp_all
theorem chkm{B:Type}{p:Prop}[Decidable p]{a a':Option B}{y:B}(h:chk p a=some y)(k:a=some y->a'=some y):chk p a'=some y:=by
 by_cases hp:p
 ·rw[chkT _ hp]at*;grind
 ·simp[chk,hp]at h
theorem YD2{B:Type}{c:Bool}{a a' x x':Option B}{y:B}(h:(bif c then a else x)=some y)(k:a=some y->a'=some y)(k':x=some y->x'=some y):(bif c then a' else x')=some y:=by
 grind
theorem YeZ{S R:Type}{s s':S->Option (S⊕R)}(h: ∀x y,s x=some y->s' x=some y){x:S}{y:R}(hy:YC8 s x=some y):YC8 s' x=some y:=by
 obtain⟨n,hn⟩:=YcN hy
 refine Yb3 (n:=n) ?_
 clear hy
 induction n generalizing x with
 |zero=>cases hn
 |succ n ih=>
  simp only[YDE]at hn⊢
  grind
theorem YaM{α:Type}{l:List α}{n:Nat}{d:α}(h:n<l.length):l.drop n=l.getD n d::l.drop (n+1):=by
 simp_all
abbrev pT(l:List Term):List (ByteArray×Term):=l.map fun t=>(t.1,t)
end
end Go.Abs.G47
namespace Go.Abs.G47
open Go Go.Abs
noncomputable section
abbrev Val:=Int×Int×ByteArray
abbrev Way:=List Int×Asg Val
def pV(l:List Term):List (ByteArray×Val):=l.map fun t=>(t.1,t.2)
theorem eqV(a b:Val):(decide (a.1=b.1)&& (decide (a.2.1=b.2.1)&& (decide (a.2.2=b.2.2)&&true)))=decide (a=b):=by
 grind
def wyM:List (List Term×Rws)->Asg Val->List Int->List Way
 | [],σ,r=>[(r,σ)]
 |q::rest,σ,r=>q.2.flatMap fun row=>match tsM σ (pV q.1) row.2 with
  |some σ'=>wyM rest σ' (r++[row.1])
  |none=>[]
def visit{E:Type}(see:Way->E->Bool×E):List Way->E->Bool×E
 | [],e=>(true,e)
 |w::ws,e=>match see w e with
  | (true,e')=>visit see ws e'
  | (false,e')=>(false,e')
theorem Ye0{E:Type}(see:Way->E->Bool×E)(b:List Way): ∀(a:List Way) (e:E),visit see (a++b) e=match visit see a e with| (true,e')=>visit see b e'| (false,e')=>(false,e')
 | [],e=>rfl
 |w::a,e=>by
  simp only[YIm,visit]
  rcases h:see w e with⟨_|_,e'⟩
  ·rfl
  ·exact Ye0 see b a e'
theorem Ye1{E:Type}{see:Way->E->Bool×E}{I:E->Prop}(hs: ∀w e,I e->(see w e).1=true->I (see w e).2): ∀{ws:List Way} {e:E},I e->(visit see ws e).1=true->I (visit see ws e).2
 | [],e,h,_=>h
 |w::ws,e,h,hv=>by
  have h1:=hs w e h
  simp only[visit]at hv⊢
  rcases hx:see w e with⟨_|_,e'⟩
  ·simp_all
  ·rw[hx]at hv h1;exact Ye1 hs (h1 rfl) hv
def PR(l:List Atom)(tb:List Tabl):List (List Term×Rws):=List.zipWith (fun a t=>(a.2,t.2.2)) l tb
theorem Yhs{l:List Atom}{tb:List Tabl}(h:l.length=tb.length){n:Nat}(hn:n<l.length):(PR l tb).drop n=((l.getD n zA).2,(tb.getD n zT).2.2)::(PR l tb).drop (n+1):=by
 unfold PR
 have h2:n< (List.zipWith (fun(a:Atom) (t:Tabl)=>(a.2,t.2.2)) l tb).length:=by simp_all
 rw[List.drop_eq_getElem_cons h2]
 simp_all
theorem Yht{l:List Atom}{tb:List Tabl}(h:l.length=tb.length):(PR l tb).drop l.length=[]:=by
 apply YIh
 unfold PR;simp_all
structure TbOk(l:List Atom)(tb:List Tabl):Prop where
 len:l.length=tb.length
 sm:l.length<=6
 tl: ∀n,n<l.length->(l.getD n zA).2.length<=maxEl
 rl: ∀n,n<l.length->(tb.getD n zT).2.2.length<=maxEl
 ar: ∀n,n<l.length-> ∀row∈ (tb.getD n zT).2.2,row.2.length=(l.getD n zA).2.length
end
end Go.Abs.G47
namespace Go.Abs.G47
open Go Go.Abs
noncomputable section
abbrev E:=Int×Ent Vals×Bool
abbrev RRec:=Int×List ByteArray×List Atom×List Tabl×Int×Ent Val×Bool×Bool×List Int×Int×Ent Vals×Bool->Option (Bool×List ByteArray×List Atom×List Tabl×Int×Ent Val×Bool×Bool×Int×Ent Vals×Bool×List Int)
theorem YCj(ts:List Term)(us:Vals)(r0:Int)(hd:List ByteArray)(l0:List Atom)(tb:List Tabl)(m2 m3:Bool)(rs:List Int)(e:E)(h:us.length=ts.length)(hm:ts.length<=maxEl): ∀(k n:Nat),n+k=ts.length-> ∀(clk:Int) (l:Ent Val) (fr:List ByteArray),fr.length+k<=maxEl->
  YgC loO (ts,(ts.length:Int),(n:Int),hd,l0,tb,clk,l,m2,m3,rs,e.1,e.2.1,e.2.2,r0,us,fr)=some (let r:=fitG ((pV ts).drop n) (us.drop n) clk l fr
   bif r.1 then .inr (hd,l0,tb,r.2.1,r.2.2.1,m2,m3,rs,e.1,e.2.1,e.2.2,r.2.2.2)else .inl (false,hd,l0,tb,r.2.1,r.2.2.1,m2,m3,rs,e.1,e.2.1,e.2.2,r.2.2.2)):=by
 have hM:maxEl=1073741824:=rfl
 intro k
 induction k with
 |zero=>
  intro n hn clk l fr hf
  show YC8 _ _=_
  rw[Yan]
  have e:n=ts.length:=by omega
  subst e
  simp only[YcR,nlI,cond_false]
  rw[YIh (by unfold pV;simp)]
  rfl
 |succ k ih=>
  intro n hn clk l fr hf
  have hlt:n<ts.length:=by omega
  show YC8 _ _=_
  have e1:(pV ts).drop n=((ts.getD n zM).1,(ts.getD n zM).2)::(pV ts).drop (n+1):=by
   unfold pV
   rw[YaM (d:=(zM.1,zM.2)) (by simp_all)]
   simp
  rw[e1,YaM (l:=us) (d:=zV) (by omega)]
  have key: ∀(t:Term) (u:Val),ts.getD n zM=t->us.getD n zV=u->YC8 (YcR loO) (ts,(ts.length:Int),(n:Int),hd,l0,tb,clk,l,m2,m3,rs,e.1,e.2.1,e.2.2,r0,us,fr)=some (let r:=fitG ((t.1,t.2)::(pV ts).drop (n+1)) (u::us.drop (n+1)) clk l fr
   bif r.1 then .inr (hd,l0,tb,r.2.1,r.2.2.1,m2,m3,rs,e.1,e.2.1,e.2.2,r.2.2.2)else .inl (false,hd,l0,tb,r.2.1,r.2.2.1,m2,m3,rs,e.1,e.2.1,e.2.2,r.2.2.2)):=by
   intro t u ht hu'
   rw[Yan]
   simp only[YcR,ltI hlt,cond_true,YIP,Yeh,fitG,ht,hu']
   rw[chkT _ (by omega)]
   by_cases h0:t.1=nul0
   ·rw[if_pos h0]
    simp only[h0,decide_true,YIL,cond_false]
    rw[chkT _ (by omega),eqV t.2 u]
    by_cases hu:t.2=u
    ·rw[if_pos hu]
     simp only[hu,decide_true,YIL,cond_false,YCY,alt2,inc hlt hm]
     exact ih (n+1) (by omega) clk l fr (by omega)
    ·rw[if_neg hu]
     simp only[hu,decide_false,YIM,cond_true,YCY,alt2]
     rfl
   ·rw[if_neg h0]
    have e0:decide (t.1=nul0)=false:=decide_eq_false h0
    simp only[e0,YIM,cond_true]
    unfold mhs mgt
    cases hf:mfd eqS t.1 l with
    |none=>
     simp
     rw[chkT _ (by omega),chkT _ (by grind),YCY]
     simp only[alt2,inc hlt hm]
     exact ih (n+1) (by omega) _ _ _ (by grind)
    |some w=>
     simp only[YIL,cond_false]
     rw[chkT _ (by omega),eqV w u]
     by_cases hu:w=u
     ·rw[if_pos hu]
      simp only[hu,decide_true,YIL,cond_false,YCY,alt2,inc hlt hm]
      exact ih (n+1) (by omega) clk l fr (by omega)
     ·rw[if_neg hu]
      simp only[hu,decide_false,YIM,cond_true,YCY,alt2]
      rfl
  simp_all
theorem fit(a0:ByteArray)(ts:List Term)(us:Vals)(r0:Int)(hd:List ByteArray)(l0:List Atom)(tb:List Tabl)(m2 m3:Bool)(rs:List Int)(e:E)(clk:Int)(l:Ent Val)(h:us.length=ts.length)(hm:ts.length<=maxEl):
  q49 loO a0 ts r0 us hd l0 tb clk l m2 m3 rs e.1 e.2.1 e.2.2=some ((fitG (pV ts) us clk l []).1,hd,l0,tb,(fitG (pV ts) us clk l []).2.1,(fitG (pV ts) us clk l []).2.2.1,m2,m3,rs,e.1,e.2.1,e.2.2,(fitG (pV ts) us clk l []).2.2.2):=by
 unfold q49
 have:=YCj ts us r0 hd l0 tb m2 m3 rs e h hm ts.length 0 (by omega) clk l [] (by simp_all)
 rw[YH6,YH6,show((0:Nat):Int)=0 from rfl]at this
 rw[this,YCY]
 generalize fitG (pV ts) us clk l []=r
 obtain⟨_|_,r⟩:=r<;>rfl
theorem delR(rec:RRec)(i n m:Int)(on:Bool)(R:Rws)(fr:List ByteArray)(hd:List ByteArray)(l0:List Atom)(tb:List Tabl)(clk:Int)(l:Ent Val)(m2 m3:Bool)(rs:List Int)(e:E)(h:fr.length<=maxEl):
  Yej loO rec (i,on,R,n,m,(fr.length:Int),0,hd,l0,tb,clk,l,m2,m3,e.1,e.2.1,e.2.2,fr,rs)=some (i,on,R,n,m,hd,l0,tb,clk,delG l fr,m2,m3,e.1,e.2.1,e.2.2,rs):=by
 refine Yav (st:=fun j=>(i,on,R,n,m,(fr.length:Int),(j:Int),hd,l0,tb,clk,delG l (fr.take j),m2,m3,e.1,e.2.1,e.2.2,fr,rs)) (N:=fr.length) rfl ?_ (fun j hj=> ?_)
 ·simp only[Yei,nlI,cond_false,YH8]
 ·simp only[Yei,ltI hj,cond_true,inc hj h,YIP]
  rw[chkT _ (by omega)]
  have e:delG l (fr.take (j+1))=mdl eqS (fr.getD j nul0) (delG l (fr.take j)):=Yc9 (fun l k=>mdl eqS k l) l (d:=nul0) hj
  rw[e]
section
variable{see:Way->E->Bool×E}{I:E->Prop}{J:Asg Val->Prop}{hd:List ByteArray}{l0:List Atom}{tb:List Tabl}{m2 m3:Bool}
theorem YCk(hI: ∀w e,I e->(see w e).1=true->I (see w e).2)(ok:TbOk l0 tb)(hJ: ∀i,i<l0.length-> ∀row∈ (tb.getD i zT).2.2,∀σ σ',J σ->tsM σ (pV (l0.getD i zA).2) row.2=some σ'->J σ')(rec:RRec){i:Nat}(hi:i<l0.length)(rs:List Int)(hr:rs.length=i)
  (hrec: ∀clk (l:Ent Val) id e,KN l->J (lk l)->I e-> ∃clk' l',rec (((i+1:Nat):Int),hd,l0,tb,clk,l,m2,m3,rs++[id],e.1,e.2.1,e.2.2)=some ((visit see (wyM ((PR l0 tb).drop (i+1)) (lk l) (rs++[id])) e).1,hd,l0,tb,clk',l',m2,m3,(visit see (wyM ((PR l0 tb).drop (i+1)) (lk l) (rs++[id])) e).2.1,(visit see (wyM ((PR l0 tb).drop (i+1)) (lk l) (rs++[id])) e).2.2.1,(visit see (wyM ((PR l0 tb).drop (i+1)) (lk l) (rs++[id])) e).2.2.2,rs++[id])/\KN l'/\lk l'=lk l) (σ:Asg Val) (hσ:J σ):
  ∀(k n:Nat),n+k=(tb.getD i zT).2.2.length-> ∀clk (l:Ent Val) e,KN l->lk l=σ->I e-> ∃clk' l',KN l'/\lk l'=σ/\YcS loO rec ((i:Int),(tb.getD i zT).2.2,((tb.getD i zT).2.2.length:Int),(n:Int),hd,l0,tb,clk,l,m2,m3,e.1,e.2.1,e.2.2,rs)=some (
   match visit see (((tb.getD i zT).2.2.drop n).flatMap fun row=>match tsM σ (pV (l0.getD i zA).2) row.2 with|some σ'=>wyM ((PR l0 tb).drop (i+1)) σ' (rs++[row.1])|none=>[]) e with
   | (true,e)=>.inr (hd,l0,tb,clk',l',m2,m3,e.1,e.2.1,e.2.2,rs)
   | (false,e)=>.inl (false,hd,l0,tb,clk',l',m2,m3,e.1,e.2.1,e.2.2,rs)):=by
 have hM:maxEl=1073741824:=rfl
 have hT:=ok.tl i hi
 have hR:=ok.rl i hi
 have hA:=ok.ar i hi
 have hJi:=hJ i hi
 have hS:=ok.sm
 generalize(tb.getD i zT).2.2=R at*
 intro k
 induction k with
 |zero=>
  intro n hn clk l e hk hl he
  refine⟨clk,l,hk,hl,?_⟩
  have en:n=R.length:=by omega
  subst en
  rw[YIh (YIr _)]
  show YC8 _ _=_
  rw[Yan]
  simp only[Yb5,nlI,cond_false]
  rfl
 |succ k ih=>
  intro n hn clk l e hk hl he
  have hlt:n<R.length:=by omega
  rw[YaM (d:=zR) hlt,List.flatMap_cons,Ye0]
  have hrow:=hA _ (Yaj (d:=zR) hlt)
  have hJr:=hJi _ (Yaj (d:=zR) hlt)
  generalize hq:R.getD n zR=row at*
  have hF:=fit0 (ps:=pV (l0.getD i zA).2) (us:=row.2) clk hk
  rw[hl]at hF
  have hfl:(fitG (pV (l0.getD i zA).2) row.2 clk l []).2.2.2.length<=maxEl:=by
   have:=hF.len;unfold pV at this;rw[YIa]at this;exact YIv this hT
  have hf:=fit (l0.getD i zA).1 (l0.getD i zA).2 row.2 row.1 hd l0 tb m2 m3 rs e clk l hrow hT
  have step: ∀s',Yb5 loO rec ((i:Int),R,(R.length:Int),(n:Int),hd,l0,tb,clk,l,m2,m3,e.1,e.2.1,e.2.2,rs)=s'->YcS loO rec ((i:Int),R,(R.length:Int),(n:Int),hd,l0,tb,clk,l,m2,m3,e.1,e.2.1,e.2.2,rs)=(match s' with|some (.inl s)=>YcS loO rec s|some (.inr x)=>some x|none=>none):=by
   intro s' hs;subst hs
   show YC8 _ _=_
   rw[Yan]
   rcases Yb5 loO rec ((i:Int),R,(R.length:Int),(n:Int),hd,l0,tb,clk,l,m2,m3,e.1,e.2.1,e.2.2,rs)with _| (_|_)<;>rfl
  have nx:YIV .i64 ((n:Int)+1)=((n+1:Nat):Int):=inc hlt hR
  have ix:YIV .i64 ((i:Int)+1)=((i+1:Nat):Int):=inc hi (by omega)
  have tk: ∀id:Int,(rs++[id]).take i=rs:=fun id=>by rw[<-hr];simp
  simp only[Yb5,ltI hlt,cond_true,YIP,hq]at step
  rw[chkT _ (by omega),chkT _ (by omega),hf,YCY]at step
  dsimp only at step
  rw[chkT _ rfl,chkT _ rfl,chkT _ (by rw[List.length_singleton];omega),hF.ok]at step
  cases hx:tsM σ (pV (l0.getD i zA).2) row.2 with
  |none=>
   rw[hx]at step
   simp only[Option.isSome_none,YIM,cond_true]at step
   rw[chkT _ (by simp;omega),tk,delR _ _ _ _ _ _ _ _ _ _ _ _ _ _ _ e hfl,YCY]at step
   simp only[YIL,cond_false,nx]at step
   obtain⟨d1,d2⟩:=Ycd hF.kn hF.new hF.old
   obtain⟨clk',l',k1,k2,k3⟩:=ih (n+1) (by omega) (fitG (pV (l0.getD i zA).2) row.2 clk l []).2.1 _ e d1 d2 he
   refine⟨clk',l',k1,k2,?_⟩
   rw[step _ rfl]
   exact k3
  |some σ1=>
   rw[hx]at step
   simp only[Option.isSome_some,YIL,cond_false,ix]at step
   obtain⟨c2,l2,r1,r2,r3⟩:=hrec (fitG (pV (l0.getD i zA).2) row.2 clk l []).2.1 _ row.1 e hF.kn (by rw[hF.val σ1 hx];exact hJr σ σ1 hσ hx) he
   rw[r1,YCY,hF.val σ1 hx]at step
   rw[hF.val σ1 hx]at r3
   dsimp only at step
   obtain⟨d1,d2⟩:=Ycd (σ0:=σ) r2 hF.new (by rw[r3,<-hF.val σ1 hx];exact hF.old)
   have hv:=Ye1 (see:=see) hI (ws:=wyM ((PR l0 tb).drop (i+1)) σ1 (rs++[row.1])) he
   rcases hvv:visit see (wyM ((PR l0 tb).drop (i+1)) σ1 (rs++[row.1])) e with⟨_|_,e'⟩
   ·rw[hvv]at step
    rw[chkT _ rfl,chkT _ (by simp;omega),tk,delR _ _ _ _ _ _ _ _ _ _ _ _ _ _ _ e' hfl,YCY]at step
    simp only[YIM,cond_true]at step
    exact⟨c2,_,d1,d2,by rw[step _ rfl]⟩
   ·rw[hvv]at step hv
    rw[chkT _ rfl,chkT _ (by simp;omega),tk,delR _ _ _ _ _ _ _ _ _ _ _ _ _ _ _ e' hfl,YCY]at step
    simp only[YIL,cond_false,nx]at step
    obtain⟨clk',l',k1,k2,k3⟩:=ih (n+1) (by omega) c2 _ e' d1 d2 (hv rfl)
    refine⟨clk',l',k1,k2,?_⟩
    rw[step _ rfl]
    exact k3
theorem YCl(hI: ∀w e,I e->(see w e).1=true->I (see w e).2)(ok:TbOk l0 tb)(hJ: ∀i,i<l0.length-> ∀row∈ (tb.getD i zT).2.2,∀σ σ',J σ->tsM σ (pV (l0.getD i zA).2) row.2=some σ'->J σ')
  (hsee: ∀(clk:Int) (l:Ent Val) (rs:List Int) (e:E),rs.length<=6->KN l->J (lk l)->I e->q48 loO hd l0 e.1 e.2.1 e.2.2 tb clk l m2 m3 rs=some ((see (rs,lk l) e).1,hd,l0,(see (rs,lk l) e).2.1,(see (rs,lk l) e).2.2.1,(see (rs,lk l) e).2.2.2,tb,clk,l,m2,m3,rs)) (j:Nat):
  ∀(k i:Nat),i+k=l0.length-> ∀clk (l:Ent Val) rs e,rs.length=i->KN l->J (lk l)->I e-> ∃clk' l',YaZ loO (k+1+j) ((i:Int),hd,l0,tb,clk,l,m2,m3,rs,e.1,e.2.1,e.2.2)=some ((visit see (wyM ((PR l0 tb).drop i) (lk l) rs) e).1,hd,l0,tb,clk',l',m2,m3,(visit see (wyM ((PR l0 tb).drop i) (lk l) rs) e).2.1,(visit see (wyM ((PR l0 tb).drop i) (lk l) rs) e).2.2.1,(visit see (wyM ((PR l0 tb).drop i) (lk l) rs) e).2.2.2,rs)/\KN l'/\lk l'=lk l:=by
 intro k
 have hS:=ok.sm
 induction k with
 |zero=>
  intro i hi clk l rs e hr hk hj he
  have en:i=l0.length:=by omega
  subst en
  refine⟨clk,l,?_,hk,rfl⟩
  rw[show 0+1+j=j+1 by omega]
  show Yb6 loO (YaZ loO j) _ _ _ _ _ _ _ _ _ _ _ _=_
  unfold Yb6
  rw[cT _ _ rfl]
  rw[hsee clk l rs e (by omega) hk hj he,YCY,Yht ok.len]
  dsimp only
  rw[chkT _ rfl,chkT _ rfl]
  simp only[wyM,visit]
  grind
 |succ k ih=>
  intro i hi clk l rs e hr hk hj he
  have hlt:i<l0.length:=by omega
  rw[show k+1+1+j=(k+1+j)+1 by omega]
  show∃clk' l',Yb6 loO (YaZ loO (k+1+j)) _ _ _ _ _ _ _ _ _ _ _ _=_/\_
  unfold Yb6
  have e0:decide ((i:Int)=(l0.length:Int))=false:=by grind
  have hl:=ok.len
  simp only[e0,cond_false,YIP]
  rw[chkT _ (by omega)]
  obtain⟨clk',l',k1,k2,k3⟩:=YCk hI ok hJ (YaZ loO (k+1+j)) hlt rs hr (fun clk l id e hk hj he=>ih (i+1) (by omega) clk l (rs++[id]) e (by simp_all) hk hj he) (lk l) hj (tb.getD i zT).2.2.length 0 (by omega) clk l e hk rfl he
  rw[show((0:Nat):Int)=0 from rfl,YH6]at k3
  refine⟨clk',l',?_,k1,k2⟩
  rw[k3,YCY,Yhs hl hlt]
  simp only[wyM]
  generalize visit see ((tb.getD i zT).2.2.flatMap fun row=>match tsM (lk l) (pV (l0.getD i zA).2) row.2 with|some σ'=>wyM ((PR l0 tb).drop (i+1)) σ' (rs++[row.1])|none=>[]) e=q
  obtain⟨_|_,e'⟩:=q<;>rfl
theorem Yo1: ∀n x y,YaZ loO n x=some y->YaZ loO (n+1) x=some y
 |0,_,_,h=>by cases h
 |n+1,x,y,h=>by
  have ih:=Yo1 n
  have h':Yb6 loO (YaZ loO n) x.1 x.2.1 x.2.2.1 x.2.2.2.1 x.2.2.2.2.1 x.2.2.2.2.2.1 x.2.2.2.2.2.2.1 x.2.2.2.2.2.2.2.1 x.2.2.2.2.2.2.2.2.1 x.2.2.2.2.2.2.2.2.2.1 x.2.2.2.2.2.2.2.2.2.2.1 x.2.2.2.2.2.2.2.2.2.2.2=some y:=h
  refine YD2 h' (fun h=>h) fun h=>chkm h fun h=>YEE h (fun z hz=> ?_) fun _ h=>h
  refine YeZ (fun s q hs=> ?_) hz
  exact YD2 hs (fun h=>chkm h fun h=>chkm h fun h=>YE1 h fun _ h=>chkm h fun h=>chkm h fun h=>chkm h fun h=>YD2 h (fun h=>h) fun h=>YEE h (ih _) fun _ h=>h) fun h=>h
theorem run(hI: ∀w e,I e->(see w e).1=true->I (see w e).2)(ok:TbOk l0 tb)(hJ: ∀i,i<l0.length-> ∀row∈ (tb.getD i zT).2.2,∀σ σ',J σ->tsM σ (pV (l0.getD i zA).2) row.2=some σ'->J σ')
  (hsee: ∀(clk:Int) (l:Ent Val) (rs:List Int) (e:E),rs.length<=6->KN l->J (lk l)->I e->q48 loO hd l0 e.1 e.2.1 e.2.2 tb clk l m2 m3 rs=some ((see (rs,lk l) e).1,hd,l0,(see (rs,lk l) e).2.1,(see (rs,lk l) e).2.2.1,(see (rs,lk l) e).2.2.2,tb,clk,l,m2,m3,rs)) (clk:Int) (l:Ent Val) (e:E) (hk:KN l) (hj:J (lk l)) (he:I e):
  ∃clk' l',q50 loO 0 hd l0 tb clk l m2 m3 [] e.1 e.2.1 e.2.2=some ((visit see (wyM (PR l0 tb) (lk l) []) e).1,hd,l0,tb,clk',l',m2,m3,(visit see (wyM (PR l0 tb) (lk l) []) e).2.1,(visit see (wyM (PR l0 tb) (lk l) []) e).2.2.1,(visit see (wyM (PR l0 tb) (lk l) []) e).2.2.2,[]):=by
 obtain⟨clk',l',h1,_⟩:=YCl hI ok hJ hsee 0 l0.length 0 (by omega) clk l [] e rfl hk hj he
 exact⟨clk',l',YcP Yo1 (n:=0) (by rw[YIw];exact h1)⟩
end
end
end Go.Abs.G47
namespace Go.Abs.G47
open Go Go.Abs
noncomputable section
def SzV(l:Vals):Prop:=l.length<=maxEl/\ ∀v∈l,v.2.2.size<=maxEl
def sg(a b:Int):Int:=bif decide (a<b)then-1 else bif decide (b<a)then 1 else 0
theorem Ye2(a b:Int):q124 loO a b=some (sg a b):=by
 unfold q124 sg
 grind
theorem sg_zero{a b:Int}:sg a b=0↔a=b:=by
 unfold sg
 grind
def fS(a b:ByteArray)(n:Nat):Option (Int⊕ (ByteArray×ByteArray)):=bif !decide (YCZ a n=YCZ b n)then some (.inl (sg (YCZ a n) (YCZ b n)))else none
def cmpS(a b:ByteArray):Int:=match YC0 (fS a b) (min a.size b.size) 0 (.inr (a,b))with
 | .inl i=>i
 | .inr _=>sg a.size b.size
theorem YCm(a b:ByteArray)(ha:a.size<=maxEl)(hb:b.size<=maxEl):q125 loO a b=some (cmpS a b):=by
 have hm:maxEl=1073741824:=rfl
 have hL:Yg9 loO (a,b,0)=some (YC0 (fS a b) (min a.size b.size) 0 (.inr (a,b))):=by
  refine Yak (fun n=>(a,b,(n:Int))) _ (min a.size b.size) _ rfl ?_ (fun n hn=> ?_)
  ·rcases Nat.le_total a.size b.size with h|h
   ·rw[Nat.min_eq_left h];simp[Yc2]
   ·rw[Nat.min_eq_right h]
    have e:decide ((b.size:Int)< (b.size:Int))=false:=by simp
    simp only[Yc2,e,cond_false]
    simp
  ·have e1:decide ((n:Int)< (a.size:Int))=true:=by grind
   have e1':decide ((n:Int)< (b.size:Int))=true:=by grind
   have e2:YIV .i64 ((n:Int)+1)=((n+1:Nat):Int):=by rw[wr6 (by omega) (by omega)];omega
   have r1:=YoL a n
   have r2:=YoL b n
   simp only[Yc2,e1,e1',cond_true,e2,Ye2,YCY,wr6 (show-9223372036854775808<=YCZ a n by omega) (by omega),wr6 (show-9223372036854775808<=YCZ b n by omega) (by omega)]
   rw[chkT _ (by omega),chkT _ (by omega),chkT _ (by omega),chkT _ (by omega)]
   unfold fS
   grind
 unfold q125 cmpS
 rw[hL,YCY]
 rcases Ybe (f:=fS a b) (r0:=.inr (a,b)) (min a.size b.size) 0 with⟨m,r,h1,h2,h3,h4⟩| ⟨h1,h2⟩
 ·rw[h4]
  unfold fS at h3
  cases hd:decide (YCZ a m=YCZ b m)with
  |true=>simp_all
  |false=>rw[hd]at h3;injection h3 with h3;subst h3;rfl
 ·rw[h1];simp only[alt2,Ye2,YCY]
theorem YCn{a b:ByteArray}:cmpS a b=0↔a=b:=by
 unfold cmpS
 rcases Ybe (f:=fS a b) (r0:=.inr (a,b)) (min a.size b.size) 0 with⟨m,r,h1,h2,h3,h4⟩| ⟨h1,h2⟩
 ·rw[h4]
  unfold fS at h3
  by_cases hd:YCZ a m=YCZ b m
  ·simp_all
  ·simp[hd]at h3
   subst h3
   rw[sg_zero]
   grind
 ·rw[h1]
  simp only[sg_zero]
  constructor
  ·intro h
   have hs:a.size=b.size:=by omega
   refine YB1 hs (fun n hn=> ?_)
   have:=h2 n (by omega) (by omega)
   unfold fS at this
   grind
  simp_all
def cmpV(v w:Int×Int×ByteArray):Int:=bif !decide (sg v.1 w.1=0)then sg v.1 w.1 else bif !decide (sg v.2.1 w.2.1=0)then sg v.2.1 w.2.1 else cmpS v.2.2 w.2.2
theorem Yo2(v w:Int×Int×ByteArray)(hv:v.2.2.size<=maxEl)(hw:w.2.2.size<=maxEl):q126 loO v.1 v.2.1 v.2.2 w.1 w.2.1 w.2.2=some (cmpV v w):=by
 unfold q126 cmpV
 simp only[Ye2,YCY,YCm _ _ hv hw]
 grind
theorem cmpV_zero{v w:Int×Int×ByteArray}:cmpV v w=0↔v=w:=by
 obtain⟨a,b,c⟩:=v
 obtain⟨a',b',c'⟩:=w
 unfold cmpV
 by_cases h1:sg a a'=0
 ·by_cases h2:sg b b'=0
  ·simp only[h1,h2,decide_true,YIL,cond_false,YCn]
   rw[sg_zero]at h1 h2
   simp_all
  ·simp only[h1,h2,decide_true,decide_false,YIL,YIM,cond_false,cond_true]
   refine⟨fun h=>h.elim,fun h=> ?_⟩
   injection h with _ h;injection h with h _
   exact h2 (sg_zero.2 h)
 ·simp only[h1,decide_false,YIM,cond_true]
  refine⟨fun h=>h.elim,fun h=> ?_⟩
  injection h with h _
  exact h1 (sg_zero.2 h)
def fL(a b:Vals)(n:Nat):Option (Int⊕ (Vals×Vals)):=bif !decide (cmpV (a.getD n zV) (b.getD n zV)=0)then some (.inl (cmpV (a.getD n zV) (b.getD n zV)))else none
def cmpL(a b:Vals):Int:=match YC0 (fL a b) (min a.length b.length) 0 (.inr (a,b))with
 | .inl i=>i
 | .inr _=>sg a.length b.length
theorem YCo(a b:Vals)(ha:SzV a)(hb:SzV b):q133 loO a b=some (cmpL a b):=by
 have hm:maxEl=1073741824:=rfl
 have hbl:=hb.1
 have hL:Yhb loO (a,b,0)=some (YC0 (fL a b) (min a.length b.length) 0 (.inr (a,b))):=by
  refine Yak (fun n=>(a,b,(n:Int))) _ (min a.length b.length) _ rfl ?_ (fun n hn=> ?_)
  ·rcases Nat.le_total a.length b.length with h|h
   ·rw[Nat.min_eq_left h];simp[Yc6]
   ·rw[Nat.min_eq_right h]
    have e:decide ((b.length:Int)< (b.length:Int))=false:=by simp
    simp only[Yc6,e,cond_false]
    simp
  ·have e1:decide ((n:Int)< (a.length:Int))=true:=by grind
   have e1':decide ((n:Int)< (b.length:Int))=true:=by grind
   have e2:YIV .i64 ((n:Int)+1)=((n+1:Nat):Int):=by rw[wr6 (by omega) (by omega)];omega
   have q1:=ha.2 (a.getD n zV) (Yaj (by omega))
   have q2:=hb.2 (b.getD n zV) (Yaj (by omega))
   simp only[Yc6,e1,e1',cond_true,e2,YIP]
   rw[chkT _ (by omega),chkT _ (by omega),Yo2 _ _ q1 q2,YCY]
   unfold fL
   grind
 unfold q133 cmpL
 rw[hL,YCY]
 rcases Ybe (f:=fL a b) (r0:=.inr (a,b)) (min a.length b.length) 0 with⟨m,r,h1,h2,h3,h4⟩| ⟨h1,h2⟩
 ·rw[h4]
  unfold fL at h3
  cases hd:decide (cmpV (a.getD m zV) (b.getD m zV)=0)with
  |true=>simp_all
  |false=>rw[hd]at h3;injection h3 with h3;subst h3;rfl
 ·rw[h1];simp only[alt2,Ye2,YCY]
theorem YCp{a b:Vals}:cmpL a b=0↔a=b:=by
 unfold cmpL
 rcases Ybe (f:=fL a b) (r0:=.inr (a,b)) (min a.length b.length) 0 with⟨m,r,h1,h2,h3,h4⟩| ⟨h1,h2⟩
 ·rw[h4]
  unfold fL at h3
  by_cases hd:cmpV (a.getD m zV) (b.getD m zV)=0
  ·simp_all
  ·rw[decide_eq_false hd]at h3;injection h3 with h3
   subst h3
   exact⟨fun h=>absurd h hd,fun h=>by subst h;exact absurd (cmpV_zero.2 rfl) hd⟩
 ·rw[h1]
  simp only[sg_zero]
  constructor
  ·intro h
   have hs:a.length=b.length:=by omega
   refine YoM (d:=zV) hs (fun n hn=> ?_)
   have:=h2 n (by omega) (by omega)
   unfold fL at this
   by_cases hd:cmpV (a.getD n zV) (b.getD n zV)=0
   ·exact cmpV_zero.1 hd
   simp_all
  simp_all
theorem YCq(a b:Vals)(ha:SzV a)(hb:SzV b):q134 loO a b=some (decide (a=b)):=by
 unfold q134
 rw[YCo a b ha hb,YCY]
 have:decide (cmpL a b=0)=decide (a=b):=by rw[decide_eq_decide];exact YCp
 grind
end
end Go.Abs.G47
namespace Go.Abs.G47
open Go Go.Abs
noncomputable section
def esc:List UInt8->List UInt8
 | []=>[]
 |b::r=>(if b.toNat=0 then[0,255]else[b])++esc r
def be:Nat->Nat->List UInt8
 |0,_=>[]
 |k+1,n=>UInt8.ofNat (n/256^k % 256)::be k n
def num8(n:Int):List UInt8:=be 8 (n+9223372036854775808).toNat
def kb(v:Int×Int×ByteArray):List UInt8:=UInt8.ofNat v.1.toNat::(if v.1=1\/v.1=3 then num8 v.2.1 else if v.1=2 then esc (bl v.2.2)++[0,1]else[])
def I64(n:Int):Prop:= -9223372036854775808<=n/\n<=9223372036854775807
def kl(l:Vals):List UInt8:=l.flatMap kb
def Ok(l:Vals):Prop:= ∀v∈l,vB v=true/\I64 v.2.1
end
end Go.Abs.G47
namespace Go.Abs.G47
open Go Go.Abs
noncomputable section
def AllO(N:Nat)(L:List Vals):Prop:= ∀l∈L,Ok l/\l.length=N
def hasV(L:List Vals)(l:Vals):Bool:=L.any fun x=>decide (x=l)
def insR:List Vals->Vals->List Vals->List Vals
 | [],x,Q=>x::Q
 |y::P,x,Q=>bif decide (cmpL x y<0)then insR P x (y::Q)else(y::P).reverse++x::Q
def YHI(R:List Vals)(l:Vals):List Vals:=bif hasV R l then R else insR R.reverse l []
def rowsR(L:List Vals):List Vals:=L.foldl YHI []
end
end Go.Abs.G47
namespace Go.Abs.G47
open Go Go.Abs
noncomputable section
def ansM(hd:List ByteArray)(σ:Asg Val):Vals:=hd.map fun v=>(σ v).getD zV
def goodV(v:Val):Prop:=vB v=true/\I64 v.2.1
def JV(σ:Asg Val):Prop:= ∀k v,σ k=some v->goodV v
theorem YCr{hd:List ByteArray}{σ:Asg Val}(h:JV σ):Ok (ansM hd σ)/\ (ansM hd σ).length=hd.length:=by
 refine⟨fun v hv=> ?_,by unfold ansM;simp⟩
 obtain⟨k,_,rfl⟩:=YH2.1 hv
 cases e:σ k with
 |none=>trivial
 |some w=>exact h k w e
theorem Ye3: ∀{ps:List (ByteArray×Val)} {us:Vals} {σ σ':Asg Val},JV σ->(∀u∈us,goodV u)->tsM σ ps us=some σ'->JV σ'
 | [],us,σ,σ',h,_,e=>by injection e with e;simp_all
 |_::_,[],_,_,_,_,e=>by cases e
 |p::ps,u::us,σ,σ',h,hu,e=>by
  simp only[tsM]at e
  cases h1:tmM σ p.1 p.2 u with
  |none=>simp_all
  |some σ1=>
   rw[h1]at e
   refine Ye3 (σ:=σ1) ?_ (fun v hv=>hu v (YH9 _ hv)) (show tsM σ1 ps us=some σ' from e)
   unfold tmM at h1
   by_cases h0:p.1=nul0
   ·simp_all
   ·rw[if_neg h0]at h1
    cases hs:σ p.1 with
    |some w=>
     simp_all
    |none=>
     rw[hs]at h1;injection h1 with h1;subst h1
     intro k v hk
     unfold upd at hk
     by_cases hx:k=p.1
     ·simp_all
     ·rw[if_neg hx]at hk;exact h k v hk
theorem Yo3: ∀{L:List (List Term×Rws)} {σ:Asg Val} {r:List Int},JV σ->(∀q∈L,∀row∈q.2,∀v∈row.2,goodV v)-> ∀w∈wyM L σ r,JV w.2
 | [],σ,r,h,_,w,hw=>by rw[wyM,YIp]at hw;simp_all
 |q::L,σ,r,h,hg,w,hw=>by
  rw[wyM,List.mem_flatMap]at hw
  obtain⟨row,hr,hw⟩:=hw
  cases hx:tsM σ (pV q.1) row.2 with
  |none=>simp_all
  |some σ'=>
   rw[hx]at hw
   exact Yo3 (Ye3 h (hg q (YH5 ..) row hr) hx) (fun p hp=>hg p (YH9 _ hp)) w hw
theorem Ye4: ∀(L:List (List Term×Rws)) (σ:Asg Val) (r:List Int),(∀q∈L,q.2.length<=6)->(wyM L σ r).length<=6^L.length
 | [],σ,r,_=>YIr _
 |q::L,σ,r,h=>by
  have hq:=h q (YH5 ..)
  have: ∀R:Rws,(R.flatMap fun row=>match tsM σ (pV q.1) row.2 with|some σ'=>wyM L σ' (r++[row.1])|none=>[]).length<=R.length*6^L.length:=by
   intro R
   induction R with
   |nil=>simp
   |cons row R ih=>
    rw[List.flatMap_cons,List.length_append,YId,YIA,Nat.one_mul,Nat.add_comm (R.length*_)]
    refine Nat.add_le_add ?_ ih
    cases tsM σ (pV q.1) row.2 with
    |none=>simp
    |some σ'=>exact Ye4 L σ' _ (fun p hp=>h p (YH9 _ hp))
  refine YIv (this q.2) ?_
  rw[YId,Nat.pow_succ,Nat.mul_comm]
  exact Nat.mul_le_mul_left _ hq
def tbs(db:List Tabl)(l:List Atom):List Tabl:=l.map fun a=>tabO db a.1
theorem tNew(db:List Tabl)(hd:List ByteArray)(l:List Atom)(hdb:db.length<=maxEl)(hl:l.length<=maxEl):q41 loO db hd l=some (hd,l,tbs db l,0,[],false,false,[]):=by
 unfold q41
 have:YgA loO (l,(l.length:Int),0,db,hd,l,[],0,[],false,false,[])=some (hd,l,tbs db l,0,[],false,false,[]):=by
  refine Yav (st:=fun n=>(l,(l.length:Int),(n:Int),db,hd,l,tbs db (l.take n),0,[],false,false,[])) (N:=l.length) rfl ?_ (fun n hn=> ?_)
  ·simp only[Yeg,nlI,cond_false,YH8]
  ·simp only[Yeg,ltI hn,cond_true,inc hn hl,YIP]
   rw[chkT _ (by omega),YHn _ _ hdb,YCY,chkT _ (by unfold tbs;grind),YbM (d:=zA) hn]
   unfold tbs
   simp
 simp_all
def YEl(db:List Tabl)(l:List Atom):List Way:=wyM (PR l (tbs db l)) (fun _=>none) []
structure QOk(db:List Tabl)(hd:List ByteArray)(l:List Atom):Prop where
 tb:TbOk l (tbs db l)
 hn:hd.length<=10
 dn:db.length<=maxEl
 sm:sumT l<=maxEl
 row: ∀n,n<l.length->((tbs db l).getD n zT).2.2.length<=6
 val: ∀n,n<l.length-> ∀row∈ ((tbs db l).getD n zT).2.2,∀v∈row.2,goodV v
theorem Ye5{l:List Atom}{tb:List Tabl}(h:l.length=tb.length){q:List Term×Rws}(hq:q∈PR l tb): ∃n,n<l.length/\q=((l.getD n zA).2,(tb.getD n zT).2.2):=by
 obtain⟨n,hn,e⟩:=YIk.1 hq
 unfold PR at hn
 rw[List.length_zipWith]at hn
 refine⟨n,by omega,?_⟩
 rw[<-e]
 unfold PR
 simp_all
theorem QOk.JV{db:List Tabl}{hd:List ByteArray}{l:List Atom}(h:QOk db hd l): ∀w∈YEl db l,JV w.2:=
 Yo3 (fun k v e=>by cases e) (fun q hq row hr v hv=>by
  obtain⟨n,hn,rfl⟩:=Ye5 h.tb.len hq
  exact h.val n hn row hr v hv)
theorem QOk.len{db:List Tabl}{hd:List ByteArray}{l:List Atom}(h:QOk db hd l):(YEl db l).length<=6^l.length:=by
 refine YIv (Ye4 _ _ _ (fun q hq=> ?_)) ?_
 ·obtain⟨n,hn,rfl⟩:=Ye5 h.tb.len hq
  exact h.row n hn
 ·refine Nat.pow_le_pow_right (by omega) ?_
  unfold PR;grind
def anss(db:List Tabl)(hd:List ByteArray)(l:List Atom):List Vals:=(YEl db l).map fun w=>ansM hd w.2
theorem QOk.all{db:List Tabl}{hd:List ByteArray}{l:List Atom}(h:QOk db hd l):AllO hd.length (anss db hd l):=fun x hx=>by
 obtain⟨w,hw,rfl⟩:=YH2.1 hx
 exact YCr (h.JV w hw)
end
end Go.Abs.G47
namespace Go.Abs.G47
open Go Go.Abs
noncomputable section
end
end Go.Abs.G47
namespace Go.Abs.G47
open Go Go.Abs
noncomputable section
def SzT(l:List Term):Prop:= ∀t∈l,t.2.2.2.size<=maxEl
theorem YGd(a b:Term)(ha:a.2.2.2.size<=maxEl)(hb:b.2.2.2.size<=maxEl):q127 loO a.1 a.2.1 a.2.2.1 a.2.2.2 b.1 b.2.1 b.2.2.1 b.2.2.2=some (decide (a=b)):=by
 unfold q127
 obtain⟨a0,a1⟩:=a
 obtain⟨b0,b1⟩:=b
 by_cases h:a0=b0
 ·rw[Yo2 a1 b1 ha hb,YCY]
  have:decide (cmpV a1 b1=0)=decide (a1=b1):=by rw[decide_eq_decide];exact cmpV_zero
  simp_all
 simp_all
theorem Yo4{p:Nat->Bool}: ∀(k n:Nat),idxR p (k+1) n=bif decide (0<=idxR p k n)then idxR p k n else bif p (n+k)then((n+k:Nat):Int)else-1
 |0,n=>by
  unfold idxR
  cases hp:p n<;>simp[YC0,hp]
 |k+1,n=>by
  have e: ∀j,idxR p (j+1) n=bif p n then(n:Int)else idxR p j (n+1):=fun j=>by
   unfold idxR
   cases hp:p n<;>simp[YC0,hp]
  rw[e (k+1),e k]
  cases hp:p n with
  |true=>simp
  |false=>
   simp only[cond_false]
   rw[Yo4 k (n+1),show n+1+k=n+(k+1) by omega]
theorem YCs{p q:Nat->Bool}(k n:Nat)(h: ∀m,n<=m->m<n+k->p m=q m):idxR p k n=idxR q k n:=by
 unfold idxR
 rw[Yhh k n (fun m h1 h2=>by rw[h m h1 h2])]
theorem YCt(N:List ByteArray)(x k:ByteArray):idxI (N++[x]) k=bif decide (0<=idxI N k)then idxI N k else bif decide (k=x)then(N.length:Int)else-1:=by
 unfold idxI
 rw[List.length_append,List.length_singleton,Yo4]
 have e:idxR (fun m=>decide (k=(N++[x]).getD m nul0)) N.length 0=idxR (fun m=>decide (k=N.getD m nul0)) N.length 0:=YCs _ _ fun m _ h=>by grind
 simp_all
theorem Yhu(N:List ByteArray)(k:ByteArray):(∃m:Nat,idxI N k=(m:Int)/\m<N.length/\N.getD m nul0=k)\/(idxI N k= -1/\k∉N):=by
 rcases YbN (p:=fun m=>decide (k=N.getD m nul0)) (k:=N.length) (n:=0)with⟨m,_,h2,h3,h4⟩| ⟨h1,h2⟩
 ·exact .inl ⟨m,h4,by omega,(of_decide_eq_true h3).symm⟩
 ·refine .inr ⟨h1,fun hm=> ?_⟩
  have:=Ydb N k
  rw[inL_iff.2 hm]at this
  have h1:idxI N k= -1:=h1
  simp_all
def YDo(N:List ByteArray)(T:List Term):Asg Term:=fun k=>bif decide (0<=idxI N k)then some (T.getD (idxI N k).toNat zM)else none
theorem YCu{N:List ByteArray}{T:List Term}(hl:N.length=T.length){x:ByteArray}(u:Term)(hx:idxI N x<0):YDo (N++[x]) (T++[u])=upd (YDo N T) x u:=by
 funext k
 unfold YDo upd
 rw[YCt]
 rcases Yhu N k with⟨m,h1,h2,h3⟩| ⟨h1,h2⟩
 ·grind
 grind
structure GB(N:List ByteArray)(T:List Term):Prop where
 len:N.length=T.length
 sz:SzT T
theorem Yhv{T:List Term}(h:SzT T)(n:Nat):(T.getD n zM).2.2.2.size<=maxEl:=by
 by_cases hn:n<T.length
 ·exact h _ (Yaj hn)
 ·rw[List.getD_eq_getElem?_getD,YIl (by omega)];trivial
theorem rTm{N:List ByteArray}{T:List Term}(g:GB N T)(t u:Term)(hN:N.length+1<=maxEl)(ht:t.2.2.2.size<=maxEl)(hu:u.2.2.2.size<=maxEl):
  ∃N' T',q128 loO N T t.1 t.2.1 t.2.2.1 t.2.2.2 u.1 u.2.1 u.2.2.1 u.2.2.2=some (N',T',(tmM (YDo N T) t.1 t u).isSome)/\GB N' T'/\N'.length<=N.length+1/\ ∀σ',tmM (YDo N T) t.1 t u=some σ'->YDo N' T'=σ':=by
 unfold q128 tmM
 by_cases h0:t.1=nul0
 ·refine⟨N,T,?_,g,by omega,?_⟩
  ·rw[decide_eq_true h0,cond_true,YGd t u ht hu,YCY,if_pos h0]
   grind
  simp_all
 ·rw[if_neg h0,decide_eq_false h0,cond_false,Ybo _ _ (by omega),YCY]
  rcases Yhu N t.1 with⟨m,h1,h2,h3⟩| ⟨h1,h2⟩
  ·have e0:decide ((0:Int)<=(m:Int))=true:=by simp
   have eb:YDo N T t.1=some (T.getD m zM):=by unfold YDo;simp_all
   rw[h1,e0,cond_true,eb]
   have:=g.len
   refine⟨N,T,?_,g,by omega,?_⟩
   ·rw[chkT _ (by omega)]
    simp only[YIP]
    rw[YGd (T.getD m zM) u (Yhv g.sz m) hu,YCY]
    grind
   simp
  ·have e0:decide ((0:Int)<= -1)=false:=rfl
   have eb:YDo N T t.1=none:=by unfold YDo;simp_all
   rw[h1,e0,cond_false,eb]
   have:=g.len
   refine⟨N++[t.1],T++[u],?_,⟨by simp_all,fun v hv=> ?_⟩,by simp,?_⟩
   ·rw[chkT _ (by omega),chkT _ (by trivial),chkT _ (by omega),chkT _ (by simp_all)]
    rfl
   ·rcases List.mem_append.1 hv with h|h
    ·exact g.sz v h
    simp_all
   ·intro σ' h
    injection h with h;subst h
    exact YCu g.len u (by omega)
theorem YCv(a0:ByteArray)(ts us:List Term)(v0:List ByteArray)(v1:List Term)(h:ts.length=us.length)(hm:us.length<=maxEl)(ht:SzT ts)(hu:SzT us): ∀(k n:Nat),n+k=us.length-> ∀(N:List ByteArray) (T:List Term),GB N T->N.length+k<=maxEl->
  ∃N' T',Yc4 loO (us,true,(n:Int),N,T,a0,ts,v0,v1)=some ((tsM (YDo N T) ((pT ts).drop n) (us.drop n)).isSome,N',T',v0,v1)/\GB N' T'/\N'.length<=N.length+k/\ ∀σ',tsM (YDo N T) ((pT ts).drop n) (us.drop n)=some σ'->YDo N' T'=σ':=by
 intro k
 induction k with
 |zero=>
  intro n hn N T g hN
  have e:n=us.length:=by omega
  subst e
  refine⟨N,T,?_,g,by omega,?_⟩
  ·show YC8 _ _=_
   rw[Yan]
   simp only[Yc3,nlI,cond_false]
   rw[YIh (l:=pT ts) (by simp_all)]
   rfl
  ·rw[YIh (l:=pT ts) (by simp_all)]
   intro σ' h;injection h
 |succ k ih=>
  intro n hn N T g hN
  have hlt:n<us.length:=by omega
  have e1:(pT ts).drop n=((ts.getD n zM).1,ts.getD n zM)::(pT ts).drop (n+1):=by
   rw[YaM (d:=(zM.1,zM)) (by simp_all)]
   simp_all
  obtain⟨N1,T1,r1,r2,r3,r4⟩:=rTm g (ts.getD n zM) (us.getD n zM) (by omega) (Yhv ht n) (Yhv hu n)
  have hs:Yc4 loO (us,true,(n:Int),N,T,a0,ts,v0,v1)=Yc4 loO (us,(tmM (YDo N T) (ts.getD n zM).1 (ts.getD n zM) (us.getD n zM)).isSome,((n+1:Nat):Int),N1,T1,a0,ts,v0,v1):=by
   show YC8 _ _=YC8 _ _
   rw[Yan]
   simp only[Yc3,ltI hlt,cond_true,YIP,inc hlt hm]
   rw[chkT _ (by omega),chkT _ (by omega),r1,YCY]
  rw[e1,YaM (l:=us) (d:=zM) hlt,hs]
  simp only[tsM]
  cases hx:tmM (YDo N T) (ts.getD n zM).1 (ts.getD n zM) (us.getD n zM)with
  |none=>
   refine⟨N1,T1,?_,r2,by omega,fun σ' h=>by cases h⟩
   show YC8 _ _=_
   rw[Yan]
   simp only[Yc3,Option.isSome_none,cond_false]
   simp
  |some σ1=>
   obtain⟨N',T',q1,q2,q3,q4⟩:=ih (n+1) (by omega) N1 T1 r2 (by omega)
   grind
def tsL(σ:Asg Term)(ts us:List Term):Option (Asg Term):=bif !decide ((ts.length:Int)=(us.length:Int))then none else tsM σ (pT ts) us
theorem rAt{N:List ByteArray}{T:List Term}(g:GB N T)(a0:ByteArray)(ts us:List Term)(ht:SzT ts)(hu:SzT us)(hN:N.length+ts.length<=maxEl):
  ∃N' T',q129 loO N T a0 ts us=some (N',T',(tsL (YDo N T) ts us).isSome)/\GB N' T'/\N'.length<=N.length+ts.length/\ ∀σ',tsL (YDo N T) ts us=some σ'->YDo N' T'=σ':=by
 unfold q129 tsL
 by_cases h:(ts.length:Int)=(us.length:Int)
 ·obtain⟨N',T',q1,q2,q3,q4⟩:=YCv a0 ts us [] [] (by omega) (by omega) ht hu us.length 0 (by omega) N T g (by omega)
  grind
 grind
end
end Go.Abs.G47
namespace Go.Abs.G47
open Go Go.Abs
noncomputable section
def vT(v:ByteArray):Term:=(v,0,0,nul0)
end
end Go.Abs.G47
namespace Go.Abs.G47
open Go Go.Abs
noncomputable section
theorem Yhw{v:Int×Int×ByteArray}(h:vB v=true):v.2.2.size<=200:=by
 obtain⟨a,b,c⟩:=v
 unfold vB q6 at h
 by_cases h0:a=0<;>by_cases h1:a=1<;>by_cases h2:a=2<;>by_cases h3:a=3<;>by_cases h4:b=0<;>by_cases h5:1<=b<;>simp[h0,h1,h2,h3,h4,h5]at h<;>first| (subst h;exact YIz _)|grind|omega
theorem Yo5{t:Term}(h:YDF t=true):t.2.2.2.size<=200:=by
 unfold YDF at h
 by_cases h0:t.1=nul0
 ·simp only[h0,decide_true,YIL,cond_false]at h
  exact Yhw h
 ·simp only[h0,decide_false,YIM,cond_true,YIK,decide_eq_true_eq]at h
  rw[h.2.2.2.1];trivial
structure Wf(hd:List ByteArray)(l:List Atom):Prop where
 len:l.length<=6
 ne:l≠ []
 nm: ∀a∈l,YDs a.1=true
 tm: ∀a∈l,∀t∈a.2,YDF t=true
 hd: ∀n,n<hd.length->hd.getD n nul0∈YDn [] l/\hd.getD n nul0∉hd.take n
theorem Wf.sz{hd:List ByteArray}{l:List Atom}(h:Wf hd l): ∀a∈l,SzT a.2:=fun a ha t ht=>by
 have:=Yo5 (h.tm a ha t ht)
 have:maxEl=1073741824:=rfl
 omega
theorem rGet{N:List ByteArray}{T:List Term}(hl:N.length=T.length)(k:ByteArray)(hN:N.length<=maxEl):q131 loO N T k=some ((YDo N T k).getD zM):=by
 unfold q131 YDo
 rw[Ybo _ _ hN,YCY]
 rcases Yhu N k with⟨m,h1,h2,h3⟩| ⟨h1,h2⟩
 ·have e0:decide ((0:Int)<=(m:Int))=true:=by simp
  have e1:decide ((m:Int)<0)=false:=by simp
  rw[h1,e0,e1,cond_false,cond_true,chkT _ (by omega)]
  rfl
 simp_all
end
end Go.Abs.G47
namespace Go.Abs.G47
open Go Go.Abs
noncomputable section
def cT(v:Val):Term:=(nul0,v)
def cA(σ:Asg Val):Asg Term:=fun k=>(σ k).map cT
def dA(N:List ByteArray)(T:List Term):Asg Val:=fun k=>(YDo N T k).map (·.2)
theorem cT_inj{v w:Val}:cT v=cT w↔v=w:=⟨fun h=>(Prod.mk.inj h).2,fun h=>by rw[h]⟩
theorem YCw(σ:Asg Val)(x:ByteArray)(u:Val):upd (cA σ) x (cT u)=cA (upd σ x u):=by
 funext k
 unfold upd cA
 grind
theorem YCx(σ:Asg Val)(t:Term)(u:Val):tmM (cA σ) t.1 t (cT u)=(tmM σ t.1 t.2 u).map cA:=by
 unfold tmM
 by_cases h0:t.1=nul0
 ·rw[if_pos h0,if_pos h0]
  have:t=cT t.2:=by obtain⟨t0,t1⟩:=t;unfold cT;simp_all
  by_cases hc:t.2=u
  ·grind
  ·rw[if_neg hc,if_neg (fun h=>hc (cT_inj.1 (this.symm.trans h)))];rfl
 ·rw[if_neg h0,if_neg h0]
  cases hs:σ t.1 with
  |some w=>
   have:cA σ t.1=some (cT w):=by unfold cA;simp_all
   rw[this]
   simp only
   by_cases hc:w=u
   ·simp_all
   ·rw[if_neg hc,if_neg (fun h=>hc (cT_inj.1 h))];rfl
  |none=>
   have:cA σ t.1=none:=by unfold cA;simp_all
   rw[this]
   simp only[YCw,YIE]
theorem Yo6: ∀(ts:List Term) (us:Vals) (σ:Asg Val),tsM (cA σ) (pT ts) (us.map cT)=(tsM σ (pV ts) us).map cA
 | [],us,σ=>rfl
 |t::ts,[],σ=>rfl
 |t::ts,u::us,σ=>by
  show(tmM (cA σ) t.1 t (cT u)).bind (fun σ'=>tsM σ' (pT ts) (us.map cT))=Option.map cA ((tmM σ t.1 t.2 u).bind fun σ'=>tsM σ' (pV ts) us)
  rw[YCx]
  cases tmM σ t.1 t.2 u with
  |none=>rfl
  |some σ1=>exact Yo6 ts us σ1
theorem YCy{N:List ByteArray}{T:List Term}{σ:Asg Val}(h:YDo N T=cA σ):dA N T=σ:=by
 funext k
 unfold dA
 rw[h]
 unfold cA
 cases σ k<;>rfl
theorem YHr(r0:Int)(us:Vals)(h:us.length<=maxEl):q123 loO r0 us=some (us.map cT):=by
 unfold q123
 have:Yg8 loO (0,r0,us,[])=some (us.map cT):=by
  refine Yav (st:=fun n=>((n:Int),r0,us,(us.take n).map cT)) (N:=us.length) rfl ?_ (fun n hn=> ?_)
  ·simp only[YeJ,nlI,cond_false,YH8]
  ·simp only[YeJ,ltI hn,cond_true,inc hn h,YIP]
   rw[chkT _ (by omega),chkT _ (by grind),YbM (d:=zV) hn,YIg]
   rfl
 simp_all
abbrev RWay:=List Int×List ByteArray×List Term
def fWy(w:RWay):Way:=(w.1,dA w.2.1 w.2.2)
structure GW(n:Nat)(w:RWay):Prop where
 gb:GB w.2.1 w.2.2
 ca:YDo w.2.1 w.2.2=cA (dA w.2.1 w.2.2)
 ln:w.2.1.length<=n
abbrev WRec:=List Tabl×List Atom×List Int×List ByteArray×List Term->Option (List RWay)
theorem YCz(rec:WRec)(db:List Tabl)(a:Atom)(rest:List Atom){rs:List Int}{N:List ByteArray}{T:List Term}{m:Nat}(g:GW m (rs,N,T))(tn:ByteArray)(ta:List ByteArray)(R:Rws)(hrl:R.length<=6)
  (har: ∀row∈R,row.2.length=a.2.length/\ ∀v∈row.2,v.2.2.size<=maxEl) (hsz:SzT a.2) (hm:m+a.2.length<=maxEl) (hrs:rs.length<=1000)
  {L:List (List Term×Rws)} {B:Nat} (hB:6*B+6<=maxEl) (hLB: ∀σ r,(wyM L σ r).length<=B)
  (hrec: ∀id N T,GW (m+a.2.length) (rs++[id],N,T)-> ∃ws,rec (db,rest,rs++[id],N,T)=some ws/\ws.map fWy=wyM L (dA N T) (rs++[id])/\ ∀w∈ws,GW maxEl w):
  ∀(k n:Nat),n+k=R.length-> ∀out:List RWay,out.length<=n*B->(∀w∈out,GW maxEl w)-> ∃out',Yc5 loO rec (a::rest,(n:Int),db,rs,N,T,tn,ta,R,out)=some out'/\
   out'.map fWy=out.map fWy++((R.drop n).flatMap fun row=>match tsM (dA N T) (pV a.2) row.2 with|some σ'=>wyM L σ' (rs++[row.1])|none=>[])/\ ∀w∈out',GW maxEl w:=by
 have hM:maxEl=1073741824:=rfl
 intro k
 induction k with
 |zero=>
  intro n hn out ho hg
  have e:n=R.length:=by omega
  subst e
  refine⟨out,?_,by simp,hg⟩
  show YC8 _ _=_
  rw[Yan]
  simp only[Yb8,nlI,cond_false]
 |succ k ih=>
  intro n hn out ho hg
  have hlt:n<R.length:=by omega
  have hnB:(n+1)*B<=6*B:=YIy _ (by omega)
  have hnB':(n+1)*B=n*B+B:=by grind
  rw[YaM (d:=zR) hlt,List.flatMap_cons]
  obtain⟨hr1,hr2⟩:=har _ (Yaj (d:=zR) hlt)
  generalize hq:R.getD n zR=row at*
  have nx:YIV .i64 ((n:Int)+1)=((n+1:Nat):Int):=inc hlt (by omega)
  have step: ∀s',Yb8 loO rec (a::rest,(n:Int),db,rs,N,T,tn,ta,R,out)=s'->Yc5 loO rec (a::rest,(n:Int),db,rs,N,T,tn,ta,R,out)=(match s' with|some (.inl s)=>Yc5 loO rec s|some (.inr x)=>some x|none=>none):=by
   intro s' hs;subst hs
   show YC8 _ _=_
   rw[Yan]
   rcases Yb8 loO rec (a::rest,(n:Int),db,rs,N,T,tn,ta,R,out)with _| (_|_)<;>rfl
  have hal:=g.ln
  simp only at hal
  obtain⟨N',T',q1,q2,q3,q4⟩:=rAt (N:=N) (T:=T) g.gb a.1 a.2 (row.2.map cT) hsz (fun t ht=>by
   obtain⟨v,hv,rfl⟩:=YH2.1 ht;exact hr2 v hv) (by omega)
  have gca:=g.ca
  simp only at gca
  have ets:tsL (YDo N T) a.2 (row.2.map cT)=(tsM (dA N T) (pV a.2) row.2).map cA:=by
   unfold tsL
   rw[decide_eq_true (by simp_all)]
   simp only[YIL,cond_false]
   rw[gca,Yo6]
  rw[ets]at q1 q4
  simp only[Yb8,ltI hlt,cond_true,YIP,hq,nx]at step
  rw[chkT _ (by simp),chkT _ (by omega),YHr _ _ (by omega),YCY]at step
  rw[show((a::rest).getD 0 (YIU #[],[]):Atom)=a from rfl,q1,YCY]at step
  cases hx:tsM (dA N T) (pV a.2) row.2 with
  |none=>
   rw[hx]at step
   simp only[Option.map_none,Option.isSome_none,cond_false]at step
   obtain⟨out',o1,o2,o3⟩:=ih (n+1) (by omega) out (by omega) hg
   simp_all
  |some σ1=>
   rw[hx]at step q4
   have e4:=q4 _ rfl
   have ed:=YCy e4
   simp only[YIE,Option.isSome_some,cond_true]at step
   rw[chkT _ (by grind),chkT _ (by omega),chkT _ (by omega),chkT _ (by grind),show List.drop 1 (List.take (a::rest).length (a::rest))=rest by simp]at step
   obtain⟨ws,w1,w2,w3⟩:=hrec row.1 N' T' ⟨q2,by simp_all,by grind⟩
   rw[ed]at w2
   have hwl:ws.length<=B:=by grind
   rw[w1,YCY,chkT _ (by omega)]at step
   obtain⟨out',o1,o2,o3⟩:=ih (n+1) (by omega) (out++ws) (by grind) (fun w hw=>by
    grind)
   simp_all
theorem Yo7(db:List Tabl)(hdb:db.length<=maxEl)(j:Nat): ∀(l:List Atom),l.length<=6->(∀a∈l,0<=tabI db a.1)->(∀a∈l,(tabO db a.1).2.2.length<=6)->(∀a∈l,∀row∈ (tabO db a.1).2.2,row.2.length=a.2.length/\ ∀v∈row.2,v.2.2.size<=maxEl)->(∀a∈l,SzT a.2)->
  ∀(m:Nat) (rs:List Int) (N:List ByteArray) (T:List Term),GW m (rs,N,T)->m+sumT l<=maxEl->rs.length+l.length<=1000-> ∃ws,Ybd loO (l.length+1+j) (db,l,rs,N,T)=some ws/\ws.map fWy=wyM (PR l (tbs db l)) (dA N T) rs/\ ∀w∈ws,GW maxEl w
 | [],_,_,_,_,_,m,rs,N,T,g,hm,_=>by
   refine⟨[(rs,N,T)],?_,rfl,fun w hw=> ?_⟩
   ·rw[show([]:List Atom).length+1+j=j+1 by grind];rfl
   ·rw[YIp]at hw;subst hw;exact⟨g.gb,g.ca,by have:=g.ln;omega⟩
 |a::rest,h6,h0,hr,har,hsz,m,rs,N,T,g,hm,hrs=>by
  have hM:maxEl=1073741824:=rfl
  have es:sumT (a::rest)=a.2.length+sumT rest:=rfl
  have ha:=YH5 (a:=a) (l:=rest)
  rw[YId]at h6 hrs
  have hwy: ∀σ r,(wyM (PR rest (tbs db rest)) σ r).length<=46656:=fun σ r=>by
   refine YIv (Ye4 _ _ _ (fun q hq=> ?_)) ?_
   ·obtain⟨n,hn,rfl⟩:=Ye5 (by unfold tbs;simp) hq
    have:(tbs db rest).getD n zT=tabO db (rest.getD n zA).1:=by
     unfold tbs;simp_all
    grind
   ·refine YIv (Nat.pow_le_pow_right (by omega) (show _<=6 from ?_)) (by decide)
    unfold PR tbs;grind
  have ht:=h0 a ha
  have eO:tabO db a.1=db.getD (tabI db a.1).toNat zT:=by unfold tabO;simp_all
  rw[show(a::rest).length+1+j=(rest.length+1+j)+1 by grind]
  obtain⟨out,o1,o2,o3⟩:=YCz (Ybd loO (rest.length+1+j)) db a rest g (tabO db a.1).1 (tabO db a.1).2.1 (tabO db a.1).2.2 (hr a ha) (har a ha) (hsz a ha) (by omega) (by omega) (B:=46656) (by omega) hwy
   (fun id N T g'=>Yo7 db hdb j rest (by omega) (fun b hb=>h0 b (YH9 _ hb)) (fun b hb=>hr b (YH9 _ hb)) (fun b hb=>har b (YH9 _ hb)) (fun b hb=>hsz b (YH9 _ hb)) (m+a.2.length) (rs++[id]) N T g' (by omega) (by grind))
   (tabO db a.1).2.2.length 0 (by omega) [] (YIz _) (fun _ h=>nomatch h)
  rw[YH6]at o2
  rw[show((0:Nat):Int)=0 from rfl]at o1
  refine⟨out,?_,o2,o3⟩
  show YeK loO (Ybd loO (rest.length+1+j)) db (a::rest) rs N T=_
  unfold YeK
  have e0:decide (((a::rest).length:Int)=0)=false:=by rfl
  rw[e0,cond_false,chkT _ (by simp)]
  show YIC (q109 loO db a.1) _=_
  have hlt:tabI db a.1< (db.length:Int):=by
   rcases YbN (p:=tabP db a.1) (k:=db.length) (n:=0)with⟨x,_,h2,_,h4⟩| ⟨h1,_⟩
   ·have:tabI db a.1=(x:Int):=h4
    omega
   ·have:tabI db a.1= -1:=h1
    omega
  rw[rTab db a.1 hdb,YCY,chkT _ (by omega),<-eO,o1,YCY]
theorem Yo8: ∀n x y,Ybd loO n x=some y->Ybd loO (n+1) x=some y
 |0,_,_,h=>by cases h
 |n+1,x,y,h=>by
  have ih:=Yo8 n
  have h':YeK loO (Ybd loO n) x.1 x.2.1 x.2.2.1 x.2.2.2.1 x.2.2.2.2=some y:=h
  refine YD2 h' (fun h=>h) fun h=>chkm h fun h=>YE1 h fun _ h=>chkm h fun h=>YEE h (fun z hz=> ?_) fun _ h=>h
  refine YeZ (fun s q hs=> ?_) hz
  exact YD2 hs (fun h=>chkm h fun h=>chkm h fun h=>YE1 h fun _ h=>YE1 h fun _ h=>YD2 h (fun h=>chkm h fun h=>chkm h fun h=>chkm h fun h=>chkm h fun h=>YEE h (ih _) fun _ h=>h) fun h=>h) fun h=>h
structure ROk(db:List Tabl)(l:List Atom):Prop where
 ix: ∀a∈l,0<=tabI db a.1
 sz: ∀a∈l,SzT a.2
theorem Yo9(db:List Tabl){l:List Atom}{n:Nat}(hn:n<l.length):(tbs db l).getD n zT=tabO db (l.getD n zA).1:=by
 unfold tbs;simp_all
theorem QOk.at{db:List Tabl}{hd:List ByteArray}{l:List Atom}(h:QOk db hd l){a:Atom}(ha:a∈l):(tabO db a.1).2.2.length<=6/\ ∀row∈ (tabO db a.1).2.2,row.2.length=a.2.length/\ ∀v∈row.2,v.2.2.size<=maxEl:=by
 have hM:maxEl=1073741824:=rfl
 obtain⟨n,hn,e⟩:=YIk.1 ha
 have e':l.getD n zA=a:=by simp_all
 have h1:=h.row n hn
 have h2:=h.tb.ar n hn
 have h3:=h.val n hn
 rw[Yo9 db hn,e']at h1 h2 h3
 exact⟨h1,fun row hr=>⟨h2 row hr,fun v hv=>by have:=Yhw (h3 row hr v hv).1;omega⟩⟩
theorem YHJ{db:List Tabl}{hd:List ByteArray}{l:List Atom}(h:QOk db hd l)(r:ROk db l): ∃ws,q130 loO db l [] [] []=some ws/\ws.map fWy=YEl db l/\ ∀w∈ws,w.2.1.length=w.2.2.length/\w.2.1.length<=maxEl:=by
 obtain⟨ws,h1,h2,h3⟩:=Yo7 db h.dn 0 l h.tb.sm r.ix (fun a ha=>(h.at ha).1) (fun a ha=>(h.at ha).2) r.sz 0 [] [] [] ⟨⟨rfl,fun t ht=>nomatch ht⟩,by rfl,YIr _⟩ (by have:=h.sm;omega) (by have:=h.tb.sm;grind)
 exact⟨ws,YcP Yo8 (n:=0) (by rw[YIw];exact h1),h2,fun w hw=>⟨(h3 w hw).gb.len,(h3 w hw).ln⟩⟩
end
end Go.Abs.G47
namespace Go.Abs.G47
open Go Go.Abs
noncomputable section
theorem YGA(hd:List ByteArray)(l:List Atom)(rs:List Int){N:List ByteArray}{T:List Term}(hl:N.length=T.length)(hN:N.length<=maxEl)(hh:hd.length<=maxEl):q132 loO hd l rs N T=some (ansM hd (dA N T)):=by
 unfold q132
 have:Yha loO (0,hd,l,rs,N,T,[])=some (ansM hd (dA N T)):=by
  refine Yav (st:=fun n=>((n:Int),hd,l,rs,N,T,ansM (hd.take n) (dA N T))) (N:=hd.length) rfl ?_ (fun n hn=> ?_)
  ·simp only[YeL,nlI,cond_false,YH8]
  ·simp only[YeL,ltI hn,cond_true,inc hn hh,YIP]
   rw[chkT _ (by omega),rGet hl _ hN,YCY,chkT _ (by unfold ansM;grind),YbM (d:=nul0) hn]
   have: ∀k,((YDo N T k).getD zM).2=(dA N T k).getD zV:=fun k=>by unfold dA;cases YDo N T k<;>rfl
   rw[this]
   unfold ansM
   simp
 simp_all
theorem Ypa{a:Vals}(h:Ok a)(hl:a.length<=1000):SzV a:=by
 have hM:maxEl=1073741824:=rfl
 exact⟨by omega,fun v hv=>by have:=Yhw (h v hv).1;omega⟩
theorem YCA{α β:Type}(f:α->β){L:List α}{n:Nat}{d:α}(h:n<L.length):(L.take (n+1)).map f=(L.take n).map f++[f (L.getD n d)]:=by
 rw[YbM (d:=d) h,YIg];rfl
end
end Go.Abs.G47
namespace Go.Abs.G47
open Go Go.Abs
noncomputable section
abbrev zS:ByteArray:=nul0
theorem idx_no{l:List ByteArray}{v:ByteArray}:idxI l v<0↔v∉l:=by
 rw[<-decide_eq_true_iff (p:=idxI l v<0),YeX,Bool.not_eq_true',<-Bool.not_eq_true,inL_iff]
theorem Ypb{n N:Nat}(hn:n<N)(hN:N<=1073741824):YIV .i64 ((n:Int)+1)=((n+1:Nat):Int):=inc hn hN
theorem YCB(c:Int): ∃v,q117 loO c=some v/\goodV v:=by
 have g: ∀a b:Int,∀s:ByteArray,vB (a,b,s)=true->(decide (-9223372036854775808<=b)&&decide (b<=9223372036854775807))=true->goodV (a,b,s):=fun a b s h1 h2=>by
  simp at h2
  trivial
 have v0: ∀n:Int,vB (1,n,YIU #[])=true:=fun n=>by rfl
 unfold q117
 rw[chkT _ (by decide)]
 by_cases h0:c.tmod 12=0
 ·simp_all
 rw[decide_eq_false h0]
 by_cases h1:c.tmod 12=1
 ·simp_all
 rw[decide_eq_false h1]
 by_cases h2:c.tmod 12=2
 ·simp_all
 rw[decide_eq_false h2]
 by_cases h3:c.tmod 12=3
 ·exact⟨_,by rw[decide_eq_true h3];rfl,g _ _ _ (by rfl) (by decide)⟩
 rw[decide_eq_false h3]
 by_cases h4:c.tmod 12=4
 ·exact⟨_,by rw[decide_eq_true h4];rfl,g _ _ _ (by rfl) (by decide)⟩
 rw[decide_eq_false h4]
 by_cases h5:c.tmod 12=5
 ·exact⟨_,by rw[decide_eq_true h5];rfl,g _ _ _ (by rfl) (by decide)⟩
 rw[decide_eq_false h5]
 by_cases h6:c.tmod 12=6
 ·exact⟨_,by rw[decide_eq_true h6];rfl,g _ _ _ (by rfl) (by decide)⟩
 rw[decide_eq_false h6]
 by_cases h7:c.tmod 12=7
 ·exact⟨_,by rw[decide_eq_true h7];rfl,g _ _ _ (by rfl) (by decide)⟩
 rw[decide_eq_false h7]
 by_cases h8:c.tmod 12=8
 ·simp_all
 rw[decide_eq_false h8]
 by_cases h9:c.tmod 12=9
 ·exact⟨_,by rw[decide_eq_true h9];rfl,g _ _ _ (by rfl) (by decide)⟩
 rw[decide_eq_false h9]
 by_cases h10:c.tmod 12=10
 ·exact⟨_,by rw[decide_eq_true h10];rfl,g _ _ _ (by rfl) (by decide)⟩
 simp_all
def ofV(c:Int):Int×Int×ByteArray:=(q117 loO c).getD zV
theorem YbO(c:Int):q117 loO c=some (ofV c)/\goodV (ofV c):=by
 obtain⟨v,h,g⟩:=YCB c
 have:ofV c=v:=by unfold ofV;simp_all
 simp_all
structure GT(nm:ByteArray)(attrs:List ByteArray)(rows:Rws):Prop where
 nm:YDs nm=true
 na:attrs.length<=16
 nr:rows.length<=1000
 at': ∀a∈attrs,YDs a=true
 nd:attrs.Nodup
 ids:((0:Int)::rows.map (·.1)).Pairwise (· < ·)
 len: ∀r∈rows,r.2.length=attrs.length
 ok: ∀r∈rows,∀v∈r.2,vB v=true
theorem Yhx{attrs:List ByteArray}(h:attrs.Nodup){n:Nat}(hn:n<attrs.length):attrs.getD n zS∉attrs.take n:=by
 intro hm
 rw[<-List.take_append_drop n attrs,List.nodup_append]at h
 refine h.2.2 _ hm _ ?_ rfl
 rw[List.getD_eq_getElem?_getD,YHV hn]
 exact List.mem_drop_iff_getElem.2 ⟨0,by omega,by simp⟩
theorem YCC{nm:ByteArray}{attrs:List ByteArray}{rows:Rws}(g:GT nm attrs rows):YDw nm attrs rows=0:=by
 have hA:anyN (fA attrs) attrs.length 0=false:=by
  rw[<-Bool.not_eq_true,Ycc]
  rintro⟨m,_,h2,h3⟩
  have hm:m<attrs.length:=by omega
  unfold fA at h3
  rw[g.at' _ (Yaj hm),YIL,Bool.false_or,decide_eq_true_eq]at h3
  have:=idx_no.2 (Yhx g.nd hm)
  grind
 have hR:YC0 (fV attrs rows) rows.length 0 (.inr ())= .inr ():=by
  refine YeR _ _ (fun m _ hm=> ?_)
  have hm:m<rows.length:=by omega
  have hmem:=Yaj (d:=zR) hm
  have hid:YEd rows m< (rows.getD m zR).1:=by
   have hp:=List.pairwise_iff_getElem.1 g.ids
   have e:(rows.getD m zR).1=((0:Int)::rows.map (·.1))[m+1]'(by simp_all):=by
    simp_all
   cases m with
   |zero=>rw[e];exact hp 0 1 (by simp) (by simp_all) (by omega)
   |succ k=>
    have e2:YEd rows (k+1)=((0:Int)::rows.map (·.1))[k+1]'(by grind):=by
     show(rows.getD k zR).1=_
     grind
    rw[e,e2];exact hp (k+1) (k+2) _ _ (by omega)
  unfold fV
  have hv:vsB (rows.getD m zR).2=true:=by
   unfold vsB
   rw[Bool.not_eq_true',<-Bool.not_eq_true,Ycc]
   rintro⟨k,_,h2,h3⟩
   rw[g.ok _ hmem _ (Yaj (by omega))]at h3
   cases h3
  rw[decide_eq_false (by omega),g.len _ hmem,decide_eq_true rfl,hv];rfl
 have h1:=g.na
 have h2:=g.nr
 unfold YDw
 rw[g.nm,decide_eq_false (by omega),decide_eq_false (by omega),hA,hR];rfl
abbrev nmL:List ByteArray:=[(YIU #[97]),(YIU #[98]),(YIU #[99]),(YIU #[100]),(YIU #[101]),(YIU #[102]),(YIU #[103]),(YIU #[104])]
def cellV(codes:List Int)(k:Nat):Int×Int×ByteArray:=if k<codes.length then ofV (codes.getD k 0)else ofV 0
def recR(n:Nat)(g:Int)(rows:List (List Int)):Rws:=tab rows.length fun i=>(1+(i:Int)*g,tab n (cellV (rows.getD i [])))
theorem YCD(n i:Nat)(a b:Int)(rows:List (List Int))(hi:i<rows.length)(hn:n<=5)(v4:ByteArray)(v5:List ByteArray)(v6:Rws)(t:ByteArray)(id:Int)(h3:List ByteArray)(h4:Rws):
  Yg2 loO ((n:Int),(i:Int),0,a,b,rows,v4,v5,v6,t,id,h3,h4,[])=some ((n:Int),(i:Int),a,b,rows,v4,v5,v6,t,id,h3,h4,tab n (cellV (rows.getD i []))):=by
 have hm:maxEl=1073741824:=rfl
 refine Yav (N:=n) (st:=fun k=>((n:Int),(i:Int),(k:Int),a,b,rows,v4,v5,v6,t,id,h3,h4,tab k (cellV (rows.getD i [])))) ?_ ?_ (fun k hk=> ?_)
 ·rfl
 ·simp[YeF]
 ·have e1:decide ((k:Int)< (n:Int))=true:=by simp_all
  have e2:=Ypb hk (by omega)
  simp only[YeF,e1,cond_true,e2,YIP]
  rw[chkT _ (by omega),<-Ycb]
  by_cases hc:k< (rows.getD i []).length
  ·have ec:cellV (rows.getD i []) k=ofV ((rows.getD i []).getD k 0):=by unfold cellV;simp_all
   rw[decide_eq_true (by omega:(k:Int)< ((rows.getD i []).length:Int)),cond_true,chkT _ (by omega),chkT _ (by omega),(YbO _).1,YCY,ec,chkT _ (by rw[YaB];grind)]
  ·have ec:cellV (rows.getD i []) k=ofV 0:=by unfold cellV;simp_all
   rw[decide_eq_false (by omega: ¬ (k:Int)< ((rows.getD i []).length:Int)),cond_false,(YbO _).1,YCY,ec,chkT _ (by rw[YaB];grind)]
theorem YCE(n:Nat)(a b:Int)(rows:List (List Int))(hr:rows.length<=8)(hn:n<=5)(hb0:0<=b):q118 loO a b rows (n:Int)=some (YIU #[114],nmL.take n,recR n (1+b.tmod 3) rows):=by
 have hm:maxEl=1073741824:=rfl
 have hg0:0<=b.tmod 3:=Int.tmod_nonneg _ hb0
 have hg1:b.tmod 3<3:=Int.tmod_lt_of_pos _ (by decide)
 have hL:Yg3 loO ((n:Int),0,a,b,rows,zS,[],[],YIU #[114],nmL.take n,[])=some (zS,[],[],YIU #[114],nmL.take n,recR n (1+b.tmod 3) rows):=by
  refine Yav (N:=rows.length) (st:=fun i=>((n:Int),(i:Int),a,b,rows,zS,[],[],YIU #[114],nmL.take n,tab i fun i=>(1+(i:Int)*(1+b.tmod 3),tab n (cellV (rows.getD i []))))) ?_ ?_ (fun i hi=> ?_)
  ·rfl
  ·simp[YeG,recR]
  ·have e1:decide ((i:Int)< (rows.length:Int))=true:=by simp_all
   have e2:=Ypb hi (by omega)
   have hprod:(i:Int)*(1+b.tmod 3)<=24/\0<=(i:Int)*(1+b.tmod 3):=by
    refine⟨?_,Int.mul_nonneg (by omega) (by omega)⟩
    have h1:(i:Int)*(1+b.tmod 3)<=(i:Int)*3:=Int.mul_le_mul_of_nonneg_left (by omega) (by omega)
    omega
   have e3:YIV .i64 (1+b.tmod 3)=1+b.tmod 3:=wr6 (by omega) (by omega)
   have e4:YIV .i64 ((i:Int)*(1+b.tmod 3))=(i:Int)*(1+b.tmod 3):=wr6 (by omega) (by omega)
   have e5:YIV .i64 (1+(i:Int)*(1+b.tmod 3))=1+(i:Int)*(1+b.tmod 3):=wr6 (by omega) (by omega)
   have e6:YIV .i64 (b.tmod 3)=b.tmod 3:=wr6 (by omega) (by omega)
   simp only[YeG,e1,cond_true,e3,e4,e5,e6]
   rw[chkT _ (by decide),YCD n i a b rows hi hn,YCY,<-Ycb]
   simp only[e2]
   rw[chkT _ (by rw[YaB];grind)]
 unfold q118
 have e0:(nmL.take (n:Int).toNat).drop 0=nmL.take n:=by rfl
 rw[chkT _ (by grind)]
 rw[e0,chkT _ (by grind),hL,YCY]
theorem Yhy{n:Nat}{g:Int}{rows:List (List Int)}{r:Int×Vals}(h:r∈recR n g rows):r.2.length=n/\ ∀v∈r.2,goodV v:=by
 obtain⟨i,hi,rfl⟩:=YH2.1 h
 refine⟨YaB _ _,fun v hv=> ?_⟩
 obtain⟨k,hk,rfl⟩:=YH2.1 hv
 unfold cellV
 split
 ·exact(YbO _).2
 trivial
theorem YCF(nm:ByteArray)(hnm:YDs nm=true)(n:Nat)(g:Int)(rows:List (List Int))(hr:rows.length<=8)(hn:n<=5)(hg:1<=g):GT nm (nmL.take n) (recR n g rows):=by
 have hnl:(nmL.take n).length=n:=by grind
 have nB: ∀a∈nmL,YDs a=true:=by
  trivial
 refine⟨hnm,by omega,by unfold recR;rw[YaB];omega,fun a ha=>nB a (List.mem_of_mem_take ha),List.Nodup.sublist (List.take_sublist _ _) (by decide),?_,fun r hr=>by rw[(Yhy hr).1,hnl],fun r hr v hv=>((Yhy hr).2 v hv).1⟩
 have e:(recR n g rows).map (·.1)=tab rows.length fun i=>1+(i:Int)*g:=by unfold recR tab;simp
 rw[e,List.pairwise_cons]
 constructor
 ·intro x hx
  obtain⟨i,hi,rfl⟩:=YH2.1 hx
  have:=Int.mul_nonneg (show(0:Int)<=(i:Int) by omega) (show 0<=g by omega)
  omega
 ·unfold tab
  rw[List.pairwise_map]
  refine List.Pairwise.imp (fun{a b} h=> ?_) List.pairwise_lt_range
  have h1:((a:Int)+1)*g<=(b:Int)*g:=Int.mul_le_mul_of_nonneg_right (by omega) (by omega)
  grind
abbrev nm3:List ByteArray:=[(YIU #[114]),(YIU #[115]),(YIU #[116])]
def drT(d:List (Int×Int×List (List Int)))(i:Nat):Tabl:=
 (nm3.getD i nul0,nmL.take (((d.getD i (0,0,[])).1.tmod 4).tmod 6).toNat,recR (((d.getD i (0,0,[])).1.tmod 4).tmod 6).toNat (1+(d.getD i (0,0,[])).2.1.tmod 3) (d.getD i (0,0,[])).2.2)
structure DOk(db:List Tabl):Prop where
 len:db.length<=3
 gt: ∀t∈db,GT t.1 t.2.1 t.2.2
 na: ∀t∈db,t.2.1.length<=5
 rs: ∀t∈db,t.2.2.length<=6
 gv: ∀t∈db,∀r∈t.2.2,∀v∈r.2,goodV v
 nd:(db.map (·.1)).Nodup
theorem Ypc{n:Int}(h:0<=n)(h':n<=255): ∃m:Nat,(n.tmod 4).tmod 6=(m:Int)/\m<=3/\YIV .i64 ((n.tmod 4).tmod 6)=(m:Int):=by
 have h1:=Int.tmod_nonneg 4 h
 have h2:n.tmod 4<4:=Int.tmod_lt_of_pos _ (by decide)
 have h3:(n.tmod 4).tmod 6=n.tmod 4:=Int.tmod_eq_of_lt h1 (by omega)
 refine⟨(n.tmod 4).toNat,by omega,by omega,?_⟩
 rw[h3,wr6 (by omega) (by omega)];omega
theorem YHs(a b:Int)(rows:List (List Int))(ha:0<=a)(ha':a<=255)(hb:0<=b):q119 loO (a.tmod 4) b rows 6=some (bif decide ((6:Int)< (rows.length:Int))then(nul0,[],[],false)else((YIU #[114]),nmL.take ((a.tmod 4).tmod 6).toNat,recR ((a.tmod 4).tmod 6).toNat (1+b.tmod 3) rows,true)):=by
 unfold q119
 by_cases h6:(6:Int)< (rows.length:Int)
 ·simp_all
 ·rw[decide_eq_false h6,cond_false,cond_false,chkT _ (by decide)]
  obtain⟨m,h1,h2,h3⟩:=Ypc ha ha'
  rw[h3,YCE m _ b rows (by omega) (by omega) hb,YCY,h1]
  rfl
theorem YHt(d:List (Int×Int×List (List Int)))(hd: ∀x∈d,0<=x.1/\x.1<=255/\0<=x.2.1): ∃db ok,q120 loO d=some (db,ok)/\DOk db:=by
 have hm:maxEl=1073741824:=rfl
 unfold q120
 have e3:Yg4 loO (d,0,[],[])=some (YC0 (R:=(Bool×List Tabl)⊕ (List (Int×Int×List (List Int))×List Tabl×List Tabl)) (fun m=>bif decide ((6:Int)< ((d.getD m (0,0,[])).2.2.length:Int))then some (.inl (false,[]))else none) (min d.length 3) 0 (.inr (d,[],tab (min d.length 3) (drT d)))):=by
  refine Yak (fun n=>(d,(n:Int),[],tab n (drT d))) _ (min d.length 3) _ rfl ?_ (fun n hn=> ?_)
  ·by_cases h:d.length<=3
   ·rw[Nat.min_eq_left h]
    simp only[YcZ,nlI,cond_false]
   ·rw[Nat.min_eq_right (by omega)]
    have e:decide (((3:Nat):Int)< (d.length:Int))=true:=by grind
    have e':decide (((3:Nat):Int)<3)=false:=rfl
    simp only[YcZ,e,e',cond_true,cond_false]
  ·have h1:decide ((n:Int)< (d.length:Int))=true:=by grind
   have h2:decide ((n:Int)<3)=true:=by grind
   obtain⟨p1,p2,p3⟩:=hd _ (Yaj (d:=(0,0,[])) (show n<d.length by omega))
   simp only[YcZ,h1,h2,cond_true,YIP]
   rw[chkT _ (by omega),chkT _ (by decide),chkT _ (by omega),chkT _ (by omega),YHs _ _ _ p1 p2 p3,YCY]
   have e2:YIV .i64 ((n:Int)+1)=((n+1:Nat):Int):=by rw[wr6 (by omega) (by omega)];omega
   by_cases h6:(6:Int)< ((d.getD n (0,0,[])).2.2.length:Int)
   ·simp_all
   ·rw[decide_eq_false h6]
    simp only[cond_false,YIL]
    rw[chkT _ (by simp_all),chkT _ (by rw[YaB];grind),e2,<-Ycb]
    rfl
 rw[e3,YCY]
 rcases Ybe (f:=fun m=>bif decide ((6:Int)< ((d.getD m (0,0,[])).2.2.length:Int))then some (.inl (false,[]))else none) (r0:=(.inr (d,[],tab (min d.length 3) (drT d)):(Bool×List Tabl)⊕ (List (Int×Int×List (List Int))×List Tabl×List Tabl))) (min d.length 3) 0 with⟨m,r,g1,g2,g3,g4⟩| ⟨g1,g2⟩
 ·rw[g4]
  cases hc:decide ((6:Int)< ((d.getD m (0,0,[])).2.2.length:Int))with
  |false=>grind
  |true=>
   rw[hc]at g3;injection g3 with g3;subst g3
   exact⟨[],false,rfl,YIz _,(fun t h=>nomatch h),(fun t h=>nomatch h),(fun t h=>nomatch h),(fun t h=>nomatch h),List.nodup_nil⟩
 ·rw[g1]
  refine⟨tab (min d.length 3) (drT d),decide ((d.length:Int)<=3),rfl,?_⟩
  have hN:min d.length 3<=d.length/\min d.length 3<=3:=⟨Nat.min_le_left ..,Nat.min_le_right ..⟩
  generalize min d.length 3=N at*
  have hall: ∀i,i<N-> ∃n:Nat,n<=3/\ (drT d i)=(nm3.getD i nul0,nmL.take n,recR n (1+(d.getD i (0,0,[])).2.1.tmod 3) (d.getD i (0,0,[])).2.2)/\ (d.getD i (0,0,[])).2.2.length<=6/\1<=1+(d.getD i (0,0,[])).2.1.tmod 3:=fun i hi=>by
   obtain⟨p1,p2,p3⟩:=hd _ (Yaj (d:=(0,0,[])) (show i<d.length by omega))
   obtain⟨m,q1,q2,_⟩:=Ypc p1 p2
   refine⟨m,q2,by unfold drT;simp_all,?_,by grind⟩
   grind
  have hn3: ∀i,i<3->YDs (nm3.getD i nul0)=true:=fun i hi=>YIb.1 (show nm3.all YDs=true by rfl) _ (Yaj hi)
  have hmem: ∀t∈tab N (drT d),∃i,i<N/\t=drT d i:=fun t ht=>by
   unfold tab at ht
   grind
  refine⟨by rw[YaB];omega,fun t ht=> ?_,fun t ht=> ?_,fun t ht=> ?_,fun t ht r hr v hv=> ?_,?_⟩
  ·obtain⟨i,hi,rfl⟩:=hmem t ht
   obtain⟨n,h1,h2,h3,h4⟩:=hall i hi
   rw[h2]
   exact YCF _ (hn3 i (by omega)) n _ _ (by omega) (by omega) h4
  ·grind
  ·obtain⟨i,hi,rfl⟩:=hmem t ht
   obtain⟨n,h1,h2,h3,h4⟩:=hall i hi
   rw[h2]
   show(recR n _ _).length<=6
   unfold recR;rw[YaB];exact h3
  ·obtain⟨i,hi,rfl⟩:=hmem t ht
   obtain⟨n,h1,h2,h3,h4⟩:=hall i hi
   rw[h2]at hr
   exact(Yhy hr).2 v hv
  ·have e:(tab N (drT d)).map (·.1)=nm3.take N:=by
    unfold tab
    rw[YIc]
    match N,hN.2 with
    |0,_=>rfl
    |1,_=>rfl
    |2,_=>rfl
    |3,_=>rfl
   rw[e]
   exact List.Nodup.sublist (List.take_sublist _ _) (by decide)
theorem YCG{l:List ByteArray}(h:l.Nodup){i j:Nat}(hi:i<l.length)(hj:j<l.length)(e:l[i]=l[j]):i=j:=by
 have h:=List.pairwise_iff_getElem.1 h
 grind
theorem DOk.get{db:List Tabl}(h:DOk db){n:Nat}(hn:n<db.length):tabI db (db.getD n zT).1=(n:Int):=by
 rcases YbN (p:=tabP db (db.getD n zT).1) (k:=db.length) (n:=0)with⟨m,_,h2,h3,h4⟩| ⟨h1,h2⟩
 ·have e:(db.getD m zT).1=(db.getD n zT).1:=of_decide_eq_true h3
  have hm:m<db.length:=by omega
  have:m=n:=YCG h.nd (by simp_all) (by simp_all) (by
   simp_all)
  have h4:tabI db (db.getD n zT).1=(m:Int):=h4
  omega
 ·have:=h2 n (YIz _) (by omega)
  unfold tabP at this
  simp_all
theorem DOk.tab{db:List Tabl}(h:DOk db){n:Nat}(hn:n<db.length):tabO db (db.getD n zT).1=db.getD n zT:=by
 unfold tabO
 rw[h.get hn,decide_eq_true (by omega),cond_true,YIP]
theorem DOk.valid{db:List Tabl}(h:DOk db):dbI db=0:=by
 unfold dbI
 have hl:=h.len
 rw[decide_eq_false (by omega),cond_false,YeR _ _ (fun m _ hm=> ?_)]
 have hm':m<db.length:=by omega
 have g:=h.gt _ (Yaj (d:=zT) hm')
 unfold fD
 rw[YCC g]
 have hneg:decide (0<=tabI (db.take m) (db.getD m zT).1)=false:=by
  rw[decide_eq_false_iff_not]
  rcases YbN (p:=tabP (db.take m) (db.getD m zT).1) (k:=(db.take m).length) (n:=0)with⟨x,_,h2,h3,h4⟩| ⟨h1,h2⟩
  ·exfalso
   rw[YIw,List.length_take]at h2
   have e:((db.take m).getD x zT).1=(db.getD m zT).1:=of_decide_eq_true h3
   have a1:=h.get (n:=x) (by omega)
   have a2:=h.get hm'
   grind
  ·have h1:tabI (db.take m) (db.getD m zT).1= -1:=h1
   omega
 grind
abbrev nm4:List ByteArray:=[(YIU #[120]),(YIU #[121]),(YIU #[122]),(YIU #[119])]
def vn(c:Int):ByteArray:=nm4.getD (c.tmod 4).toNat nul0
theorem rVar(c:Int)(h:0<=c):q121 loO c=some (vn c):=by
 have h1:=Int.tmod_nonneg 4 h
 have h2:c.tmod 4<4:=Int.tmod_lt_of_pos _ (by decide)
 unfold q121
 rw[chkT _ (by decide),chkT _ ⟨h1,h2⟩]
 rfl
theorem YCH(c:Int)(h:0<=c):YDs (vn c)=true/\vn c≠nul0:=by
 have h2:c.tmod 4<4:=Int.tmod_lt_of_pos _ (by decide)
 unfold vn
 have hm:nm4.getD (c.tmod 4).toNat nul0∈nm4:=Yaj (show(c.tmod 4).toNat<4 by omega)
 refine⟨YIb.1 (show nm4.all YDs=true by rfl) _ hm,fun e=> ?_⟩
 grind
def cdT(c:Int):Term:=if 4<=c then cT (ofV (YIV .u8 (c-4)))else vT (vn c)
theorem YCI(c:Int)(h:0<=c):YDF (cdT c)=true:=by
 unfold cdT YDF
 by_cases h4:4<=c
 ·rw[if_pos h4]
  have:=(YbO (YIV .u8 (c-4))).2.1
  trivial
 ·rw[if_neg h4]
  obtain⟨n1,n2⟩:=YCH c h
  simp only[vT,n1,n2,decide_false,decide_true,YIM,cond_true,YIO]
theorem rJ(c:Int)(hc:0<=c)(i k:Int)(db:List Tabl)(xh:List Int)(xa:List (Int×List Int))(v0:List ByteArray)(v1:List Atom)(t0:ByteArray)(t1:List ByteArray)(t2:Rws)(a9:ByteArray)(h6:List ByteArray)(h7:List Atom)(h8:List Term)(h:h8.length+1<=maxEl):
  Yc0 loO (i,k,c,db,xh,xa,v0,v1,t0,t1,t2,a9,h6,h7,h8)=some (i,k,db,xh,xa,v0,v1,t0,t1,t2,a9,h6,h7,h8++[cdT c]):=by
 simp only[Yc0]
 rw[rVar c hc,YCY]
 unfold cdT
 by_cases h4:4<=c
 ·rw[decide_eq_true h4,cond_true,(YbO _).1,YCY,chkT _ (by trivial),if_pos h4];rfl
 ·rw[decide_eq_false h4,cond_false,chkT _ (by trivial),if_neg h4];rfl
def cdAt(codes:List Int)(k:Nat):Int:=if k<codes.length then codes.getD k 0 else 0
theorem Ypd{codes:List Int}(h: ∀c∈codes,0<=c)(k:Nat):0<=cdAt codes k:=by
 unfold cdAt
 split
 ·simp_all
 trivial
def qAt(db:List Tabl)(xa:List (Int×List Int))(i:Nat):Atom:=
 let t:=db.getD ((xa.getD i (0,[])).1.tmod (db.length:Int)).toNat zT
 (t.1,tab t.2.1.length fun k=>cdT (cdAt (xa.getD i (0,[])).2 k))
structure GQ(db:List Tabl)(hd:List ByteArray)(l:List Atom):Prop where
 len:l.length<=3
 ne:1<=l.length
 at': ∀a∈l,∃n,n<db.length/\a.1=(db.getD n zT).1/\a.2.length=(db.getD n zT).2.1.length
 tm: ∀a∈l,∀t∈a.2,YDF t=true
 hl:hd.length<=4
 hv: ∀v∈hd,v∈YDn [] l
 nd:hd.Nodup
def hdF(vs:List ByteArray)(xh:List Int):Nat->List ByteArray
 |0=>[]
 |n+1=>bif inL vs (vn (xh.getD n 0))&& !inL (hdF vs xh n) (vn (xh.getD n 0))then hdF vs xh n++[vn (xh.getD n 0)]else hdF vs xh n
theorem Yhz(vs:List ByteArray)(xh:List Int): ∀n,(hdF vs xh n).length<=n/\ (∀v∈hdF vs xh n,v∈vs)/\ (hdF vs xh n).Nodup
 |0=>⟨YIr _,fun v h=>(by cases h),List.nodup_nil⟩
 |n+1=>by
  obtain⟨h1,h2,h3⟩:=Yhz vs xh n
  simp only[hdF]
  cases hc:inL vs (vn (xh.getD n 0))&& !inL (hdF vs xh n) (vn (xh.getD n 0))with
  |false=>grind
  |true=>
   rw[YIK,Bool.not_eq_true',<-Bool.not_eq_true,inL_iff,inL_iff]at hc
   grind
theorem YHu{db:List Tabl}(h:DOk db)(xh:List Int)(xa:List (Int×List Int))(hxh: ∀c∈xh,0<=c)(hxa: ∀x∈xa,0<=x.1/\x.1<=255/\ ∀c∈x.2,0<=c):
  ∃hd l ok,q122 loO db xh xa=some (hd,l,ok)/\ (ok=true->GQ db hd l):=by
 have hm:maxEl=1073741824:=rfl
 have hdl:=h.len
 unfold q122
 by_cases h0:(db.length:Int)=0
 ·simp_all
 by_cases h1:(xa.length:Int)<1
 ·simp_all
 by_cases h3:(3:Int)< (xa.length:Int)
 ·simp_all
 rw[decide_eq_false h0,decide_eq_false h1,decide_eq_false h3]
 simp only[cond_false]
 have hix: ∀i,i<xa.length->0<=(xa.getD i (0,[])).1.tmod (db.length:Int)/\ (xa.getD i (0,[])).1.tmod (db.length:Int)< (db.length:Int):=fun i hi=>
  ⟨Int.tmod_nonneg _ (hxa _ (Yaj hi)).1,Int.tmod_lt_of_pos _ (by omega)⟩
 have e12:Yg6 loO (0,db,xh,xa,[],[],[],[])=some (xh,xa,[],[],[],tab xa.length (qAt db xa)):=by
  refine Yav (st:=fun i=>((i:Int),db,xh,xa,[],[],[],tab i (qAt db xa))) (N:=xa.length) rfl ?_ (fun i hi=> ?_)
  ·simp only[YeI,nlI,cond_false]
  ·obtain⟨p1,p2,p3⟩:=hxa _ (Yaj (d:=(0,[])) hi)
   obtain⟨q1,q2⟩:=hix i hi
   have w1:YIV .i64 (xa.getD i (0,[])).1=(xa.getD i (0,[])).1:=wr6 (by omega) (by omega)
   simp only[YeI,ltI hi,cond_true,YIP,w1]
   rw[chkT _ (by omega),chkT _ h0,chkT _ ⟨q1,q2⟩]
   have hna:(db.getD ((xa.getD i (0,[])).1.tmod (db.length:Int)).toNat zT).2.1.length<=5:=h.na _ (Yaj (by omega))
   have hq:qAt db xa i=((db.getD ((xa.getD i (0,[])).1.tmod (db.length:Int)).toNat zT).1,tab (db.getD ((xa.getD i (0,[])).1.tmod (db.length:Int)).toNat zT).2.1.length fun k=>cdT (cdAt (xa.getD i (0,[])).2 k)):=rfl
   rw[<-Ycb,hq]
   generalize db.getD ((xa.getD i (0,[])).1.tmod (db.length:Int)).toNat zT=t at*
   have e15:Yg5 loO ((i:Int),0,db,xh,xa,[],[],t.1,t.2.1,t.2.2,t.1,[],tab i (qAt db xa),[])=some ((i:Int),db,xh,xa,[],[],t.1,[],tab i (qAt db xa),tab t.2.1.length fun k=>cdT (cdAt (xa.getD i (0,[])).2 k)):=by
    refine Yav (st:=fun k=>((i:Int),(k:Int),db,xh,xa,[],[],t.1,t.2.1,t.2.2,t.1,[],tab i (qAt db xa),tab k fun k=>cdT (cdAt (xa.getD i (0,[])).2 k))) (N:=t.2.1.length) rfl ?_ (fun k hk=> ?_)
    ·simp only[YeH,nlI,cond_false]
    ·have hc:=Ypd p3 k
     simp only[YeH,ltI hk,cond_true,YIP]
     rw[chkT _ (by omega),<-Ycb]
     by_cases hkc:k< (xa.getD i (0,[])).2.length
     ·have ec:cdAt (xa.getD i (0,[])).2 k=(xa.getD i (0,[])).2.getD k 0:=by unfold cdAt;omega
      rw[decide_eq_true (by omega:(k:Int)< ((xa.getD i (0,[])).2.length:Int)),cond_true,chkT _ (by omega),chkT _ (by omega),rJ _ (ec▸hc) _ _ _ _ _ _ _ _ _ _ _ _ _ _ (by rw[YaB];omega),YCY,ec]
      simp only[inc hk (show t.2.1.length<=maxEl by omega)]
     ·have ec:cdAt (xa.getD i (0,[])).2 k=0:=by unfold cdAt;omega
      rw[decide_eq_false (by omega: ¬ (k:Int)< ((xa.getD i (0,[])).2.length:Int)),cond_false,rJ _ (Int.le_refl _) _ _ _ _ _ _ _ _ _ _ _ _ _ _ (by rw[YaB];omega),YCY,ec]
      simp only[inc hk (show t.2.1.length<=maxEl by omega)]
   rw[e15,YCY]
   dsimp only
   rw[chkT _ (by rw[YaB];grind)]
   simp only[inc hi (show xa.length<=maxEl by omega)]
 rw[e12,YCY]
 dsimp only
 have hsum: ∀n,n<=3->sumT (tab n (qAt db xa))<=5*n\/ ¬n<=xa.length:=by
  intro n
  induction n with
  |zero=>intro _;exact .inl (YIr _)
  |succ n ih=>
   intro h3
   by_cases hx:n+1<=xa.length
   ·rcases ih (by omega)with hs|hs
    ·refine .inl ?_
     rw[<-Ycb]
     have hq:=hix n (by omega)
     have:(qAt db xa n).2.length<=5:=by
      unfold qAt
      simp only[YaB]
      exact h.na _ (Yaj (by omega))
     unfold sumT at hs⊢
     grind
    ·omega
   omega
 have hs:sumT (tab xa.length (qAt db xa))<=15:=by
  grind
 rw[YHq _ (by rw[YaB];omega) (by omega),YCY]
 have hvl:=YeW (tab xa.length (qAt db xa)) []
 simp only[List.length_nil,YIw]at hvl
 generalize hL:tab xa.length (qAt db xa)=l at*
 have e3:Yg7 loO (YDn [] l,0,xh,xa,[],[],l,[])=some ([],[],l,hdF (YDn [] l) xh (min xh.length 4)):=by
  refine Yav (st:=fun n=>(YDn [] l,(n:Int),xh,xa,[],[],l,hdF (YDn [] l) xh n)) (N:=min xh.length 4) rfl ?_ (fun n hn=> ?_)
  ·by_cases h4:xh.length<=4
   ·rw[Nat.min_eq_left h4]
    simp only[Yc1,nlI,cond_false]
   ·rw[Nat.min_eq_right (by omega)]
    have e:decide (((4:Nat):Int)< (xh.length:Int))=true:=by grind
    have e':decide (((4:Nat):Int)<4)=false:=rfl
    simp only[Yc1,e,e',cond_true,cond_false]
  ·have a1:decide ((n:Int)< (xh.length:Int))=true:=by grind
   have a2:decide ((n:Int)<4)=true:=by grind
   have e2:YIV .i64 ((n:Int)+1)=((n+1:Nat):Int):=by rw[wr6 (by omega) (by omega)];omega
   have hc:=hxh _ (Yaj (d:=0) (show n<xh.length by omega))
   have hf:=(Yhz (YDn [] l) xh n).1
   simp only[Yc1,a1,a2,cond_true,e2,YIP]
   rw[chkT _ (by omega),rVar _ hc,YCY,Ybo _ _ (by omega),YCY,Ybo _ _ (by omega),YCY,Ydb,YeX,chkT _ (by grind)]
   simp only[hdF]
   grind
 rw[e3,YCY]
 obtain⟨f1,f2,f3⟩:=Yhz (YDn [] l) xh (min xh.length 4)
 have hll:l.length=xa.length:=by rw[<-hL,YaB]
 refine⟨hdF (YDn [] l) xh (min xh.length 4),l,true,rfl,fun _=>⟨by omega,by omega,fun a ha=> ?_,fun a ha t ht=> ?_,by omega,f2,f3⟩⟩
 ·rw[<-hL]at ha
  unfold tab at ha
  obtain⟨i,hi,rfl⟩:=YH2.1 ha
  have hi':i<xa.length:=by simp_all
  obtain⟨q1,q2⟩:=hix i hi'
  exact⟨_,by omega,rfl,by unfold qAt;simp only[YaB]⟩
 ·rw[<-hL]at ha
  unfold tab at ha
  obtain⟨i,hi,rfl⟩:=YH2.1 ha
  have hi':i<xa.length:=by simp_all
  unfold qAt at ht
  simp only[tab]at ht
  obtain⟨k,hk,rfl⟩:=YH2.1 ht
  exact YCI _ (Ypd (hxa _ (Yaj hi')).2.2 k)
end
end Go.Abs.G47
namespace Go.Abs.G47
open Go Go.Abs
noncomputable section
theorem GQ.rok{db:List Tabl}{hd:List ByteArray}{l:List Atom}(h:DOk db)(g:GQ db hd l):ROk db l:=by
 refine⟨fun a ha=> ?_,fun a ha t ht=> ?_⟩
 ·obtain⟨n,hn,e,_⟩:=g.at' a ha
  rw[e,h.get hn];omega
 ·have hM:maxEl=1073741824:=rfl
  have:=Yo5 (g.tm a ha t ht)
  omega
theorem GQ.tabs{db:List Tabl}{hd:List ByteArray}{l:List Atom}(h:DOk db)(g:GQ db hd l){a:Atom}(ha:a∈l):tabO db a.1∈db/\ (tabO db a.1).2.1.length=a.2.length:=by
 obtain⟨n,hn,e,e2⟩:=g.at' a ha
 rw[e,h.tab hn]
 simp_all
theorem GQ.sum{db:List Tabl}{hd:List ByteArray}{l:List Atom}(h:DOk db)(g:GQ db hd l):sumT l<=15:=by
 have:sumT l<=l.length*5:=YCh fun n hn=>by
  have:=g.tabs h (Yaj (d:=zA) hn)
  have:=h.na _ this.1
  omega
 have:=g.len
 omega
theorem GQ.qok{db:List Tabl}{hd:List ByteArray}{l:List Atom}(h:DOk db)(g:GQ db hd l):QOk db hd l:=by
 have hM:maxEl=1073741824:=rfl
 have hs:=g.sum h
 have hl:=g.len
 have hh:=g.hl
 have hd':=h.len
 have key: ∀n,n<l.length->((tbs db l).getD n zT)∈db/\ ((tbs db l).getD n zT).2.1.length=(l.getD n zA).2.length:=fun n hn=>by
  rw[Yo9 db hn];exact g.tabs h (Yaj hn)
 refine⟨⟨by unfold tbs;simp,by omega,fun n hn=> ?_,fun n hn=> ?_,fun n hn row hr=> ?_⟩,by omega,by omega,by omega,fun n hn=>h.rs _ (key n hn).1,fun n hn row hr v hv=>h.gv _ (key n hn).1 row hr v hv⟩
 ·have:=Yda hn;omega
 ·have:=h.rs _ (key n hn).1;omega
 ·rw[(h.gt _ (key n hn).1).len row hr,(key n hn).2]
theorem GQ.qI{db:List Tabl}{hd:List ByteArray}{l:List Atom}(h:DOk db)(g:GQ db hd l):qI db hd l=0:=by
 unfold G47.qI
 have hl:=g.len
 have hn:=g.ne
 rw[h.valid,decide_eq_true rfl,decide_eq_false (by omega),decide_eq_false (by omega)]
 rw[YeR _ _ (fun m _ hm=> ?_)]
 ·have:YEN hd l=true:=by
   unfold YEN
   rw[Bool.not_eq_true',<-Bool.not_eq_true,Ycc]
   rintro⟨m,_,h2,h3⟩
   have hm:m<hd.length:=by omega
   unfold fHd at h3
   rw[inL_iff.2 (g.hv _ (Yaj hm)),Bool.true_and,Bool.not_not,inL_iff]at h3
   exact Yhx g.nd hm h3
  simp_all
 ·have hm':m<l.length:=by omega
  have hmem:=Yaj (d:=zA) hm'
  obtain⟨t1,t2⟩:=g.tabs h hmem
  unfold fQ
  rw[decide_eq_true ((g.rok h).ix _ hmem),decide_eq_true (by rw[t2])]
  have:badT (l.getD m zA).2=false:=by
   unfold badT
   rw[Yho (fun t=> !YDF t) _ zM,List.any_eq_false]
   intro t ht
   rw[g.tm _ hmem t ht];simp
  simp_all
theorem GQ.few{db:List Tabl}{hd:List ByteArray}{l:List Atom}(h:DOk db)(g:GQ db hd l):(YEl db l).length<=216:=
 YIv (g.qok h).len (Nat.pow_le_pow_right (by omega) g.len)
theorem rng8{n:Int}(h:(Ty.i .u8).rng n):0<=n/\n<=255:=by
 have h':(Lit.int .u8 n).wf=true:=h
 simp only[Lit.wf,YIK,decide_eq_true_eq]at h'
 trivial
theorem YCJ{d:List (Int×Int×List (List Int))}(h:(Ty.l (cs [.i .u8,.i .u8,.l (cs [.l (cs [.i .u8])])])).rng d): ∀x∈d,0<=x.1/\x.1<=255/\0<=x.2.1:=fun x hx=>by
 have h1:(cs [.i .u8,.i .u8,.l (cs [.l (cs [.i .u8])])]).rng x:=h x hx
 exact⟨(rng8 h1.1).1,(rng8 h1.1).2,(rng8 h1.2.1).1⟩
theorem Ype{l:List Int}(h:(Ty.l (cs [.i .u8])).rng l): ∀c∈l,0<=c:=fun c hc=>by
 have h1:(cs [.i .u8]).rng c:=h c hc
 exact(rng8 h1.1).1
theorem YCK{l:List (Int×List Int)}(h:(Ty.l (cs [.i .u8,.l (cs [.i .u8])])).rng l): ∀x∈l,0<=x.1/\x.1<=255/\ ∀c∈x.2,0<=c:=fun x hx=>by
 have h1:(cs [.i .u8,.l (cs [.i .u8])]).rng x:=h x hx
 exact⟨(rng8 h1.1).1,(rng8 h1.1).2,Ype h1.2.1⟩
end
end Go.Abs.G47
namespace Go.Abs.G47
open Go Go.Abs
noncomputable section
theorem YhA: ∀{L:List (List Term×Rws)} {σ:Asg Val} {r:List Int} {w:Way},w∈wyM L σ r->leA σ w.2/\ ∀q∈L,∃row∈q.2,Img w.2 (pV q.1) row.2
 | [],σ,r,w,hw=>by rw[wyM,YIp]at hw;subst hw;exact⟨leA.refl _,fun q h=>nomatch h⟩
 |q::L,σ,r,w,hw=>by
  rw[wyM,List.mem_flatMap]at hw
  obtain⟨row,hr,hw⟩:=hw
  cases hx:tsM σ (pV q.1) row.2 with
  |none=>simp_all
  |some σ'=>
   rw[hx]at hw
   obtain⟨a1,a2⟩:=Yhr hx
   obtain⟨b1,b2⟩:=YhA hw
   refine⟨a1.trans b1,fun p hp=> ?_⟩
   rcases YH1.1 hp with rfl|hp
   ·exact⟨row,hr,a2.mono b1⟩
   simp_all
theorem Ypf(db:List Tabl): ∀l:List Atom,PR l (tbs db l)=l.map fun a=>(a.2,(tabO db a.1).2.2)
 | []=>rfl
 |a::l=>by
  have:=Ypf db l
  unfold PR tbs at this⊢
  simp_all
theorem Ypg{τ:Asg Val}: ∀{ts:List Term} {us:Vals},Img τ (pV ts) us-> ∀t∈ts,t.1≠nul0-> ∃u,τ t.1=some u
 | [],_,_,t,ht,_=>nomatch ht
 |_::_,[],h,_,_,_=>h.elim
 |q::ts,u::us,h,t,ht,h0=>by
  rcases YH1.1 ht with rfl|ht
  ·have:=h.1;simp_all
  ·exact Ypg h.2 t ht h0
theorem YCL{db:List Tabl}{l:List Atom}{w:Way}(hw:w∈YEl db l){v:ByteArray}(hv:v∈YDn [] l): ∃u,w.2 v=some u:=by
 rcases(Yhn l [] v).1 hv with h| ⟨h0,a,ha,t,ht,rfl⟩
 ·cases h
 ·obtain⟨_,h2⟩:=YhA hw
  rw[Ypf]at h2
  obtain⟨row,_,hi⟩:=h2 _ (List.mem_map_of_mem ha)
  exact Ypg hi t ht h0
theorem YCM{α:Type}{a b:List α}(hl:a.length=b.length)(d:α)(h: ∀n,n<a.length->a.getD n d=b.getD n d):a=b:=YoM (d:=d) hl h
end
end Go.Abs.G47
namespace Go.Abs.G47
open Go Go.Abs
noncomputable section
abbrev Ev1:=List (List Int)
abbrev YGe:=Int×List ByteArray×List Atom×List Tabl×Int×Ent Val×Bool×Bool×List Int×List (List Int)->Option (Bool×List ByteArray×List Atom×List Tabl×Int×Ent Val×Bool×Bool×List Int×List (List Int))
theorem YCN(ts:List Term)(us:Vals)(r0:Int)(hd:List ByteArray)(l0:List Atom)(tb:List Tabl)(m2 m3:Bool)(rs:List Int)(e:Ev1)(h:us.length=ts.length)(hm:ts.length<=maxEl): ∀(k n:Nat),n+k=ts.length-> ∀(clk:Int) (l:Ent Val) (fr:List ByteArray),fr.length+k<=maxEl->
  YgI loO (ts,(ts.length:Int),(n:Int),hd,l0,tb,clk,l,m2,m3,rs,e,r0,us,fr)=some (let r:=fitG ((pV ts).drop n) (us.drop n) clk l fr
   bif r.1 then .inr (hd,l0,tb,r.2.1,r.2.2.1,m2,m3,rs,e,r.2.2.2)else .inl (false,hd,l0,tb,r.2.1,r.2.2.1,m2,m3,rs,e,r.2.2.2)):=by
 have hM:maxEl=1073741824:=rfl
 intro k
 induction k with
 |zero=>
  intro n hn clk l fr hf
  show YC8 _ _=_
  rw[Yan]
  have e:n=ts.length:=by omega
  subst e
  simp only[YcX,nlI,cond_false]
  rw[YIh (by unfold pV;rw[YIa];omega)]
  rfl
 |succ k ih=>
  intro n hn clk l fr hf
  have hlt:n<ts.length:=by omega
  show YC8 _ _=_
  have e1:(pV ts).drop n=((ts.getD n zM).1,(ts.getD n zM).2)::(pV ts).drop (n+1):=by
   unfold pV
   rw[YaM (d:=(zM.1,zM.2)) (by rw[YIa];omega)]
   congr 1
   rw[List.getD_eq_getElem?_getD,List.getD_eq_getElem?_getD,YHW,YHV hlt];rfl
  rw[e1,YaM (l:=us) (d:=zV) (by omega)]
  have key: ∀(t:Term) (u:Val),ts.getD n zM=t->us.getD n zV=u->YC8 (YcX loO) (ts,(ts.length:Int),(n:Int),hd,l0,tb,clk,l,m2,m3,rs,e,r0,us,fr)=some (let r:=fitG ((t.1,t.2)::(pV ts).drop (n+1)) (u::us.drop (n+1)) clk l fr
   bif r.1 then .inr (hd,l0,tb,r.2.1,r.2.2.1,m2,m3,rs,e,r.2.2.2)else .inl (false,hd,l0,tb,r.2.1,r.2.2.1,m2,m3,rs,e,r.2.2.2)):=by
   intro t u ht hu'
   rw[Yan]
   simp only[YcX,ltI hlt,cond_true,YIP,Yeo,fitG,ht,hu']
   rw[chkT _ (by omega)]
   by_cases h0:t.1=nul0
   ·rw[if_pos h0]
    simp only[h0,decide_true,YIL,cond_false,YCY]
    rw[chkT _ (by omega),eqV t.2 u]
    by_cases hu:t.2=u
    ·rw[if_pos hu]
     simp only[hu,decide_true,YIL,cond_false,YCY,alt2,inc hlt hm]
     exact ih (n+1) (by omega) clk l fr (by omega)
    ·rw[if_neg hu]
     simp only[hu,decide_false,YIM,cond_true,YCY,alt2]
     rfl
   ·rw[if_neg h0]
    have e0:decide (t.1=nul0)=false:=decide_eq_false h0
    simp only[e0,YIM,cond_true]
    unfold mhs mgt
    cases hf:mfd eqS t.1 l with
    |none=>
     simp only[YIM,cond_true]
     rw[chkT _ (by omega),chkT _ (by rw[List.length_singleton];omega),YCY]
     simp only[alt2,inc hlt hm]
     exact ih (n+1) (by omega) _ _ _ (by rw[List.length_append,List.length_singleton];omega)
    |some w=>
     simp only[YIL,cond_false]
     rw[chkT _ (by omega),eqV w u]
     by_cases hu:w=u
     ·rw[if_pos hu]
      simp only[hu,decide_true,YIL,cond_false,YCY,alt2,inc hlt hm]
      exact ih (n+1) (by omega) clk l fr (by omega)
     ·rw[if_neg hu]
      simp only[hu,decide_false,YIM,cond_true,YCY,alt2]
      rfl
  exact key _ _ rfl rfl
theorem YHK(a0:ByteArray)(ts:List Term)(us:Vals)(r0:Int)(hd:List ByteArray)(l0:List Atom)(tb:List Tabl)(m2 m3:Bool)(rs:List Int)(e:Ev1)(clk:Int)(l:Ent Val)(h:us.length=ts.length)(hm:ts.length<=maxEl):
  q71 loO a0 ts r0 us hd l0 tb clk l m2 m3 rs e=some ((fitG (pV ts) us clk l []).1,hd,l0,tb,(fitG (pV ts) us clk l []).2.1,(fitG (pV ts) us clk l []).2.2.1,m2,m3,rs,e,(fitG (pV ts) us clk l []).2.2.2):=by
 unfold q71
 have:=YCN ts us r0 hd l0 tb m2 m3 rs e h hm ts.length 0 (by omega) clk l [] (by simp;omega)
 rw[YH6,YH6,show((0:Nat):Int)=0 from rfl]at this
 rw[this,YCY]
 generalize fitG (pV ts) us clk l []=r
 obtain⟨_|_,r⟩:=r<;>rfl
theorem YFC(rec:YGe)(i n m:Int)(on:Bool)(R:Rws)(fr:List ByteArray)(hd:List ByteArray)(l0:List Atom)(tb:List Tabl)(clk:Int)(l:Ent Val)(m2 m3:Bool)(rs:List Int)(e:Ev1)(h:fr.length<=maxEl):
  Yeq loO rec (i,on,R,n,m,(fr.length:Int),0,hd,l0,tb,clk,l,m2,m3,fr,rs,e)=some (i,on,R,n,m,hd,l0,tb,clk,delG l fr,m2,m3,rs,e):=by
 refine Yav (st:=fun j=>(i,on,R,n,m,(fr.length:Int),(j:Int),hd,l0,tb,clk,delG l (fr.take j),m2,m3,fr,rs,e)) (N:=fr.length) rfl ?_ (fun j hj=> ?_)
 ·simp only[Yep,nlI,cond_false,YH8]
 ·simp only[Yep,ltI hj,cond_true,inc hj h,YIP]
  rw[chkT _ (by omega)]
  have e:delG l (fr.take (j+1))=mdl eqS (fr.getD j nul0) (delG l (fr.take j)):=Yc9 (fun l k=>mdl eqS k l) l (d:=nul0) hj
  rw[e]
section
variable{see:Way->Ev1->Bool×Ev1}{I:Ev1->Prop}{J:Asg Val->Prop}{hd:List ByteArray}{l0:List Atom}{tb:List Tabl}{m2 m3:Bool}
theorem YCO(hI: ∀w e,I e->(see w e).1=true->I (see w e).2)(ok:TbOk l0 tb)(hJ: ∀i,i<l0.length-> ∀row∈ (tb.getD i zT).2.2,∀σ σ',J σ->tsM σ (pV (l0.getD i zA).2) row.2=some σ'->J σ')(rec:YGe){i:Nat}(hi:i<l0.length)(rs:List Int)(hr:rs.length=i)
  (hrec: ∀clk (l:Ent Val) id e,KN l->J (lk l)->I e-> ∃clk' l',rec (((i+1:Nat):Int),hd,l0,tb,clk,l,m2,m3,rs++[id],e)=some ((visit see (wyM ((PR l0 tb).drop (i+1)) (lk l) (rs++[id])) e).1,hd,l0,tb,clk',l',m2,m3,rs++[id],(visit see (wyM ((PR l0 tb).drop (i+1)) (lk l) (rs++[id])) e).2)/\KN l'/\lk l'=lk l) (σ:Asg Val) (hσ:J σ):
  ∀(k n:Nat),n+k=(tb.getD i zT).2.2.length-> ∀clk (l:Ent Val) e,KN l->lk l=σ->I e-> ∃clk' l',KN l'/\lk l'=σ/\YcY loO rec ((i:Int),(tb.getD i zT).2.2,((tb.getD i zT).2.2.length:Int),(n:Int),hd,l0,tb,clk,l,m2,m3,rs,e)=some (
   match visit see (((tb.getD i zT).2.2.drop n).flatMap fun row=>match tsM σ (pV (l0.getD i zA).2) row.2 with|some σ'=>wyM ((PR l0 tb).drop (i+1)) σ' (rs++[row.1])|none=>[]) e with
   | (true,e)=>.inr (hd,l0,tb,clk',l',m2,m3,rs,e)
   | (false,e)=>.inl (false,hd,l0,tb,clk',l',m2,m3,rs,e)):=by
 have hM:maxEl=1073741824:=rfl
 have hT:=ok.tl i hi
 have hR:=ok.rl i hi
 have hA:=ok.ar i hi
 have hJi:=hJ i hi
 have hS:=ok.sm
 generalize(tb.getD i zT).2.2=R at*
 intro k
 induction k with
 |zero=>
  intro n hn clk l e hk hl he
  refine⟨clk,l,hk,hl,?_⟩
  have en:n=R.length:=by omega
  subst en
  rw[YIh (YIr _)]
  show YC8 _ _=_
  rw[Yan]
  simp only[YbL,nlI,cond_false]
  rfl
 |succ k ih=>
  intro n hn clk l e hk hl he
  have hlt:n<R.length:=by omega
  rw[YaM (d:=zR) hlt,List.flatMap_cons,Ye0]
  have hrow:=hA _ (Yaj (d:=zR) hlt)
  have hJr:=hJi _ (Yaj (d:=zR) hlt)
  generalize hq:R.getD n zR=row at*
  have hF:=fit0 (ps:=pV (l0.getD i zA).2) (us:=row.2) clk hk
  rw[hl]at hF
  have hfl:(fitG (pV (l0.getD i zA).2) row.2 clk l []).2.2.2.length<=maxEl:=by
   have:=hF.len;unfold pV at this;rw[YIa]at this;exact YIv this hT
  have hf:=YHK (l0.getD i zA).1 (l0.getD i zA).2 row.2 row.1 hd l0 tb m2 m3 rs e clk l hrow hT
  have step: ∀s',YbL loO rec ((i:Int),R,(R.length:Int),(n:Int),hd,l0,tb,clk,l,m2,m3,rs,e)=s'->YcY loO rec ((i:Int),R,(R.length:Int),(n:Int),hd,l0,tb,clk,l,m2,m3,rs,e)=(match s' with|some (.inl s)=>YcY loO rec s|some (.inr x)=>some x|none=>none):=by
   intro s' hs;subst hs
   show YC8 _ _=_
   rw[Yan]
   rcases YbL loO rec ((i:Int),R,(R.length:Int),(n:Int),hd,l0,tb,clk,l,m2,m3,rs,e)with _| (_|_)<;>rfl
  have nx:YIV .i64 ((n:Int)+1)=((n+1:Nat):Int):=inc hlt hR
  have ix:YIV .i64 ((i:Int)+1)=((i+1:Nat):Int):=inc hi (by omega)
  have tk: ∀id:Int,(rs++[id]).take i=rs:=fun id=>by rw[<-hr];simp
  simp only[YbL,ltI hlt,cond_true,YIP,hq]at step
  rw[chkT _ (by omega),chkT _ (by omega),hf,YCY]at step
  dsimp only at step
  rw[chkT _ rfl,chkT _ rfl,chkT _ rfl,chkT _ (by rw[List.length_singleton];omega),hF.ok]at step
  cases hx:tsM σ (pV (l0.getD i zA).2) row.2 with
  |none=>
   rw[hx]at step
   simp only[Option.isSome_none,YIM,cond_true]at step
   rw[chkT _ (by simp;omega),tk,YFC _ _ _ _ _ _ _ _ _ _ _ _ _ _ _ e hfl,YCY]at step
   simp only[YIL,cond_false,nx]at step
   obtain⟨d1,d2⟩:=Ycd hF.kn hF.new hF.old
   obtain⟨clk',l',k1,k2,k3⟩:=ih (n+1) (by omega) (fitG (pV (l0.getD i zA).2) row.2 clk l []).2.1 _ e d1 d2 he
   refine⟨clk',l',k1,k2,?_⟩
   rw[step _ rfl]
   exact k3
  |some σ1=>
   rw[hx]at step
   simp only[Option.isSome_some,YIL,cond_false,ix]at step
   obtain⟨c2,l2,r1,r2,r3⟩:=hrec (fitG (pV (l0.getD i zA).2) row.2 clk l []).2.1 _ row.1 e hF.kn (by rw[hF.val σ1 hx];exact hJr σ σ1 hσ hx) he
   rw[r1,YCY,hF.val σ1 hx]at step
   rw[hF.val σ1 hx]at r3
   dsimp only at step
   obtain⟨d1,d2⟩:=Ycd (σ0:=σ) r2 hF.new (by rw[r3,<-hF.val σ1 hx];exact hF.old)
   have hv:=Ye1 (see:=see) hI (ws:=wyM ((PR l0 tb).drop (i+1)) σ1 (rs++[row.1])) he
   rcases hvv:visit see (wyM ((PR l0 tb).drop (i+1)) σ1 (rs++[row.1])) e with⟨_|_,e'⟩
   ·rw[hvv]at step
    rw[chkT _ rfl,chkT _ (by simp;omega),tk,YFC _ _ _ _ _ _ _ _ _ _ _ _ _ _ _ e' hfl,YCY]at step
    simp only[YIM,cond_true]at step
    exact⟨c2,_,d1,d2,by rw[step _ rfl]⟩
   ·rw[hvv]at step hv
    rw[chkT _ rfl,chkT _ (by simp;omega),tk,YFC _ _ _ _ _ _ _ _ _ _ _ _ _ _ _ e' hfl,YCY]at step
    simp only[YIL,cond_false,nx]at step
    obtain⟨clk',l',k1,k2,k3⟩:=ih (n+1) (by omega) c2 _ e' d1 d2 (hv rfl)
    refine⟨clk',l',k1,k2,?_⟩
    rw[step _ rfl]
    exact k3
theorem YCP(hI: ∀w e,I e->(see w e).1=true->I (see w e).2)(ok:TbOk l0 tb)(hJ: ∀i,i<l0.length-> ∀row∈ (tb.getD i zT).2.2,∀σ σ',J σ->tsM σ (pV (l0.getD i zA).2) row.2=some σ'->J σ')
  (hsee: ∀(clk:Int) (l:Ent Val) (rs:List Int) (e:Ev1),rs.length<=6->KN l->J (lk l)->I e->q70 loO e hd l0 tb clk l m2 m3 rs=some ((see (rs,lk l) e).1,hd,l0,tb,clk,l,m2,m3,rs,(see (rs,lk l) e).2)) (j:Nat):
  ∀(k i:Nat),i+k=l0.length-> ∀clk (l:Ent Val) rs e,rs.length=i->KN l->J (lk l)->I e-> ∃clk' l',YaQ loO (k+1+j) ((i:Int),hd,l0,tb,clk,l,m2,m3,rs,e)=some ((visit see (wyM ((PR l0 tb).drop i) (lk l) rs) e).1,hd,l0,tb,clk',l',m2,m3,rs,(visit see (wyM ((PR l0 tb).drop i) (lk l) rs) e).2)/\KN l'/\lk l'=lk l:=by
 intro k
 have hS:=ok.sm
 induction k with
 |zero=>
  intro i hi clk l rs e hr hk hj he
  have en:i=l0.length:=by omega
  subst en
  refine⟨clk,l,?_,hk,rfl⟩
  rw[show 0+1+j=j+1 by omega]
  show Ybm loO (YaQ loO j) _ _ _ _ _ _ _ _ _ _=_
  unfold Ybm
  rw[Go.Abs.cT _ _ rfl]
  rw[hsee clk l rs e (by omega) hk hj he,YCY,Yht ok.len]
  dsimp only
  rw[chkT _ rfl,chkT _ rfl]
  simp only[wyM,visit]
  rcases see (rs,lk l) e with⟨_|_,e'⟩<;>rfl
 |succ k ih=>
  intro i hi clk l rs e hr hk hj he
  have hlt:i<l0.length:=by omega
  rw[show k+1+1+j=(k+1+j)+1 by omega]
  show∃clk' l',Ybm loO (YaQ loO (k+1+j)) _ _ _ _ _ _ _ _ _ _=_/\_
  unfold Ybm
  have e0:decide ((i:Int)=(l0.length:Int))=false:=by simp;omega
  have hl:=ok.len
  simp only[e0,cond_false,YIP]
  rw[chkT _ (by omega)]
  obtain⟨clk',l',k1,k2,k3⟩:=YCO hI ok hJ (YaQ loO (k+1+j)) hlt rs hr (fun clk l id e hk hj he=>ih (i+1) (by omega) clk l (rs++[id]) e (by simp;omega) hk hj he) (lk l) hj (tb.getD i zT).2.2.length 0 (by omega) clk l e hk rfl he
  rw[show((0:Nat):Int)=0 from rfl,YH6]at k3
  refine⟨clk',l',?_,k1,k2⟩
  rw[k3,YCY,Yhs hl hlt]
  simp only[wyM]
  generalize visit see ((tb.getD i zT).2.2.flatMap fun row=>match tsM (lk l) (pV (l0.getD i zA).2) row.2 with|some σ'=>wyM ((PR l0 tb).drop (i+1)) σ' (rs++[row.1])|none=>[]) e=q
  obtain⟨_|_,e'⟩:=q<;>rfl
theorem Yph: ∀n x y,YaQ loO n x=some y->YaQ loO (n+1) x=some y
 |0,_,_,h=>by cases h
 |n+1,x,y,h=>by
  have ih:=Yph n
  have h':Ybm loO (YaQ loO n) x.1 x.2.1 x.2.2.1 x.2.2.2.1 x.2.2.2.2.1 x.2.2.2.2.2.1 x.2.2.2.2.2.2.1 x.2.2.2.2.2.2.2.1 x.2.2.2.2.2.2.2.2.1 x.2.2.2.2.2.2.2.2.2=some y:=h
  show Ybm loO (YaQ loO (n+1)) x.1 x.2.1 x.2.2.1 x.2.2.2.1 x.2.2.2.2.1 x.2.2.2.2.2.1 x.2.2.2.2.2.2.1 x.2.2.2.2.2.2.2.1 x.2.2.2.2.2.2.2.2.1 x.2.2.2.2.2.2.2.2.2=some y
  unfold Ybm at h'⊢
  refine YD2 h' (fun h=>h) fun h=>chkm h fun h=>YEE h (fun z hz=> ?_) fun _ h=>h
  refine YeZ (fun s q hs=> ?_) hz
  simp only[YbL]at hs⊢
  exact YD2 hs (fun h=>chkm h fun h=>chkm h fun h=>YE1 h fun _ h=>chkm h fun h=>chkm h fun h=>chkm h fun h=>chkm h fun h=>YD2 h (fun h=>h) fun h=>YEE h (ih _) fun _ h=>h) fun h=>h
theorem YHL(hI: ∀w e,I e->(see w e).1=true->I (see w e).2)(ok:TbOk l0 tb)(hJ: ∀i,i<l0.length-> ∀row∈ (tb.getD i zT).2.2,∀σ σ',J σ->tsM σ (pV (l0.getD i zA).2) row.2=some σ'->J σ')
  (hsee: ∀(clk:Int) (l:Ent Val) (rs:List Int) (e:Ev1),rs.length<=6->KN l->J (lk l)->I e->q70 loO e hd l0 tb clk l m2 m3 rs=some ((see (rs,lk l) e).1,hd,l0,tb,clk,l,m2,m3,rs,(see (rs,lk l) e).2)) (clk:Int) (l:Ent Val) (e:Ev1) (hk:KN l) (hj:J (lk l)) (he:I e):
  ∃clk' l',q72 loO 0 hd l0 tb clk l m2 m3 [] e=some ((visit see (wyM (PR l0 tb) (lk l) []) e).1,hd,l0,tb,clk',l',m2,m3,[],(visit see (wyM (PR l0 tb) (lk l) []) e).2):=by
 obtain⟨clk',l',h1,_⟩:=YCP hI ok hJ hsee 0 l0.length 0 (by omega) clk l [] e rfl hk hj he
 rw[YH6,show((0:Nat):Int)=0 from rfl]at h1
 exact⟨clk',l',YcP Yph (n:=0) (by rw[YIw];exact h1)⟩
end
end
end Go.Abs.G47
namespace Go.Abs.G47
open Go Go.Abs
noncomputable section
abbrev Ev2:=Unit
abbrev YGf:=Int×List ByteArray×List Atom×List Tabl×Int×Ent Val×Bool×Bool×List Int->Option (Bool×List ByteArray×List Atom×List Tabl×Int×Ent Val×Bool×Bool×List Int)
theorem YCQ(ts:List Term)(us:Vals)(r0:Int)(hd:List ByteArray)(l0:List Atom)(tb:List Tabl)(m2 m3:Bool)(rs:List Int)(e:Ev2)(h:us.length=ts.length)(hm:ts.length<=maxEl): ∀(k n:Nat),n+k=ts.length-> ∀(clk:Int) (l:Ent Val) (fr:List ByteArray),fr.length+k<=maxEl->
  Yhd loO (ts,(ts.length:Int),(n:Int),hd,l0,tb,clk,l,m2,m3,rs,r0,us,fr)=some (let r:=fitG ((pV ts).drop n) (us.drop n) clk l fr
   bif r.1 then .inr (hd,l0,tb,r.2.1,r.2.2.1,m2,m3,rs,r.2.2.2)else .inl (false,hd,l0,tb,r.2.1,r.2.2.1,m2,m3,rs,r.2.2.2)):=by
 have hM:maxEl=1073741824:=rfl
 intro k
 induction k with
 |zero=>
  intro n hn clk l fr hf
  show YC8 _ _=_
  rw[Yan]
  have e:n=ts.length:=by omega
  subst e
  simp only[Yc7,nlI,cond_false]
  rw[YIh (by unfold pV;simp)]
  rfl
 |succ k ih=>
  intro n hn clk l fr hf
  have hlt:n<ts.length:=by omega
  show YC8 _ _=_
  have e1:(pV ts).drop n=((ts.getD n zM).1,(ts.getD n zM).2)::(pV ts).drop (n+1):=by
   unfold pV
   rw[YaM (d:=(zM.1,zM.2)) (by simp_all)]
   simp
  rw[e1,YaM (l:=us) (d:=zV) (by omega)]
  have key: ∀(t:Term) (u:Val),ts.getD n zM=t->us.getD n zV=u->YC8 (Yc7 loO) (ts,(ts.length:Int),(n:Int),hd,l0,tb,clk,l,m2,m3,rs,r0,us,fr)=some (let r:=fitG ((t.1,t.2)::(pV ts).drop (n+1)) (u::us.drop (n+1)) clk l fr
   bif r.1 then .inr (hd,l0,tb,r.2.1,r.2.2.1,m2,m3,rs,r.2.2.2)else .inl (false,hd,l0,tb,r.2.1,r.2.2.1,m2,m3,rs,r.2.2.2)):=by
   intro t u ht hu'
   rw[Yan]
   simp only[Yc7,ltI hlt,cond_true,YIP,YeN,fitG,ht,hu']
   rw[chkT _ (by omega)]
   by_cases h0:t.1=nul0
   ·rw[if_pos h0]
    simp only[h0,decide_true,YIL,cond_false]
    rw[chkT _ (by omega),eqV t.2 u]
    by_cases hu:t.2=u
    ·rw[if_pos hu]
     simp only[hu,decide_true,YIL,cond_false,YCY,alt2,inc hlt hm]
     exact ih (n+1) (by omega) clk l fr (by omega)
    ·rw[if_neg hu]
     simp only[hu,decide_false,YIM,cond_true,YCY,alt2]
     rfl
   ·rw[if_neg h0]
    have e0:decide (t.1=nul0)=false:=decide_eq_false h0
    simp only[e0,YIM,cond_true]
    unfold mhs mgt
    cases hf:mfd eqS t.1 l with
    |none=>
     simp
     rw[chkT _ (by omega),chkT _ (by grind),YCY]
     simp only[alt2,inc hlt hm]
     exact ih (n+1) (by omega) _ _ _ (by grind)
    |some w=>
     simp only[YIL,cond_false]
     rw[chkT _ (by omega),eqV w u]
     by_cases hu:w=u
     ·rw[if_pos hu]
      simp only[hu,decide_true,YIL,cond_false,YCY,alt2,inc hlt hm]
      exact ih (n+1) (by omega) clk l fr (by omega)
     ·rw[if_neg hu]
      simp only[hu,decide_false,YIM,cond_true,YCY,alt2]
      rfl
  simp_all
theorem YHM(a0:ByteArray)(ts:List Term)(us:Vals)(r0:Int)(hd:List ByteArray)(l0:List Atom)(tb:List Tabl)(m2 m3:Bool)(rs:List Int)(e:Ev2)(clk:Int)(l:Ent Val)(h:us.length=ts.length)(hm:ts.length<=maxEl):
  q169 loO a0 ts r0 us hd l0 tb clk l m2 m3 rs=some ((fitG (pV ts) us clk l []).1,hd,l0,tb,(fitG (pV ts) us clk l []).2.1,(fitG (pV ts) us clk l []).2.2.1,m2,m3,rs,(fitG (pV ts) us clk l []).2.2.2):=by
 unfold q169
 have:=YCQ ts us r0 hd l0 tb m2 m3 rs e h hm ts.length 0 (by omega) clk l [] (by simp_all)
 rw[YH6,YH6,show((0:Nat):Int)=0 from rfl]at this
 rw[this,YCY]
 generalize fitG (pV ts) us clk l []=r
 obtain⟨_|_,r⟩:=r<;>rfl
theorem YFD(rec:YGf)(i n m:Int)(on:Bool)(R:Rws)(fr:List ByteArray)(hd:List ByteArray)(l0:List Atom)(tb:List Tabl)(clk:Int)(l:Ent Val)(m2 m3:Bool)(rs:List Int)(e:Ev2)(h:fr.length<=maxEl):
  YeP loO rec (i,on,R,n,m,(fr.length:Int),0,hd,l0,tb,clk,l,m2,m3,fr,rs)=some (i,on,R,n,m,hd,l0,tb,clk,delG l fr,m2,m3,rs):=by
 refine Yav (st:=fun j=>(i,on,R,n,m,(fr.length:Int),(j:Int),hd,l0,tb,clk,delG l (fr.take j),m2,m3,fr,rs)) (N:=fr.length) rfl ?_ (fun j hj=> ?_)
 ·simp only[YeO,nlI,cond_false,YH8]
 ·simp only[YeO,ltI hj,cond_true,inc hj h,YIP]
  rw[chkT _ (by omega)]
  have e:delG l (fr.take (j+1))=mdl eqS (fr.getD j nul0) (delG l (fr.take j)):=Yc9 (fun l k=>mdl eqS k l) l (d:=nul0) hj
  rw[e]
section
variable{see:Way->Ev2->Bool×Ev2}{I:Ev2->Prop}{J:Asg Val->Prop}{hd:List ByteArray}{l0:List Atom}{tb:List Tabl}{m2 m3:Bool}
theorem YCR(hI: ∀w e,I e->(see w e).1=true->I (see w e).2)(ok:TbOk l0 tb)(hJ: ∀i,i<l0.length-> ∀row∈ (tb.getD i zT).2.2,∀σ σ',J σ->tsM σ (pV (l0.getD i zA).2) row.2=some σ'->J σ')(rec:YGf){i:Nat}(hi:i<l0.length)(rs:List Int)(hr:rs.length=i)
  (hrec: ∀clk (l:Ent Val) id e,KN l->J (lk l)->I e-> ∃clk' l',rec (((i+1:Nat):Int),hd,l0,tb,clk,l,m2,m3,rs++[id])=some ((visit see (wyM ((PR l0 tb).drop (i+1)) (lk l) (rs++[id])) e).1,hd,l0,tb,clk',l',m2,m3,rs++[id])/\KN l'/\lk l'=lk l) (σ:Asg Val) (hσ:J σ):
  ∀(k n:Nat),n+k=(tb.getD i zT).2.2.length-> ∀clk (l:Ent Val) e,KN l->lk l=σ->I e-> ∃clk' l',KN l'/\lk l'=σ/\Yc8 loO rec ((i:Int),(tb.getD i zT).2.2,((tb.getD i zT).2.2.length:Int),(n:Int),hd,l0,tb,clk,l,m2,m3,rs)=some (
   match visit see (((tb.getD i zT).2.2.drop n).flatMap fun row=>match tsM σ (pV (l0.getD i zA).2) row.2 with|some σ'=>wyM ((PR l0 tb).drop (i+1)) σ' (rs++[row.1])|none=>[]) e with
   | (true,e)=>.inr (hd,l0,tb,clk',l',m2,m3,rs)
   | (false,e)=>.inl (false,hd,l0,tb,clk',l',m2,m3,rs)):=by
 have hM:maxEl=1073741824:=rfl
 have hT:=ok.tl i hi
 have hR:=ok.rl i hi
 have hA:=ok.ar i hi
 have hJi:=hJ i hi
 have hS:=ok.sm
 generalize(tb.getD i zT).2.2=R at*
 intro k
 induction k with
 |zero=>
  intro n hn clk l e hk hl he
  refine⟨clk,l,hk,hl,?_⟩
  have en:n=R.length:=by omega
  subst en
  rw[YIh (YIr _)]
  show YC8 _ _=_
  rw[Yan]
  simp only[Yb9,nlI,cond_false]
  rfl
 |succ k ih=>
  intro n hn clk l e hk hl he
  have hlt:n<R.length:=by omega
  rw[YaM (d:=zR) hlt,List.flatMap_cons,Ye0]
  have hrow:=hA _ (Yaj (d:=zR) hlt)
  have hJr:=hJi _ (Yaj (d:=zR) hlt)
  generalize hq:R.getD n zR=row at*
  have hF:=fit0 (ps:=pV (l0.getD i zA).2) (us:=row.2) clk hk
  rw[hl]at hF
  have hfl:(fitG (pV (l0.getD i zA).2) row.2 clk l []).2.2.2.length<=maxEl:=by
   have:=hF.len;unfold pV at this;rw[YIa]at this;exact YIv this hT
  have hf:=YHM (l0.getD i zA).1 (l0.getD i zA).2 row.2 row.1 hd l0 tb m2 m3 rs e clk l hrow hT
  have step: ∀s',Yb9 loO rec ((i:Int),R,(R.length:Int),(n:Int),hd,l0,tb,clk,l,m2,m3,rs)=s'->Yc8 loO rec ((i:Int),R,(R.length:Int),(n:Int),hd,l0,tb,clk,l,m2,m3,rs)=(match s' with|some (.inl s)=>Yc8 loO rec s|some (.inr x)=>some x|none=>none):=by
   intro s' hs;subst hs
   show YC8 _ _=_
   rw[Yan]
   rcases Yb9 loO rec ((i:Int),R,(R.length:Int),(n:Int),hd,l0,tb,clk,l,m2,m3,rs)with _| (_|_)<;>rfl
  have nx:YIV .i64 ((n:Int)+1)=((n+1:Nat):Int):=inc hlt hR
  have ix:YIV .i64 ((i:Int)+1)=((i+1:Nat):Int):=inc hi (by omega)
  have tk: ∀id:Int,(rs++[id]).take i=rs:=fun id=>by simp_all
  simp only[Yb9,ltI hlt,cond_true,YIP,hq]at step
  rw[chkT _ (by omega),chkT _ (by omega),hf,YCY]at step
  dsimp only at step
  rw[chkT _ rfl,chkT _ rfl,chkT _ (by grind),hF.ok]at step
  cases hx:tsM σ (pV (l0.getD i zA).2) row.2 with
  |none=>
   rw[hx]at step
   simp only[Option.isSome_none,YIM,cond_true]at step
   rw[chkT _ (by grind),tk,YFD _ _ _ _ _ _ _ _ _ _ _ _ _ _ _ e hfl,YCY]at step
   simp only[YIL,cond_false,nx]at step
   obtain⟨d1,d2⟩:=Ycd hF.kn hF.new hF.old
   obtain⟨clk',l',k1,k2,k3⟩:=ih (n+1) (by omega) (fitG (pV (l0.getD i zA).2) row.2 clk l []).2.1 _ e d1 d2 he
   refine⟨clk',l',k1,k2,?_⟩
   rw[step _ rfl]
   exact k3
  |some σ1=>
   rw[hx]at step
   simp only[Option.isSome_some,YIL,cond_false,ix]at step
   obtain⟨c2,l2,r1,r2,r3⟩:=hrec (fitG (pV (l0.getD i zA).2) row.2 clk l []).2.1 _ row.1 e hF.kn (by rw[hF.val σ1 hx];grind) he
   rw[r1,YCY,hF.val σ1 hx]at step
   rw[hF.val σ1 hx]at r3
   dsimp only at step
   obtain⟨d1,d2⟩:=Ycd (σ0:=σ) r2 hF.new (by rw[r3,<-hF.val σ1 hx];exact hF.old)
   have hv:=Ye1 (see:=see) hI (ws:=wyM ((PR l0 tb).drop (i+1)) σ1 (rs++[row.1])) he
   rcases hvv:visit see (wyM ((PR l0 tb).drop (i+1)) σ1 (rs++[row.1])) e with⟨_|_,e'⟩
   ·rw[hvv]at step
    rw[chkT _ rfl,chkT _ (by grind),tk,YFD _ _ _ _ _ _ _ _ _ _ _ _ _ _ _ e' hfl,YCY]at step
    grind
   ·rw[hvv]at step hv
    rw[chkT _ rfl,chkT _ (by grind),tk,YFD _ _ _ _ _ _ _ _ _ _ _ _ _ _ _ e' hfl,YCY]at step
    simp only[YIL,cond_false,nx]at step
    obtain⟨clk',l',k1,k2,k3⟩:=ih (n+1) (by omega) c2 _ e' d1 d2 (hv rfl)
    refine⟨clk',l',k1,k2,?_⟩
    simp_all
theorem YCS(hI: ∀w e,I e->(see w e).1=true->I (see w e).2)(ok:TbOk l0 tb)(hJ: ∀i,i<l0.length-> ∀row∈ (tb.getD i zT).2.2,∀σ σ',J σ->tsM σ (pV (l0.getD i zA).2) row.2=some σ'->J σ')
  (hsee: ∀(clk:Int) (l:Ent Val) (rs:List Int) (e:Ev2),rs.length<=6->KN l->J (lk l)->I e->q168 loO=some ((see (rs,lk l) e).1)) (j:Nat):
  ∀(k i:Nat),i+k=l0.length-> ∀clk (l:Ent Val) rs e,rs.length=i->KN l->J (lk l)->I e-> ∃clk' l',Ya0 loO (k+1+j) ((i:Int),hd,l0,tb,clk,l,m2,m3,rs)=some ((visit see (wyM ((PR l0 tb).drop i) (lk l) rs) e).1,hd,l0,tb,clk',l',m2,m3,rs)/\KN l'/\lk l'=lk l:=by
 intro k
 have hS:=ok.sm
 induction k with
 |zero=>
  intro i hi clk l rs e hr hk hj he
  have en:i=l0.length:=by omega
  subst en
  refine⟨clk,l,?_,hk,rfl⟩
  rw[show 0+1+j=j+1 by omega]
  show Yca loO (Ya0 loO j) _ _ _ _ _ _ _ _ _=_
  unfold Yca
  rw[hsee clk l rs e (by omega) hk hj he,YCY,Yht ok.len]
  simp only[wyM,visit]
  grind
 |succ k ih=>
  intro i hi clk l rs e hr hk hj he
  have hlt:i<l0.length:=by omega
  rw[show k+1+1+j=(k+1+j)+1 by omega]
  show∃clk' l',Yca loO (Ya0 loO (k+1+j)) _ _ _ _ _ _ _ _ _=_/\_
  unfold Yca
  have e0:decide ((i:Int)=(l0.length:Int))=false:=by grind
  have hl:=ok.len
  simp only[e0,cond_false,YIP]
  rw[chkT _ (by omega)]
  obtain⟨clk',l',k1,k2,k3⟩:=YCR hI ok hJ (Ya0 loO (k+1+j)) hlt rs hr (fun clk l id e hk hj he=>ih (i+1) (by omega) clk l (rs++[id]) e (by simp_all) hk hj he) (lk l) hj (tb.getD i zT).2.2.length 0 (by omega) clk l e hk rfl he
  rw[show((0:Nat):Int)=0 from rfl,YH6]at k3
  refine⟨clk',l',?_,k1,k2⟩
  rw[k3,YCY,Yhs hl hlt]
  simp only[wyM]
  generalize visit see ((tb.getD i zT).2.2.flatMap fun row=>match tsM (lk l) (pV (l0.getD i zA).2) row.2 with|some σ'=>wyM ((PR l0 tb).drop (i+1)) σ' (rs++[row.1])|none=>[]) e=q
  obtain⟨_|_,e'⟩:=q<;>rfl
theorem Ypi: ∀n x y,Ya0 loO n x=some y->Ya0 loO (n+1) x=some y
 |0,_,_,h=>by cases h
 |n+1,x,y,h=>by
  have ih:=Ypi n
  have h':Yca loO (Ya0 loO n) x.1 x.2.1 x.2.2.1 x.2.2.2.1 x.2.2.2.2.1 x.2.2.2.2.2.1 x.2.2.2.2.2.2.1 x.2.2.2.2.2.2.2.1 x.2.2.2.2.2.2.2.2=some y:=h
  refine YD2 h' (fun h=>h) fun h=>chkm h fun h=>YEE h (fun z hz=> ?_) fun _ h=>h
  refine YeZ (fun s q hs=> ?_) hz
  exact YD2 hs (fun h=>chkm h fun h=>chkm h fun h=>YE1 h fun _ h=>chkm h fun h=>chkm h fun h=>chkm h fun h=>YD2 h (fun h=>h) fun h=>YEE h (ih _) fun _ h=>h) fun h=>h
theorem YHN(hI: ∀w e,I e->(see w e).1=true->I (see w e).2)(ok:TbOk l0 tb)(hJ: ∀i,i<l0.length-> ∀row∈ (tb.getD i zT).2.2,∀σ σ',J σ->tsM σ (pV (l0.getD i zA).2) row.2=some σ'->J σ')
  (hsee: ∀(clk:Int) (l:Ent Val) (rs:List Int) (e:Ev2),rs.length<=6->KN l->J (lk l)->I e->q168 loO=some ((see (rs,lk l) e).1)) (clk:Int) (l:Ent Val) (e:Ev2) (hk:KN l) (hj:J (lk l)) (he:I e):
  ∃clk' l',q170 loO 0 hd l0 tb clk l m2 m3 []=some ((visit see (wyM (PR l0 tb) (lk l) []) e).1,hd,l0,tb,clk',l',m2,m3,[]):=by
 obtain⟨clk',l',h1,_⟩:=YCS hI ok hJ hsee 0 l0.length 0 (by omega) clk l [] e rfl hk hj he
 exact⟨clk',l',YcP Ypi (n:=0) (by rw[YIw];exact h1)⟩
end
end
end Go.Abs.G47
namespace Go.Abs.G47
open Go Go.Abs
noncomputable section
def uni(σ σ0:Asg Val):Asg Val:=fun k=>match σ0 k with|some c=>some c|none=>σ k
def cpt(σ σ0:Asg Val):Prop:= ∀k v c,σ k=some v->σ0 k=some c->v=c
theorem Ypj{σ σ0:Asg Val}{x:ByteArray}{u c:Val}(h:σ0 x=some c):uni (upd σ x u) σ0=uni σ σ0:=by
 funext k
 unfold uni upd
 grind
theorem Ypk{σ σ0:Asg Val}{x:ByteArray}{u:Val}(h:σ0 x=none):upd (uni σ σ0) x u=uni (upd σ x u) σ0:=by
 funext k
 unfold uni upd
 grind
theorem Ypl{σ σ0:Asg Val}{x:ByteArray}{u:Val}(h:cpt σ σ0)(hx: ∀c,σ0 x=some c->u=c):cpt (upd σ x u) σ0:=fun k v c h1 h2=>by
 unfold upd at h1
 by_cases hk:k=x
 ·grind
 ·rw[if_neg hk]at h1;exact h k v c h1 h2
theorem tm1{σ σ0 ρ:Asg Val}{x:ByteArray}{c u:Val}(h:cpt σ σ0)(e:tmM (uni σ σ0) x c u=some ρ): ∃σ1,tmM σ x c u=some σ1/\cpt σ1 σ0/\ρ=uni σ1 σ0:=by
 unfold tmM at e⊢
 by_cases h0:x=nul0
 ·simp_all
 ·rw[if_neg h0]at e⊢
  cases hs:σ0 x with
  |some c0=>
   have hu:uni σ σ0 x=some c0:=by unfold uni;rw[hs]
   rw[hu]at e
   simp only at e
   by_cases hc:c0=u
   ·rw[if_pos hc]at e;injection e with e
    cases hx:σ x with
    |some v=>exact⟨σ,by simp only;rw[if_pos ((h x v c0 hx hs).trans hc)],h,e.symm⟩
    |none=>exact⟨_,rfl,Ypl h (fun c hc'=>by simp_all),by rw[Ypj hs];simp_all⟩
   simp_all
  |none=>
   have hu:uni σ σ0 x=σ x:=by unfold uni;rw[hs]
   rw[hu]at e
   cases hx:σ x with
   |some v=>
    simp_all
   |none=>
    rw[hx]at e
    injection e with e
    exact⟨_,rfl,Ypl h (fun c hc'=>by simp_all),by rw[<-e,Ypk hs]⟩
theorem tm2{σ σ0 σ1:Asg Val}{x:ByteArray}{c u:Val}(e:tmM σ x c u=some σ1)(h:cpt σ1 σ0):tmM (uni σ σ0) x c u=some (uni σ1 σ0):=by
 unfold tmM at e⊢
 by_cases h0:x=nul0
 ·simp_all
 ·rw[if_neg h0]at e⊢
  cases hx:σ x with
  |some v=>
   rw[hx]at e
   simp only at e
   by_cases hc:v=u
   ·rw[if_pos hc]at e;injection e with e;subst e
    have:uni σ σ0 x=some v:=by
     unfold uni
     cases hs:σ0 x with
     |some c0=>rw[<-h x v c0 hx hs]
     |none=>exact hx
    simp_all
   simp_all
  |none=>
   rw[hx]at e
   injection e with e
   subst e
   cases hs:σ0 x with
   |some c0=>
    have hu:u=c0:=h x u c0 (by unfold upd;simp) hs
    have:uni σ σ0 x=some c0:=by unfold uni;rw[hs]
    rw[this,Ypj hs];simp_all
   |none=>
    have:uni σ σ0 x=none:=by unfold uni;simp_all
    rw[this];rw[Ypk hs]
theorem ts1{σ0:Asg Val}: ∀{ps:List (ByteArray×Val)} {us:Vals} {σ ρ:Asg Val},cpt σ σ0->tsM (uni σ σ0) ps us=some ρ-> ∃σ1,tsM σ ps us=some σ1/\cpt σ1 σ0/\ρ=uni σ1 σ0
 | [],_,σ,ρ,h,e=>by injection e with e;exact⟨σ,rfl,h,e.symm⟩
 |_::_,[],_,_,_,e=>by cases e
 |p::ps,u::us,σ,ρ,h,e=>by
  simp only[tsM]at e⊢
  cases h1:tmM (uni σ σ0) p.1 p.2 u with
  |none=>simp_all
  |some ρ1=>
   rw[h1]at e
   obtain⟨σ1,a1,a2,a3⟩:=tm1 h h1
   rw[a1]
   subst a3
   exact ts1 a2 (show tsM (uni σ1 σ0) ps us=some ρ from e)
theorem ts2{σ0:Asg Val}: ∀{ps:List (ByteArray×Val)} {us:Vals} {σ σ1:Asg Val},tsM σ ps us=some σ1->cpt σ1 σ0->tsM (uni σ σ0) ps us=some (uni σ1 σ0)
 | [],_,σ,σ1,e,_=>by injection e with e;rw[e];rfl
 |_::_,[],_,_,e,_=>by cases e
 |p::ps,u::us,σ,σ1,e,h=>by
  simp only[tsM]at e⊢
  cases h1:tmM σ p.1 p.2 u with
  |none=>simp_all
  |some σ2=>
   rw[h1]at e
   have e':tsM σ2 ps us=some σ1:=e
   have hle:=(Yhr e').1
   rw[tm2 h1 (fun k v c a b=>h k v c (hle k v a) b)]
   exact ts2 e' h
theorem Ypm{σ0:Asg Val}{p:Way->Bool}: ∀(L:List (List Term×Rws)) (σ:Asg Val) (r:List Int),cpt σ σ0->(∀w∈wyM L σ r,p w=true↔cpt w.2 σ0)->(wyM L (uni σ σ0) r).map (·.1)=((wyM L σ r).filter p).map (·.1)
 | [],σ,r,h,hp=>by
   have:=(hp (r,σ) (by rw[wyM];simp)).2 h
   simp[wyM,this]
 |q::L,σ,r,h,hp=>by
  have hp': ∀row∈q.2,∀w∈ (match tsM σ (pV q.1) row.2 with|some σ'=>wyM L σ' (r++[row.1])|none=>[]),p w=true↔cpt w.2 σ0:=fun row hr w hw=>hp w (by rw[wyM,List.mem_flatMap];grind)
  simp only[wyM]
  clear hp
  generalize q.2=R at hp'
  induction R with
  |nil=>rfl
  |cons row R ih=>
   rw[List.flatMap_cons,List.flatMap_cons,List.filter_append,YIg,YIg,ih (fun x hx=>hp' x (YH9 _ hx))]
   congr 1
   have hw:=hp' row (YH5 ..)
   cases h1:tsM (uni σ σ0) (pV q.1) row.2 with
   |some ρ=>
    obtain⟨σ1,a1,a2,a3⟩:=ts1 h h1
    rw[a1]at hw⊢
    subst a3
    exact Ypm L σ1 _ a2 hw
   |none=>
    cases h2:tsM σ (pV q.1) row.2 with
    |none=>rfl
    |some σ1=>
     rw[h2]at hw
     have:(wyM L σ1 (r++[row.1])).filter p=[]:=by
      rw[List.filter_eq_nil_iff]
      intro w hw' hpw
      have hc:=(hw w hw').1 hpw
      have hle:=(YhA hw').1
      have:=ts2 h2 (σ0:=σ0) (fun k v c a b=>hc k v c (hle k v a) b)
      simp_all
     grind
def fxS(hd:List ByteArray)(an:Vals):Nat->Int×Ent Val
 |0=>(0,[])
 |n+1=>(mck eqS (fxS hd an n).1 (hd.getD n nul0) (fxS hd an n).2,mpt eqS (fxS hd an n).1 (hd.getD n nul0) (an.getD n zV) (fxS hd an n).2)
def fxA(hd:List ByteArray)(an:Vals):Nat->Asg Val
 |0=>fun _=>none
 |n+1=>upd (fxA hd an n) (hd.getD n nul0) (an.getD n zV)
theorem YhB(hd:List ByteArray)(an:Vals): ∀n,KN (fxS hd an n).2/\lk (fxS hd an n).2=fxA hd an n
 |0=>⟨List.nodup_nil,by rfl⟩
 |n+1=>by
  obtain⟨h1,h2⟩:=YhB hd an n
  refine⟨YoX h1,?_⟩
  show lk (mpt eqS _ _ _ _)=upd _ _ _
  rw[Yhq,h2]
theorem Ypn{hd:List ByteArray}{an:Vals}(nd: ∀n,n<hd.length->hd.getD n nul0∉hd.take n){i:Nat}: ∀n,n<=hd.length->i<n->fxA hd an n (hd.getD i nul0)=some (an.getD i zV)
 |0,_,h=>by omega
 |n+1,h,hi=>by
  unfold fxA upd
  by_cases e:i=n
  ·simp_all
  ·rw[if_neg,Ypn nd n (by omega) (by omega)]
   intro e'
   refine nd n (by omega) (e'▸ ?_)
   rw[List.mem_take_iff_getElem]
   grind
theorem YhC{hd:List ByteArray}{an:Vals}{k:ByteArray}{c:Val}: ∀n,fxA hd an n k=some c-> ∃i,i<n/\k=hd.getD i nul0/\c=an.getD i zV
 |0,h=>by cases h
 |n+1,h=>by
  unfold fxA upd at h
  by_cases e:k=hd.getD n nul0
  ·grind
  ·rw[if_neg e]at h
   obtain⟨i,h1,h2,h3⟩:=YhC n h
   grind
def YEe(db:List Tabl)(hd:List ByteArray)(l:List Atom)(an:Vals):List Way:=wyM (PR l (tbs db l)) (fxA hd an hd.length) []
theorem YCT{db:List Tabl}{hd:List ByteArray}{l:List Atom}{an:Vals}(hl:an.length=hd.length)(hv: ∀v∈hd,v∈YDn [] l)(nd:hd.Nodup):(YEe db hd l an).map (·.1)=((YEl db l).filter fun w=>decide (ansM hd w.2=an)).map (·.1):=by
 have hnd: ∀n,n<hd.length->hd.getD n nul0∉hd.take n:=fun n hn=>Yhx nd hn
 have e:uni (fun _=>none) (fxA hd an hd.length)=fxA hd an hd.length:=by
  funext k
  unfold uni
  grind
 have:=Ypm (σ0:=fxA hd an hd.length) (p:=fun w=>decide (ansM hd w.2=an)) (PR l (tbs db l)) (fun _=>none) [] (fun k v c h=>by cases h) (fun w hw=> ?_)
 ·rw[e]at this;trivial
 ·rw[decide_eq_true_eq]
  have eg: ∀n,n<hd.length->(ansM hd w.2).getD n zV=(w.2 (hd.getD n nul0)).getD zV:=fun n hn=>by
   unfold ansM
   simp_all
  constructor
  ·intro h k v c h1 h2
   obtain⟨i,i1,i2,i3⟩:=YhC hd.length h2
   simp_all
  ·intro h
   refine YCM (by unfold ansM;simp_all) zV (fun n hn=> ?_)
   have hn':n<hd.length:=by unfold ansM at hn;simp_all
   rw[eg n hn']
   obtain⟨u,hu⟩:=YCL hw (hv _ (Yaj hn'))
   rw[hu]
   exact h _ u _ hu (Ypn hnd hd.length (YIr _) hn')
theorem tFix{db:List Tabl}{hd:List ByteArray}{l:List Atom}{an:Vals}(h:QOk db hd l)(hq:qI db hd l=0)(hl:an.length=hd.length):q68 loO db hd l an=some (0,hd,l,tbs db l,(fxS hd an hd.length).1,(fxS hd an hd.length).2,false,false,[]):=by
 have hM:maxEl=1073741824:=rfl
 have hh:=h.hn
 have hs:=h.tb.sm
 unfold q68
 rw[tQ db hd l (by omega) h.sm,YCY,hq]
 simp
 rw[decide_eq_true (by rw[hl]),tNew db hd l h.dn (by omega)]
 have:YgH loO (an,hd,(hd.length:Int),0,hd,l,tbs db l,0,[],false,false,[])=some (hd,l,tbs db l,(fxS hd an hd.length).1,(fxS hd an hd.length).2,false,false,[]):=by
  refine Yav (st:=fun n=>(an,hd,(hd.length:Int),(n:Int),hd,l,tbs db l,(fxS hd an n).1,(fxS hd an n).2,false,false,[])) (N:=hd.length) rfl ?_ (fun n hn=> ?_)
  ·simp only[Yen,nlI,cond_false]
  ·simp only[Yen,ltI hn,cond_true,inc hn (show hd.length<=maxEl by omega),YIP]
   rw[chkT _ (by omega),chkT _ (by omega)]
   rfl
 simp_all
theorem Ypo{hd:List ByteArray}{an:Vals}(h: ∀v∈an,goodV v)(hl:an.length=hd.length):JV (fxA hd an hd.length):=fun k v e=>by
 obtain⟨i,h1,_,rfl⟩:=YhC hd.length e
 grind
def see1:Way->List (List Int)->Bool×List (List Int):=fun w e=>(decide (((e++[w.1]).length:Int)<=1000),e++[w.1])
theorem Ypp: ∀(ws:List Way) (pre:List (List Int)),pre.length+ws.length<=1000->visit see1 ws pre=(true,pre++ws.map (·.1))
 | [],pre,_=>by simp[visit]
 |w::ws,pre,h=>by
  have e:see1 w pre=(true,pre++[w.1]):=by unfold see1;rw[decide_eq_true (by grind)]
  simp only[visit]
  rw[e]
  simp only
  rw[Ypp ws (pre++[w.1]) (by grind)]
  simp
theorem YCU{db:List Tabl}{hd:List ByteArray}{l:List Atom}(h:QOk db hd l)(an:Vals):(YEe db hd l an).length<=6^l.length:=by
 refine YIv (Ye4 _ _ _ (fun q hq=> ?_)) ?_
 ·obtain⟨n,hn,rfl⟩:=Ye5 h.tb.len hq
  exact h.row n hn
 ·refine Nat.pow_le_pow_right (by omega) ?_
  unfold PR;grind
theorem YHO{db:List Tabl}{hd:List ByteArray}{l:List Atom}{an:Vals}(h:QOk db hd l)(hq:qI db hd l=0)(hl:an.length=hd.length)(ha: ∀v∈an,goodV v)(hw:(YEe db hd l an).length<=1000):q73 loO db hd l an=some ((YEe db hd l an).map (·.1),0):=by
 have hM:maxEl=1073741824:=rfl
 unfold q73
 rw[tFix h hq hl]
 simp only[altO,decide_true,YIL,cond_false]
 obtain⟨k1,k2⟩:=YhB hd an hd.length
 obtain⟨clk',l',e⟩:=YHL (see:=see1) (I:=fun e=>e.length<=1000) (J:=JV) (hd:=hd) (l0:=l) (tb:=tbs db l) (m2:=false) (m3:=false) (fun w e _ he=>by have:=of_decide_eq_true he;show(e++[w.1]).length<=1000;omega) h.tb (fun i hi row hr σ σ' hj ht=>Ye3 hj (h.val i hi row hr) ht) (fun clk l1 rs e h6 hk hj he=>by
  unfold q70
  have hc:q69 loO rs=some rs:=by
   unfold q69
   have:(YIs rs.length maxEl&&YIs 1 1)=true:=by rw[YIK,Nat.ble_eq];exact⟨by omega,rfl⟩
   grind
  rw[hc,YCY,chkT _ (by grind)]
  rfl) (fxS hd an hd.length).1 (fxS hd an hd.length).2 [] k1 (by rw[k2];exact Ypo ha hl) (YIz _)
 rw[e,YCY]
 rw[chkT _ rfl,k2]
 have hv:=Ypp (YEe db hd l an) [] (by simp_all)
 rw[show visit see1 (wyM (PR l (tbs db l)) (fxA hd an hd.length) []) []=_ from hv]
 rfl
def see2:Way->Unit->Bool×Unit:=fun _ _=>(false,())
theorem YHP{db:List Tabl}{hd:List ByteArray}{l:List Atom}{an:Vals}(h:QOk db hd l)(hq:qI db hd l=0)(hl:an.length=hd.length)(ha: ∀v∈an,goodV v):q171 loO db hd l an=some (decide (0< (YEe db hd l an).length),0):=by
 unfold q171
 rw[tFix h hq hl]
 simp only[altO,decide_true,YIL,cond_false]
 obtain⟨k1,k2⟩:=YhB hd an hd.length
 obtain⟨clk',l',e⟩:=YHN (see:=see2) (I:=fun _=>True) (J:=JV) (hd:=hd) (l0:=l) (tb:=tbs db l) (m2:=false) (m3:=false) (fun _ _ _ _=>trivial) h.tb (fun i hi row hr σ σ' hj ht=>Ye3 hj (h.val i hi row hr) ht) (fun clk l1 rs e h6 hk hj he=>rfl) (fxS hd an hd.length).1 (fxS hd an hd.length).2 () k1 (by rw[k2];exact Ypo ha hl) trivial
 rw[e,YCY]
 rw[chkT _ rfl,k2]
 show some (!(visit see2 (YEe db hd l an) ()).1,(0:Int))=_
 cases YEe db hd l an with
 |nil=>rfl
 |cons w ws=>
  rfl
theorem YHQ{db:List Tabl}{hd:List ByteArray}{l:List Atom}{an:Vals}(h:QOk db hd l)(hq:qI db hd l=0)(hl: ¬ (an.length:Int)=(hd.length:Int)):q68 loO db hd l an=none/\q67 loO db hd l an=some 6:=by
 have hM:maxEl=1073741824:=rfl
 have hh:=h.hn
 unfold q68 q67
 rw[tQ db hd l (by omega) h.sm,YCY,YCY,hq]
 simp_all
theorem YHR{db:List Tabl}{hd:List ByteArray}{l:List Atom}{an:Vals}(h:QOk db hd l)(r:ROk db l)(hq:qI db hd l=0)(hl:an.length=hd.length)(hs:SzV an)(hw:(YEl db l).length<=1000):q172 loO db hd l an=some (((YEl db l).filter fun w=>decide (ansM hd w.2=an)).map (·.1),0):=by
 have hM:maxEl=1073741824:=rfl
 have hh:=h.hn
 unfold q172
 rw[rQ db hd l (by omega) h.sm,YCY,hq]
 obtain⟨ws,w1,w2,w3⟩:=YHJ h r
 have hll:ws.length<=1000:=by grind
 have hA:=h.all
 have ea:anss db hd l=ws.map fun w=>ansM hd (dA w.2.1 w.2.2):=by
  unfold anss;rw[<-w2,YIc];rfl
 rw[ea]at hA
 have ef:((YEl db l).filter fun w=>decide (ansM hd w.2=an)).map (·.1)=(ws.filter fun w=>decide (ansM hd (dA w.2.1 w.2.2)=an)).map (·.1):=by
  rw[<-w2,List.filter_map,YIc];rfl
 have e6:Yhf loO (an,ws,0,hd,l,[])=some ((ws.filter fun w=>decide (ansM hd (dA w.2.1 w.2.2)=an)).map (·.1)):=by
  refine Yav (st:=fun n=>(an,ws,(n:Int),hd,l,((ws.take n).filter fun w=>decide (ansM hd (dA w.2.1 w.2.2)=an)).map (·.1))) (N:=ws.length) rfl ?_ (fun n hn=> ?_)
  ·simp only[YeQ,nlI,cond_false,YH8]
  ·obtain⟨g1,g2⟩:=w3 _ (Yaj (d:=([],[],[])) hn)
   have hx:=hA _ (List.mem_map_of_mem (f:=fun w:RWay=>ansM hd (dA w.2.1 w.2.2)) (Yaj (d:=([],[],[])) hn))
   simp only[YeQ,ltI hn,cond_true,inc hn (show ws.length<=maxEl by omega),YIP]
   rw[chkT _ (by omega),YGA hd l _ g1 g2 (by omega),YCY,YCq _ _ (Ypa hx.1 (by omega)) hs,YCY,YbM (d:=(([],[],[]):RWay)) hn,List.filter_append]
   have efs:([ws.getD n ([],[],[])].filter fun w:RWay=>decide (ansM hd (dA w.2.1 w.2.2)=an))=bif decide (ansM hd (dA (ws.getD n ([],[],[])).2.1 (ws.getD n ([],[],[])).2.2)=an)then[ws.getD n ([],[],[])]else[]:=by
    rfl
   rw[efs]
   cases decide (ansM hd (dA (ws.getD n ([],[],[])).2.1 (ws.getD n ([],[],[])).2.2)=an)with
   |false=>simp
   |true=>
    simp only[cond_true]
    rw[chkT _ (by omega),chkT _ (by grind),YIg]
    rfl
 grind
theorem rIDs(a:List Int)(h:a.length<=maxEl):q97 loO a a=some true:=by
 unfold q97
 have:YgO loO (a,a,0)=some (.inr ()):=by
  refine Yav (st:=fun n=>(a,a,(n:Int))) (N:=a.length) rfl ?_ (fun n hn=> ?_)
  ·simp only[Yer,nlI,cond_false]
  ·simp only[Yer,ltI hn,cond_true,inc hn h,decide_true,YIL,cond_false]
   rw[chkT _ (by omega),chkT _ (by omega)]
 simp
 rw[this,YCY,YoN]
theorem YEU(L:List (List Int))(h:L.length<=maxEl)(hs: ∀a∈L,a.length<=maxEl):q98 loO L L=some true:=by
 unfold q98
 have:YgP loO (L,L,0)=some (.inr ()):=by
  refine Yav (st:=fun n=>(L,L,(n:Int))) (N:=L.length) rfl ?_ (fun n hn=> ?_)
  ·simp only[Yes,nlI,cond_false]
  ·simp only[Yes,ltI hn,cond_true,inc hn h,YIP]
   rw[chkT _ (by omega),chkT _ (by omega),rIDs _ (hs _ (Yaj hn)),YCY]
   rfl
 simp
 rw[this,YCY,YoN]
theorem Ypq: ∀{L:List (List Term×Rws)} {σ:Asg Val} {r:List Int} {w:Way},w∈wyM L σ r->w.1.length=r.length+L.length
 | [],σ,r,w,hw=>by rw[wyM,YIp]at hw;simp_all
 |q::L,σ,r,w,hw=>by
  rw[wyM,List.mem_flatMap]at hw
  obtain⟨row,hr,hw⟩:=hw
  cases hx:tsM σ (pV q.1) row.2 with
  |none=>simp_all
  |some σ'=>
   rw[hx]at hw
   have:=Ypq hw
   grind
theorem YHS(codes:List Int)(h:codes.length<=8):q166 loO codes=some (codes.map ofV):=by
 have hM:maxEl=1073741824:=rfl
 unfold q166
 have:Yhc loO (codes,0,[])=some (codes.map ofV):=by
  refine Yav (st:=fun n=>(codes,(n:Int),(codes.take n).map ofV)) (N:=codes.length) rfl ?_ (fun n hn=> ?_)
  ·simp only[YeM,nlI,cond_false,YH8]
  ·simp only[YeM,ltI hn,cond_true,inc hn (show codes.length<=maxEl by omega),YIP]
   rw[chkT _ (by omega),(YbO _).1,YCY,chkT _ (by grind),YCA ofV (d:=0) hn]
 simp_all
theorem YCV(d:List (Int×Int×List (List Int)))(xh:List Int)(xa:List (Int×List Int))(codes:List Int)(hd: ∀x∈d,0<=x.1/\x.1<=255/\0<=x.2.1)(hxh: ∀c∈xh,0<=c)(hxa: ∀x∈xa,0<=x.1/\x.1<=255/\ ∀c∈x.2,0<=c):q173 loO d xh xa codes=some true:=by
 have hM:maxEl=1073741824:=rfl
 unfold q173
 obtain⟨db,ok,e1,D⟩:=YHt d hd
 obtain⟨hd',l,ok2,e2,h2⟩:=YHu D xh xa hxh hxa
 rw[e1,YCY,e2,YCY,aw,YCY,YCY]
 cases ok with
 |false=>rfl
 |true=>
  cases ok2 with
  |false=>rfl
  |true=>
   simp only[YIL,cond_false]
   by_cases h8:(8:Int)< (codes.length:Int)
   ·simp_all
   ·rw[decide_eq_false h8,cond_false,YHS codes (by omega),YCY]
    have g:=h2 rfl
    have q:=g.qok D
    have q0:=g.qI D
    have hw:=g.few D
    have hanl:(codes.map ofV).length<=8:=by grind
    have hgood: ∀v∈codes.map ofV,goodV v:=fun v hv=>by obtain⟨c,_,rfl⟩:=YH2.1 hv;exact(YbO c).2
    generalize codes.map ofV=an at*
    have hc:q167 loO an=some an:=by
     unfold q167
     have:(YIs an.length maxEl&&YIs 1 3)=true:=by rw[YIK,Nat.ble_eq];exact⟨by omega,rfl⟩
     grind
    rw[hc,YCY]
    by_cases hl:(an.length:Int)=(hd'.length:Int)
    ·have hl':an.length=hd'.length:=by omega
     have hwf:(YEe db hd' l an).length<=216:=YIv (YCU q an) (Nat.pow_le_pow_right (by omega) g.len)
     have hsz:SzV an:=Ypa (fun v hv=>hgood v hv) (by omega)
     rw[YHP q q0 hl' hgood,YCY,YCY,YHO q q0 hl' hgood (by omega),YCY,YHR q (g.rok D) q0 hl' hsz (by omega),YCY,<-YCT hl' g.hv g.nd]
     have ed:decide ((0:Int)< (((YEe db hd' l an).map (·.1)).length:Int))=decide (0< (YEe db hd' l an).length):=by
      simp
     simp only[decide_true,cond_true]
     rw[ed,beq_self_eq_true,cond_true,YEU _ (by grind) (fun a ha=>by
      obtain⟨w,hw',rfl⟩:=YH2.1 ha
      have hy:=Ypq hw'
      rw[List.length_nil]at hy
      have h3:(PR l (tbs db l)).length<=l.length:=by unfold PR;grind
      have:=g.len
      omega),YCY]
    ·obtain⟨f1,f2⟩:=YHQ q q0 hl
     have hh:=q.hn
     have e3:q171 loO db hd' l an=some (false,6):=by unfold q171;rw[f1,f2];rfl
     have e4:q73 loO db hd' l an=some ([],6):=by unfold q73;rw[f1,f2];rfl
     have e5:q172 loO db hd' l an=some ([],6):=by
      unfold q172
      rw[rQ db hd' l (by omega) q.sm,YCY,q0,decide_eq_false hl];rfl
     rw[e3,YCY,YCY,e4,YCY,e5,YCY]
     have e6:=YEU [] (YIz _) (fun a h=>nomatch h)
     simp_all
theorem holds_fin(x:List (Int×Int×List (List Int))×List Int×List (Int×List Int)×List Int)(hr:(cs [.l (cs [.i .u8,.i .u8,.l (cs [.l (cs [.i .u8])])]),.l (cs [.i .u8]),.l (cs [.i .u8,.l (cs [.i .u8])]),.l (cs [.i .u8])]).rng x):q173 loO x.1 x.2.1 x.2.2.1 x.2.2.2=some true:=
 YCV _ _ _ _ (YCJ hr.1) (Ype hr.2.1) (YCK hr.2.2.1)
end
end Go.Abs.G47
