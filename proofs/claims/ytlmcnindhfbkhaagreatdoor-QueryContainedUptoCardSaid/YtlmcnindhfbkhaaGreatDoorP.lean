/- Helpers of the plain laws: loops as states by number, tables, short words. No condition. -/
import Derived.Test.YtlmcnindhfbkhaaGreatDoorB
import Derived.Test.YtlmcnindhfbkhaaGreatDoorG1
set_option linter.unusedVariables false
set_option linter.unusedSimpArgs false
set_option linter.unusedSectionVars false
open List renaming getElem?_eq_getElem → YGI, map_cons → YGK, getElem?_map → YGL, map_nil → YGM, mem_cons → YGO, mem_cons_self → YGQ, length_eq_zero_iff → YGR, mem_map → YGS, mem_cons_of_mem → YGU, take_length → YGV, length_map → YGX, append_assoc → YGY, all_eq_true → YGZ, mem_singleton → YG0, length_cons → YG2, drop_zero → YG3, getD_eq_getElem?_getD → YG4, cons_append → YG6, mem_iff_getElem → YG7, map_map → YG8, getElem?_eq_none → YHb, drop_of_length_le → YHc
open Nat renaming le_refl → YHf, blt → YHg, ble → YHh, le_trans → YHj, zero_add → YHl, add_mul → YHn, zero_le → YHo
open Option renaming bind → YHq, bind_some → YHt
open Bool renaming and_eq_true → YHy, not_true → YHz, not_false → YHA, eq_iff_iff → YHB, and_self → YHC, not_eq_true → YHD
open Int renaming toNat_natCast → YHE
open ByteArray renaming mk → YHJ
open Go.IntKind renaming wrap → YHK
namespace Go.Abs
theorem wr6{n:Int}(h0: -9223372036854775808<=n)(h1:n<9223372036854775808):YHK .i64 n=n:=by
 have e:(2:Int)^IntKind.bits .i64=18446744073709551616:=rfl
 have e':(2:Int)^(IntKind.bits .i64-1)=9223372036854775808:=rfl
 have s:IntKind.signed .i64=true:=rfl
 simp only[YHK,e,e',s,Bool.true_and,ge_iff_le,decide_eq_true_eq]
 omega
theorem chkT{β:Type}{p:Prop}[Decidable p](x:Option β)(h:p):chk p x=x:=by simp[chk,h]
theorem cT{β:Type}{p:Prop}[Decidable p](x y:β)(h:p):(bif decide p then x else y)=x:=by simp[h]
theorem YCm{α β:Type}(a:α)(f:α->Option β):YHq (some a) f=f a:=rfl
theorem Yoj{S R:Type}{step:S->Option (S⊕R)}(st:Nat->S)(N:Nat)(r:R)(he:step (st N)=some (.inr r))(hs: ∀n,n<N->step (st n)=some (.inl (st (n+1)))): ∀k n,n+k=N->YCA step (st n)=some r
 |0,n,h=>by rw[Yaq];simp_all
 |k+1,n,h=>by rw[Yaq,hs n (by omega)];exact Yoj st N r he hs k (n+1) (by omega)
theorem Yan{S R:Type}{step:S->Option (S⊕R)}{st:Nat->S}{N:Nat}{r:R}{s:S}(hst:s=st 0)(he:step (st N)=some (.inr r))(hs: ∀n,n<N->step (st n)=some (.inl (st (n+1)))):YCA step s=some r:=by
 subst hst;exact Yoj st N r he hs N 0 (by omega)
def tab{α:Type}(n:Nat)(f:Nat->α):List α:=(List.range n).map f
theorem YaB{α:Type}(n:Nat)(f:Nat->α):(tab n f).length=n:=by simp[tab]
theorem Ycb{α:Type}(n:Nat)(f:Nat->α):tab n f++[f n]=tab (n+1) f:=by simp[tab,List.range_succ]
def bl(s:ByteArray):List UInt8:=s.data.toList
theorem Ybp(s:ByteArray):(bl s).length=s.size:=Array.length_toList
theorem YeT(s:ByteArray)(i:Nat)(h:i<s.size):(bl s).drop i=s.data.getD i 0::(bl s).drop (i+1):=by
 have h':i< (bl s).length:=by trivial
 rw[List.drop_eq_getElem_cons h']
 congr 1
 simp[bl,Array.getD]
 omega
theorem YA4(s:ByteArray)(i:Nat)(h:i<s.size):(bl s).take (i+1)=(bl s).take i++[s.data.getD i 0]:=by
 have h':i< (bl s).length:=by trivial
 rw[<-List.take_append_getElem h']
 congr 2
 simp[bl,Array.getD]
 omega
theorem YA5(a b:ByteArray)(i j:Nat):(YCn a i=YCn b j)↔a.data.getD i 0=b.data.getD j 0:=by
 simp only[YCn,YHE]
 constructor
 ·intro h
  have:(a.data.getD i 0).toNat=(b.data.getD j 0).toNat:=by omega
  exact UInt8.toNat_inj.1 this
 simp_all
theorem YA6{a b:ByteArray}(h:bl a=bl b):a=b:=by
 have:a.data=b.data:=by simpa[bl]using h
 cases a;simp_all
end Go.Abs
namespace Go.Abs.G47
open Go Go.Abs
set_option maxRecDepth 100000
abbrev Vals:=List (Int×Int×ByteArray)
abbrev Rws:=List (Int×Vals)
abbrev Tabl:=ByteArray×List ByteArray×Rws
abbrev Term:=ByteArray×Int×Int×ByteArray
abbrev Atom:=ByteArray×List Term
theorem Yom{clk:Int}{ents:List (Int×ByteArray×Vals)}{m2:Bool}
  {y} (hd:(ents.map (·.1)).Nodup) (hl:ents.length<=maxEl)
  (hy:Yb8 loO (ents.map (·.2.1),clk,clk,[],false,clk,ents,m2)=some y):
  YcX loO ([],clk,ents,m2)=some y:=by
 show rngF Yeu (YcW loO) (Yb8 loO) ([],clk,clk,[],false,clk,ents,m2)=some y
 refine YsE (YA7 (p:=Yeu) (t:=YcW loO) (r:=Yb8 loO) (fun sn=>(sn.map (kAt (YHJ #[]) ents),clk,clk,sn,false,clk,ents,m2)) (B:=ents.map (·.1)) (c:=clk) hd (fun sn=>rfl) (fun sn b hb hn hsd hsB=> ?_) (fun sn hp=> ?_))
 ·obtain⟨e,he⟩:=YA9 hb
  have hlen:sn.length<ents.length:=by
   have h1:(sn++[b]).Nodup:=by
    rw[List.nodup_append]
    exact⟨hsd,by simp,fun x hx y hy=>by rw[YG0]at hy;subst hy;intro e;subst e;exact hn hx⟩
   have:=List.Nodup.length_le_of_subset h1 (l₂:=ents.map (·.1)) (fun a ha=>by
    rcases List.mem_append.1 ha with ha|ha
    ·exact hsB a ha
    ·rw[YG0]at ha;subst ha;exact hb)
   simp at this;omega
  simp only[YcW,addI,List.getLast?_append,List.getLast?_singleton,Option.some_or,YHt,he,chk,decide_true,cond_true,YGX,List.length_singleton]
  have:decide (sn.length+1<=maxEl)=true:=by simp;omega
  simp only[this,cond_true,List.map_append,YGK,YGM,kAt,he]
 ·have hperm:(sn.map (kAt (YHJ #[]) ents)).Perm (ents.map (·.2.1)):=by
   rw[<-YBa (d:=YHJ #[]) hd];exact hp.map _
  rw[<-hy]
  show YHq (q65 loO (sn.map (kAt (YHJ #[]) ents))) _=YHq (q65 loO (ents.map (·.2.1))) _
  have e1:q65 loO (sn.map (kAt (YHJ #[]) ents))=q65 loO (ents.map (·.2.1)):=YA8 hperm
  rw[e1]
  have e2:=hperm.length_eq
  congr 1
  funext y152
  rw[e2]
def nodB:List Int->Bool
 | []=>true
 |a::r=> !(r.any fun b=>decide (b=a))&&nodB r
theorem Yon: ∀{l:List Int},nodB l=true->l.Nodup
 | [],_=>List.nodup_nil
 |a::r,h=>by
  simp only[nodB,YHy,Bool.not_eq_true',List.any_eq_false,decide_eq_true_eq]at h
  exact List.nodup_cons.2 ⟨fun hm=>h.1 a hm rfl,Yon h.2⟩
def j18C(lo:Lo):(List ByteArray×Int×List (Int×ByteArray×Vals)×Bool)->Option (List Vals×Int):=fun x=>match x with
 | (keys,clk,ents,m2)=>bif keys.isEmpty&& (nodB (ents.map (·.1))&&YHh ents.length maxEl)then Yb8 lo (ents.map (·.2.1),clk,clk,[],false,clk,ents,m2)else none
theorem YBc{x y}(h:j18C loO x=some y):YcX loO x=some y:=by
 obtain⟨keys,clk,ents,m2⟩:=x
 unfold j18C at h
 obtain⟨e,hk⟩:=Yab h
 simp only[YHy,List.isEmpty_iff]at e
 obtain⟨rfl,e1,e2⟩:=e
 exact Yom (Yon e1) (by simpa using e2) hk
def YFe(lo:Lo)(db:List Tabl)(q0:List ByteArray)(q1:List Atom):Option (List Vals×Int):=
 YHq (q40 lo db q0 q1) fun y105=>bif(!decide (y105=(0:Int)))then(some ([],y105))else(YHq (q41 lo db q0 q1) fun y108=>YHq (q50 lo (0:Int) y108.1 y108.2.1 y108.2.2.1 y108.2.2.2.1 y108.2.2.2.2.1 y108.2.2.2.2.2.1 y108.2.2.2.2.2.2.1 y108.2.2.2.2.2.2.2 (0:Int) [] false) fun y163=>chk (y163.2.2.2.1.length=y108.2.2.1.length) (bif(!y163.1)then(some ([],(3:Int)))else(YHq (j18C lo ([],y163.2.2.2.2.2.2.2.2.1,y163.2.2.2.2.2.2.2.2.2.1,y163.2.2.2.2.2.2.2.2.2.2.1)) fun y228=>some (y228.1,y228.2))))
theorem Yhn{α β:Type}{a:Option α}{f g:α->Option β}{y:β}(h: ∀z,f z=some y->g z=some y):YHq a f=some y->YHq a g=some y:=by
 cases a with
 |none=>intro h;cases h
 |some z=>exact h z
theorem Yoo{β:Type}{b:Bool}{x x' z:Option β}{y:β}(h:x=some y->x'=some y):(bif b then z else x)=some y->(bif b then z else x')=some y:=by
 cases b with
 |true=>exact id
 |false=>exact h
theorem YBd{β:Type}{p:Prop}[Decidable p]{x x':Option β}{y:β}(h:x=some y->x'=some y):chk p x=some y->chk p x'=some y:=by
 unfold chk
 cases decide p with
 |true=>exact h
 |false=>exact id
theorem YBe{db q0 q1 y}:YFe loO db q0 q1=some y->q66 loO db q0 q1=some y:=by
 unfold YFe q66
 refine Yhn fun _=>Yoo (Yhn fun _=>Yhn fun z=>YBd (Yoo ?_))
 intro h
 cases hj:j18C loO ([],z.2.2.2.2.2.2.2.2.1,z.2.2.2.2.2.2.2.2.2.1,z.2.2.2.2.2.2.2.2.2.2.1)with
 |none=>rw[hj]at h;cases h
 |some q=>rw[hj]at h;rw[YBc hj];exact h
noncomputable def R2:Int×Vals:=(q1 (loM 400) 1 [1,2]).getD (0,[])
noncomputable def R3:Int×Vals:=(q1 (loM 400) 2 [1,3]).getD (0,[])
noncomputable def R4:Int×Vals:=(q1 (loM 400) 3 [2,3]).getD (0,[])
noncomputable def R5:Int×Vals:=(q1 (loM 400) 1 [3]).getD (0,[])
noncomputable def T6:Term:=(q2 (loM 400) (YHJ #[120])).getD (YHJ #[],0,0,YHJ #[])
noncomputable def T7:Term:=(q2 (loM 400) (YHJ #[121])).getD (YHJ #[],0,0,YHJ #[])
noncomputable def EA:List Vals×Int:=(YFe (loM 400) [((YHJ #[114]),[(YHJ #[97]),(YHJ #[98])],[R2,R3,R4]),((YHJ #[115]),[(YHJ #[99])],[R5])] ([(YHJ #[120])]) ([((YHJ #[114]),[T6,T7]),((YHJ #[115]),[T7])])).getD ([],0)
theorem aw:q99 loO=some true:=by
 have e2:q1 loO 1 [1,2]=some R2:=(congrArg (fun l=>q1 l 1 [1,2]) (Ybd 400)).symm.trans (by kernel_rfl)
 have e3:q1 loO 2 [1,3]=some R3:=(congrArg (fun l=>q1 l 2 [1,3]) (Ybd 400)).symm.trans (by kernel_rfl)
 have e4:q1 loO 3 [2,3]=some R4:=(congrArg (fun l=>q1 l 3 [2,3]) (Ybd 400)).symm.trans (by kernel_rfl)
 have e5:q1 loO 1 [3]=some R5:=(congrArg (fun l=>q1 l 1 [3]) (Ybd 400)).symm.trans (by kernel_rfl)
 have e6:q2 loO (YHJ #[120])=some T6:=(congrArg (fun l=>q2 l (YHJ #[120])) (Ybd 400)).symm.trans (by kernel_rfl)
 have e7:q2 loO (YHJ #[121])=some T7:=(congrArg (fun l=>q2 l (YHJ #[121])) (Ybd 400)).symm.trans (by kernel_rfl)
 have eA:q66 loO [((YHJ #[114]),[(YHJ #[97]),(YHJ #[98])],[R2,R3,R4]),((YHJ #[115]),[(YHJ #[99])],[R5])] ([(YHJ #[120])]) ([((YHJ #[114]),[T6,T7]),((YHJ #[115]),[T7])])=some EA:=
  YBe ((congrArg (fun l=>YFe l [((YHJ #[114]),[(YHJ #[97]),(YHJ #[98])],[R2,R3,R4]),((YHJ #[115]),[(YHJ #[99])],[R5])] ([(YHJ #[120])]) ([((YHJ #[114]),[T6,T7]),((YHJ #[115]),[T7])])) (Ybd 400)).symm.trans (by kernel_rfl))
 unfold q99
 rw[e2,YCm,e3,YCm,e4,YCm,e5,YCm,e6,YCm,e7,YCm,YCm,eA,YCm,<-Ybd 400]
 show(_:Option Bool)=some true
 kernel_rfl
end Go.Abs.G47
namespace Go.Abs
def YCo{R:Type}(f:Nat->Option R):Nat->Nat->R->R
 |0,_,r0=>r0
 |k+1,n,r0=>match f n with
  |some r=>r
  |none=>YCo f k (n+1) r0
theorem Yho{R:Type}{f g:Nat->Option R}{r0:R}: ∀(k n:Nat),(∀m,n<=m->m<n+k->f m=g m)->YCo f k n r0=YCo g k n r0
 |0,n,h=>rfl
 |k+1,n,h=>by
  simp only[YCo]
  rw[h n (YHf _) (by omega),Yho k (n+1) (fun m h1 h2=>h m (by omega) (by omega))]
theorem Yak{S R:Type}{step:S->Option (S⊕R)}(st:Nat->S)(f:Nat->Option R)(N:Nat)(r0:R){s:S}(hst:s=st 0)(he:step (st N)=some (.inr r0))
  (hs: ∀n,n<N->step (st n)=some (match f n with|some r=>.inr r|none=>.inl (st (n+1)))):YCA step s=some (YCo f N 0 r0):=by
 subst hst
 have: ∀k n,n+k=N->YCA step (st n)=some (YCo f k n r0):=by
  intro k
  induction k with
  |zero=>intro n h;rw[Yaq];simp only[Nat.add_zero]at h;subst h;rw[he];rfl
  |succ k ih=>
   intro n h
   rw[Yaq,hs n (by omega)]
   simp only[YCo]
   grind
 simp_all
theorem YeU{R:Type}{f:Nat->Option R}{r0:R}: ∀(k n:Nat),(∀m,n<=m->m<n+k->f m=none)->YCo f k n r0=r0
 |0,n,h=>rfl
 |k+1,n,h=>by
  simp only[YCo]
  rw[h n (YHf _) (by omega)]
  exact YeU k (n+1) (fun m h1 h2=>h m (by omega) (by omega))
def anyN(p:Nat->Bool):Nat->Nat->Bool
 |0,_=>false
 |k+1,n=>p n||anyN p k (n+1)
def idxR(p:Nat->Bool)(k n:Nat):Int:=match YCo (R:=Int⊕Unit) (fun m=>bif p m then some (.inl (m:Int))else none) k n (.inr ())with
 | .inl i=>i
 | .inr _=> -1
theorem Yc8(p:Nat->Bool): ∀k n,decide (0<=idxR p k n)=anyN p k n
 |0,n=>rfl
 |k+1,n=>by
  have:=Yc8 p k (n+1)
  unfold idxR at this⊢
  simp only[YCo,anyN]
  grind
theorem YaP{R:Type}{f:Nat->Option R}{r0:R}: ∀(k n:Nat),(∃m r,n<=m/\m<n+k/\f m=some r/\YCo f k n r0=r)\/(YCo f k n r0=r0/\ ∀m,n<=m->m<n+k->f m=none)
 |0,n=>.inr ⟨rfl,fun m h1 h2=>by omega⟩
 |k+1,n=>by
  simp only[YCo]
  cases hf:f n with
  |some r=>grind
  |none=>
   rcases YaP (f:=f) (r0:=r0) k (n+1)with⟨m,r,h1,h2,h3,h4⟩| ⟨h1,h2⟩
   ·grind
   grind
theorem Yhp(s:ByteArray)(i:Int):0<=YCn s i/\YCn s i<256:=by
 unfold YCn
 have:=(s.data.getD i.toNat 0).toNat_lt
 omega
theorem Yaj{α:Type}{l:List α}{n:Nat}{d:α}(h:n<l.length):l.getD n d∈l:=by
 simp_all
theorem YBf{a b:ByteArray}(hs:a.size=b.size)(h: ∀n:Nat,n<a.size->YCn a n=YCn b n):a=b:=by
 have:a.data=b.data:=by
  apply Array.ext hs
  intro i h1 h2
  have:=h i h1
  rw[YA5]at this
  unfold Array.getD at this
  rw[dif_pos h1,dif_pos h2]at this
  trivial
 cases a;simp_all
theorem Yop{α:Type}{a b:List α}{d:α}(hs:a.length=b.length)(h: ∀n,n<a.length->a.getD n d=b.getD n d):a=b:=by
 apply List.ext_getElem hs
 simp_all
theorem anyN_iff{p:Nat->Bool}: ∀{k n:Nat},anyN p k n=true↔ ∃m,n<=m/\m<n+k/\p m=true
 |0,n=>⟨fun h=>(by cases h),fun⟨m,h1,h2,_⟩=>(by omega)⟩
 |k+1,n=>by
  simp only[anyN,Bool.or_eq_true,anyN_iff (k:=k) (n:=n+1)]
  grind
theorem Yhq{R:Type}{p:Nat->Bool}(hit:Nat->R)(r0:R)(T:R->Bool)(h0:T r0=false)(h1: ∀m,T (hit m)=true): ∀k n,T (YCo (fun m=>bif p m then some (hit m)else none) k n r0)=anyN p k n
 |0,n=>h0
 |k+1,n=>by
  simp only[YCo,anyN]
  cases hp:p n with
  |true=>grind
  |false=>simpa using Yhq hit r0 T h0 h1 k (n+1)
theorem YeV{p:Nat->Bool}(b:Bool)(k n:Nat):YCo (R:=Bool⊕Unit) (fun m=>bif p m then some (.inl b)else none) k n (.inr ())=bif anyN p k n then .inl b else .inr ():=by
 induction k generalizing n with
 |zero=>rfl
 |succ k ih=>
  simp only[YCo,anyN]
  grind
theorem YaQ{α:Type}{l:List α}{n:Nat}{d:α}(h:n<l.length):l.take (n+1)=l.take n++[l.getD n d]:=by
 simp_all
end Go.Abs
namespace Go.Abs.G47
open Go Go.Abs
noncomputable section
theorem YBg{A B C:Type}(b:B)(f:A->Option C)(g:B->Option C):alt2 (.inr b:A⊕B) f g=g b:=rfl
def lt(c:Int):Bool:=decide (97<=c)&&decide (c<=122)||decide (65<=c)&&decide (c<=90)||decide (c=95)
theorem YeW(c:Int):q102 loO c=some (lt c):=by
 unfold q102 lt
 by_cases h1:(97:Int)<=c<;>by_cases h2:c<=(122:Int)<;>by_cases h3:(65:Int)<=c<;>by_cases h4:c<=(90:Int)<;>simp[h1,h2,h3,h4]
def fN(s:ByteArray)(n:Nat):Option (Bool⊕Unit):=
 bif lt (YCn s n)then none else bif decide (n=0)then some (.inl false)else bif decide (YCn s n<48)then some (.inl false)else bif decide ((57:Int)<YCn s n)then some (.inl false)else none
theorem YBh(s:ByteArray)(hs:s.size<=24):Ygt loO (s,(s.size:Int),0)=some (YCo (fN s) s.size 0 (.inr ())):=by
 refine Yak (fun n=>(s,(s.size:Int),(n:Int))) (fN s) s.size (.inr ()) rfl ?_ (fun n hn=> ?_)
 ·simp[Yd8]
 ·have e1:decide ((n:Int)< (s.size:Int))=true:=by simp;omega
  have e2:YHK .i64 ((n:Int)+1)=((n+1:Nat):Int):=by rw[wr6 (by omega) (by omega)];omega
  simp only[Yd8,e1,cond_true,e2]
  rw[chkT _ (by omega)]
  unfold fN lt
  have e3:decide ((n:Int)=0)=decide (n=0):=by simp
  simp only[e3]
  generalize YCn s n=c
  by_cases h1:(97:Int)<=c<;>by_cases h2:c<=(122:Int)<;>by_cases h3:(65:Int)<=c<;>by_cases h4:c<=(90:Int)<;>by_cases h5:c=95<;>by_cases h6:n=0<;>by_cases h7:c<48<;>by_cases h8:(57:Int)<c<;>simp[h1,h2,h3,h4,h5,h6,h7,h8]
def nul:ByteArray:=YHJ #[110,117,108,108]
def YCJ(s:ByteArray):Bool:=
 bif decide (s=YHJ #[])then false else bif decide ((24:Int)< (s.size:Int))then false else bif decide (s=nul)then false else
  match YCo (fN s) s.size 0 (.inr ())with| .inl b=>b| .inr _=>true
theorem Yoq(s:ByteArray):q3 loO s=some (YCJ s):=by
 unfold q3 YCJ nul
 by_cases h1:s=YHJ #[]
 ·simp[h1]
 ·by_cases h2:(24:Int)< (s.size:Int)
  ·simp[h1,h2]
  ·by_cases h3:s=YHJ #[110,117,108,108]
   ·simp[h1,h2,h3]
   ·simp only[h1,h2,h3,decide_false,cond_false]
    rw[YBh s (by omega)]
    simp only[YCm]
    cases YCo (fN s) s.size 0 (.inr ())<;>rfl
def fR(s:ByteArray)(n:Nat):Option (Bool⊕Unit):=
 bif lt (YCn s n)then none else bif decide (YCn s n<48)then some (.inl false)else bif decide ((57:Int)<YCn s n)then some (.inl false)else none
theorem Yor(s:ByteArray)(hs:s.size<=24):Yg5 loO (s,0)=some (YCo (fR s) s.size 0 (.inr ())):=by
 refine Yak (fun n=>(s,(n:Int))) (fR s) s.size (.inr ()) rfl ?_ (fun n hn=> ?_)
 ·simp[YeE]
 ·have e1:decide ((n:Int)< (s.size:Int))=true:=by simp;omega
  have e2:YHK .i64 ((n:Int)+1)=((n+1:Nat):Int):=by rw[wr6 (by omega) (by omega)];omega
  simp only[YeE,e1,cond_true,e2,YeW,YCm]
  rw[chkT _ (by omega)]
  unfold fR
  generalize YCn s n=c
  have h0:(0:Int)<=(n:Int)/\ (n:Int)< (s.size:Int):=by omega
  cases lt c<;>by_cases h7:c<48<;>by_cases h8:(57:Int)<c<;>simp[h7,h8,chkT,h0]
theorem YGj(s:ByteArray):s.size=0↔s=YHJ #[]:=by
 constructor
 ·intro h
  have:s.data= #[]:=Array.eq_empty_of_size_eq_zero h
  cases s;simp_all
 ·intro h;subst h;rfl
theorem Yhr(s:ByteArray):q103 loO s=some (YCJ s):=by
 unfold q103 YCJ nul
 by_cases h1:s=YHJ #[]
 ·subst h1;rfl
 ·have h1':s.size≠0:=fun h=>h1 ((YGj s).1 h)
  by_cases h2:(24:Int)< (s.size:Int)
  ·have: ¬ (s.size:Int)=0:=by omega
   simp[h1,h2,this]
  ·have h0: ¬ (s.size:Int)=0:=by omega
   simp only[h1,h2,h0,decide_false,cond_false,YeW,YCm]
   rw[chkT _ (by omega)]
   have hz:YCn s 0=YCn s ((0:Nat):Int):=rfl
   have hsz:s.size=(s.size-1)+1:=by omega
   cases hl:lt (YCn s 0)with
   |false=>
    have:YCo (fN s) s.size 0 (.inr ())= .inl false:=by
     rw[hsz];simp only[YCo,fN,<-hz,hl];rfl
    rw[this]
    by_cases h3:s=YHJ #[110,117,108,108]<;>simp[h3]
   |true=>
    have:YCo (fN s) s.size 0 (.inr ())=YCo (fR s) s.size 0 (.inr ()):=Yho _ _ (fun m _ _=>by
     unfold fN fR
     by_cases hm:m=0
     ·subst hm;rw[<-hz,hl];rfl
     ·simp[hm])
    rw[this,Yor s (by omega)]
    by_cases h3:s=YHJ #[110,117,108,108]
    ·simp[h3]
    ·simp only[h3,decide_false,cond_false,YHz,YCm]
     cases YCo (fR s) s.size 0 (.inr ())<;>rfl
def idxI(l:List ByteArray)(v:ByteArray):Int:=idxR (fun m=>decide (v=l.getD m (YHJ #[]))) l.length 0
theorem YBi(l:List ByteArray)(v:ByteArray)(hl:l.length<=maxEl):q4 loO l v=some (idxI l v):=by
 have hm:maxEl=1073741824:=rfl
 have:Ygu loO (l,v,(l.length:Int),0)=some (YCo (R:=Int⊕Unit) (fun m=>bif decide (v=l.getD m (YHJ #[]))then some (.inl (m:Int))else none) l.length 0 (.inr ())):=by
  refine Yak (fun n=>(l,v,(l.length:Int),(n:Int))) _ l.length (Sum.inr ()) rfl ?_ (fun n hn=> ?_)
  ·simp[Yd9]
  ·have e1:decide ((n:Int)< (l.length:Int))=true:=by simp;omega
   have e2:YHK .i64 ((n:Int)+1)=((n+1:Nat):Int):=by rw[wr6 (by omega) (by omega)];omega
   simp only[Yd9,e1,cond_true,e2,YHE]
   rw[chkT _ (by omega)]
   cases decide (v=l.getD n (YHJ #[]))<;>rfl
 unfold q4 idxI idxR
 rw[this,YCm]
 cases YCo (R:=Int⊕Unit) (fun m=>bif decide (v=l.getD m (YHJ #[]))then some (.inl (m:Int))else none) l.length 0 (.inr ())<;>rfl
theorem Yhs(l:List ByteArray)(v:ByteArray)(hl:l.length<=maxEl):q5 loO l v=some (decide (0<=idxI l v)):=by
 unfold q5;rw[YBi l v hl];rfl
theorem Ycc(l:List ByteArray)(v:ByteArray)(hl:l.length<=maxEl):q104 loO l v=some (idxI l v):=by
 have hm:maxEl=1073741824:=rfl
 have:Yg6 loO (l,v,0)=some (YCo (R:=Int⊕Unit) (fun m=>bif decide (v=l.getD m (YHJ #[]))then some (.inl (m:Int))else none) l.length 0 (.inr ())):=by
  refine Yak (fun n=>(l,v,(n:Int))) _ l.length (Sum.inr ()) rfl ?_ (fun n hn=> ?_)
  ·simp[YeF]
  ·have e1:decide ((n:Int)< (l.length:Int))=true:=by simp;omega
   have e2:YHK .i64 ((n:Int)+1)=((n+1:Nat):Int):=by rw[wr6 (by omega) (by omega)];omega
   have e3:decide (l.getD n (YHJ #[])=v)=decide (v=l.getD n (YHJ #[])):=by simp only[eq_comm]
   simp only[YeF,e1,cond_true,e2,YHE,e3]
   rw[chkT _ (by omega)]
   cases decide (v=l.getD n (YHJ #[]))<;>rfl
 unfold q104 idxI idxR
 rw[this,YCm]
 cases YCo (R:=Int⊕Unit) (fun m=>bif decide (v=l.getD m (YHJ #[]))then some (.inl (m:Int))else none) l.length 0 (.inr ())<;>rfl
def vB(v:Int×Int×ByteArray):Bool:=(q6 loO v.1 v.2.1 v.2.2).getD false
theorem Yc9(a b:Int)(c:ByteArray):q6 loO a b c=some (vB (a,b,c)):=by
 unfold vB q6
 by_cases h0:a=0<;>by_cases h1:a=1<;>by_cases h2:a=2<;>by_cases h3:a=3<;>by_cases h4:b=0<;>by_cases h5:1<=b<;>simp[h0,h1,h2,h3,h4,h5]
theorem YBj(a b:Int)(c:ByteArray):q106 loO a b c=some (vB (a,b,c)):=Yc9 a b c
abbrev zV:Int×Int×ByteArray:=(0,0,YHJ #[])
def vsB(l:Vals):Bool:= !anyN (fun m=> !vB (l.getD m zV)) l.length 0
theorem YBk(l:Vals)(hl:l.length<=maxEl):q10 loO l=some (vsB l):=by
 have hm:maxEl=1073741824:=rfl
 have:Ygv loO (l,(l.length:Int),0)=some (YCo (R:=Int⊕Unit) (fun m=>bif !vB (l.getD m zV)then some (.inl (m:Int))else none) l.length 0 (.inr ())):=by
  refine Yak (fun n=>(l,(l.length:Int),(n:Int))) _ l.length (Sum.inr ()) rfl ?_ (fun n hn=> ?_)
  ·simp[Yea]
  ·have e1:decide ((n:Int)< (l.length:Int))=true:=by simp;omega
   have e2:YHK .i64 ((n:Int)+1)=((n+1:Nat):Int):=by rw[wr6 (by omega) (by omega)];omega
   simp only[Yea,e1,cond_true,e2,YHE,q7,Yc9,YCm]
   rw[chkT _ (by omega)]
   cases vB (l.getD n zV)<;>rfl
 have h2:q8 loO l=some (idxR (fun m=> !vB (l.getD m zV)) l.length 0):=by
  unfold q8 idxR
  rw[this,YCm]
  cases YCo (R:=Int⊕Unit) (fun m=>bif !vB (l.getD m zV)then some (.inl (m:Int))else none) l.length 0 (.inr ())<;>rfl
 unfold q10 q9 vsB
 rw[h2,YCm,YCm,Yc8]
def fA(l:List ByteArray)(n:Nat):Bool:= !YCJ (l.getD n (YHJ #[]))||decide (0<=idxI (l.take n) (l.getD n (YHJ #[])))
abbrev zR:Int×Vals:=(0,[])
def YD3(rows:Rws):Nat->Int
 |0=>0
 |n+1=>(rows.getD n zR).1
def fV(attrs:List ByteArray)(rows:Rws)(n:Nat):Option (Int⊕Unit):=
 bif decide ((rows.getD n zR).1<=YD3 rows n)then some (.inl 1)else bif !decide (((rows.getD n zR).2.length:Int)=(attrs.length:Int))then some (.inl 6)else bif !vsB (rows.getD n zR).2 then some (.inl 1)else none
def YC1(nm:ByteArray)(attrs:List ByteArray)(rows:Rws):Int:=
 bif !YCJ nm then 1 else bif decide ((16:Int)< (attrs.length:Int))then 3 else bif decide ((1000:Int)< (rows.length:Int))then 3 else bif anyN (fA attrs) attrs.length 0 then 1 else
  match YCo (fV attrs rows) rows.length 0 (.inr ())with| .inl i=>i| .inr _=>0
theorem YGk(nm:ByteArray)(attrs:List ByteArray)(rows:Rws):q11 loO nm attrs rows=some (YC1 nm attrs rows):=by
 have hm:maxEl=1073741824:=rfl
 unfold q11 YC1
 rw[Yoq,YCm]
 cases YCJ nm with
 |false=>rfl
 |true=>
  by_cases h1:(16:Int)< (attrs.length:Int)
  ·simp[h1]
  ·by_cases h2:(1000:Int)< (rows.length:Int)
   ·simp[h1,h2]
   ·simp only[h1,h2,decide_false,cond_false,YHz]
    have e20:Ygw loO (attrs,(attrs.length:Int),0,nm,attrs,rows)=some (YCo (R:=Int⊕ (ByteArray×List ByteArray×Rws)) (fun m=>bif fA attrs m then some (.inl 1)else none) attrs.length 0 (.inr (nm,attrs,rows))):=by
     refine Yak (fun n=>(attrs,(attrs.length:Int),(n:Int),nm,attrs,rows)) _ attrs.length _ rfl ?_ (fun n hn=> ?_)
     ·simp[Yeb]
     ·have e1:decide ((n:Int)< (attrs.length:Int))=true:=by simp;omega
      have e2:YHK .i64 ((n:Int)+1)=((n+1:Nat):Int):=by rw[wr6 (by omega) (by omega)];omega
      simp only[Yeb,e1,cond_true,e2,YHE,Yoq,YCm,YG3]
      rw[chkT _ (by omega),chkT _ (by omega),Yhs _ _ (by simp;omega),YCm]
      unfold fA
      cases YCJ (attrs.getD n (YHJ #[]))<;>cases decide (0<=idxI (attrs.take n) (attrs.getD n (YHJ #[])))<;>rfl
    rw[e20,YCm]
    have hsc: ∀k n,YCo (R:=Int⊕ (ByteArray×List ByteArray×Rws)) (fun m=>bif fA attrs m then some (.inl 1)else none) k n (.inr (nm,attrs,rows))=bif anyN (fA attrs) k n then .inl 1 else .inr (nm,attrs,rows):=by
     intro k
     induction k with
     |zero=>intro n;rfl
     |succ k ih=>intro n;simp only[YCo,anyN];cases fA attrs n with
      |true=>rfl
      |false=>simpa using ih (n+1)
    rw[hsc]
    cases anyN (fA attrs) attrs.length 0 with
    |true=>rfl
    |false=>
     simp only[cond_false,alt2]
     have e3:Ygx loO (0,rows,(rows.length:Int),0,nm,attrs,rows)=some (YCo (fV attrs rows) rows.length 0 (.inr ())):=by
      refine Yak (fun n=>(YD3 rows n,rows,(rows.length:Int),(n:Int),nm,attrs,rows)) _ rows.length _ rfl ?_ (fun n hn=> ?_)
      ·simp[Yec]
      ·have e1:decide ((n:Int)< (rows.length:Int))=true:=by simp;omega
       have e2:YHK .i64 ((n:Int)+1)=((n+1:Nat):Int):=by rw[wr6 (by omega) (by omega)];omega
       simp only[Yec,e1,cond_true,e2,YHE]
       rw[chkT _ (by omega)]
       unfold fV
       by_cases g1:(rows.getD n zR).1<=YD3 rows n
       ·simp only[g1,decide_true,cond_true]
       ·by_cases g2:((rows.getD n zR).2.length:Int)=(attrs.length:Int)
        ·simp only[g1,g2,decide_false,decide_true,cond_false,YHz]
         rw[YBk _ (show(rows.getD n zR).2.length<=maxEl by omega),YCm]
         cases vsB (rows.getD n zR).2<;>rfl
        ·simp only[g1,g2,decide_false,cond_false,YHA,cond_true]
     rw[e3,YCm]
     cases YCo (fV attrs rows) rows.length 0 (.inr ())<;>rfl
end
end Go.Abs.G47
namespace Go.Abs.G47
open Go Go.Abs
noncomputable section
theorem inc{n N:Nat}(h:n<N)(hN:N<=maxEl):YHK .i64 ((n:Int)+1)=((n+1:Nat):Int):=by
 have hm:maxEl=1073741824:=rfl
 rw[wr6 (by omega) (by omega)];omega
theorem ltI{n N:Nat}(h:n<N):decide ((n:Int)< (N:Int))=true:=by simp_all
theorem nlI(N:Nat):decide ((N:Int)< (N:Int))=false:=by simp
abbrev zT:Tabl:=(YHJ #[],[],[])
abbrev zA:Atom:=(YHJ #[],[])
abbrev zM:Term:=(YHJ #[],0,0,YHJ #[])
abbrev nul0:ByteArray:=YHJ #[]
def tabP(db:List Tabl)(nm:ByteArray)(n:Nat):Bool:=decide ((db.getD n zT).1=nm)
def tabI(db:List Tabl)(nm:ByteArray):Int:=idxR (tabP db nm) db.length 0
theorem Yos(db:List Tabl)(nm:ByteArray)(h:db.length<=maxEl):q14 loO db nm=some (tabI db nm):=by
 have:Ygy loO (db,(db.length:Int),0,nm)=some (YCo (R:=(Int×ByteArray)⊕ByteArray) (fun m=>bif tabP db nm m then some (.inl ((m:Int),nm))else none) db.length 0 (.inr nm)):=by
  refine Yak (fun n=>(db,(db.length:Int),(n:Int),nm)) _ db.length _ rfl ?_ (fun n hn=> ?_)
  ·simp[Yed]
  ·simp only[Yed,ltI hn,cond_true,inc hn h,YHE,q12,YCm]
   rw[chkT _ (by omega)]
   unfold tabP
   grind
 unfold q14 q13
 rw[this,YCm]
 unfold tabI idxR
 have key: ∀k n,(match YCo (R:=(Int×ByteArray)⊕ByteArray) (fun m=>bif tabP db nm m then some (.inl ((m:Int),nm))else none) k n (.inr nm)with| .inl i=>Sum.inl (β:=Unit) i.1| .inr _=>.inr ())=YCo (R:=Int⊕Unit) (fun m=>bif tabP db nm m then some (.inl (m:Int))else none) k n (.inr ()):=by
  intro k
  induction k with
  |zero=>intro n;rfl
  |succ k ih=>intro n;simp only[YCo];grind
 rw[<-key]
 cases YCo (R:=(Int×ByteArray)⊕ByteArray) (fun m=>bif tabP db nm m then some (.inl ((m:Int),nm))else none) db.length 0 (.inr nm)<;>rfl
def tabO(db:List Tabl)(nm:ByteArray):Tabl:=bif decide (0<=tabI db nm)then db.getD (tabI db nm).toNat zT else zT
theorem Yda{p:Nat->Bool}: ∀{k n:Nat},(∃m,n<=m/\m<n+k/\p m=true/\idxR p k n=(m:Int))\/(idxR p k n= -1/\ ∀m,n<=m->m<n+k->p m=false)
 |0,n=>.inr ⟨rfl,fun m h1 h2=>by omega⟩
 |k+1,n=>by
  cases hp:p n with
  |true=>exact .inl ⟨n,YHf _,by omega,hp,by unfold idxR;simp[YCo,hp]⟩
  |false=>
   have e:idxR p (k+1) n=idxR p k (n+1):=by unfold idxR;simp[YCo,hp]
   rcases Yda (p:=p) (k:=k) (n:=n+1)with⟨m,h1,h2,h3,h4⟩| ⟨h1,h2⟩
   ·grind
   grind
theorem YGl(db:List Tabl)(nm:ByteArray)(h:db.length<=maxEl):q25 loO db nm=some ((tabO db nm).1,(tabO db nm).2.1,(tabO db nm).2.2,decide (0<=tabI db nm)):=by
 have:YgA loO (nm,db,(db.length:Int),0,nul0,[],[])=some (YCo (R:=(Bool×Tabl)⊕Tabl) (fun m=>bif tabP db nm m then some (.inl (true,db.getD m zT))else none) db.length 0 (.inr zT)):=by
  refine Yak (fun n=>(nm,db,(db.length:Int),(n:Int),nul0,[],[])) _ db.length _ rfl ?_ (fun n hn=> ?_)
  ·simp[Yef]
  ·simp only[Yef,ltI hn,cond_true,inc hn h,YHE]
   rw[chkT _ (by omega)]
   unfold tabP
   grind
 unfold q25
 rw[this,YCm]
 have key: ∀k n,YCo (R:=(Bool×Tabl)⊕Tabl) (fun m=>bif tabP db nm m then some (.inl (true,db.getD m zT))else none) k n (.inr zT)=bif decide (0<=idxR (tabP db nm) k n)then .inl (true,db.getD (idxR (tabP db nm) k n).toNat zT)else .inr zT:=by
  intro k
  induction k with
  |zero=>intro n;rfl
  |succ k ih=>
   intro n
   cases hp:tabP db nm n with
   |true=>unfold idxR;simp[YCo,hp]
   |false=>
    have e:idxR (tabP db nm) (k+1) n=idxR (tabP db nm) k (n+1):=by unfold idxR;simp[YCo,hp]
    rw[e,<-ih (n+1)]
    simp[YCo,hp]
 rw[key]
 unfold tabO tabI
 cases decide (0<=idxR (tabP db nm) db.length 0)<;>rfl
def fD(db:List Tabl)(n:Nat):Option (Int⊕Unit):=
 bif !decide (YC1 (db.getD n zT).1 (db.getD n zT).2.1 (db.getD n zT).2.2=0)then some (.inl (YC1 (db.getD n zT).1 (db.getD n zT).2.1 (db.getD n zT).2.2))else bif decide (0<=tabI (db.take n) (db.getD n zT).1)then some (.inl 5)else none
def dbI(db:List Tabl):Int:=bif decide ((50:Int)< (db.length:Int))then 3 else match YCo (fD db) db.length 0 (.inr ())with| .inl i=>i| .inr _=>0
theorem YBl(db:List Tabl):q15 loO db=some (dbI db):=by
 have hm:maxEl=1073741824:=rfl
 unfold q15 dbI
 by_cases h:(50:Int)< (db.length:Int)
 ·simp[h]
 ·have hl:db.length<=maxEl:=by omega
  simp only[h,decide_false,cond_false]
  have:Ygz loO (db,(db.length:Int),0,db)=some (YCo (fD db) db.length 0 (.inr ())):=by
   refine Yak (fun n=>(db,(db.length:Int),(n:Int),db)) _ db.length _ rfl ?_ (fun n hn=> ?_)
   ·simp[Yee]
   ·simp only[Yee,ltI hn,cond_true,inc hn hl,YHE,YGk,YCm,YG3]
    rw[chkT _ (by omega),chkT _ (by omega),Yos _ _ (by grind),YCm]
    unfold fD
    grind
  rw[this,YCm]
  cases YCo (fD db) db.length 0 (.inr ())<;>rfl
theorem YBm(nm:ByteArray)(attrs:List ByteArray)(rows:Rws):YC1 nm attrs rows≠4:=by
 unfold YC1
 cases YCJ nm with
 |false=>simp
 |true=>
  cases decide ((16:Int)< (attrs.length:Int))with
  |true=>simp
  |false=>
   cases decide ((1000:Int)< (rows.length:Int))with
   |true=>simp
   |false=>
    cases anyN (fA attrs) attrs.length 0 with
    |true=>simp
    |false=>
     rcases YaP (f:=fV attrs rows) (r0:=.inr ()) rows.length 0 with⟨m,r,_,_,h3,h4⟩| ⟨h1,_⟩
     ·unfold fV at h3
      grind
     simp_all
theorem YBn(db:List Tabl):dbI db≠4:=by
 unfold dbI
 cases decide ((50:Int)< (db.length:Int))with
 |true=>simp
 |false=>
  rcases YaP (f:=fD db) (r0:=.inr ()) db.length 0 with⟨m,r,_,_,h3,h4⟩| ⟨h1,_⟩
  ·rw[h4]
   unfold fD at h3
   cases hv:decide (YC1 (db.getD m zT).1 (db.getD m zT).2.1 (db.getD m zT).2.2=0)with
   |false=>rw[hv]at h3;injection h3 with h3;subst h3;exact YBm _ _ _
   |true=>
    grind
  simp_all
theorem Yht{db:List Tabl}(h:dbI db=0):db.length<=50/\ ∀n,n<db.length->YC1 (db.getD n zT).1 (db.getD n zT).2.1 (db.getD n zT).2.2=0:=by
 unfold dbI at h
 by_cases h50:(50:Int)< (db.length:Int)
 ·simp_all
 ·refine⟨by omega,?_⟩
  rcases YaP (f:=fD db) (r0:=.inr ()) db.length 0 with⟨m,r,_,h2,h3,h4⟩| ⟨h1,hn⟩
  ·unfold fD at h3
   grind
  ·intro n hl
   have:=hn n (YHo _) (by omega)
   unfold fD at this
   grind
theorem YBo{nm:ByteArray}{attrs:List ByteArray}{rows:Rws}(h:YC1 nm attrs rows=0):YCJ nm=true:=by
 unfold YC1 at h
 grind
theorem YBp{db:List Tabl}(h:dbI db=0):tabI db nul0= -1:=by
 rcases Yda (p:=tabP db nul0) (k:=db.length) (n:=0)with⟨m,_,h2,h3,_⟩| ⟨h1,_⟩
 ·exfalso
  have:=YBo ((Yht h).2 m (by omega))
  rw[of_decide_eq_true (show decide ((db.getD m zT).1=nul0)=true from h3)]at this
  trivial
 trivial
theorem YBq(db:List Tabl):q24 loO db nul0 [] nul0 []=some (bif !decide (dbI db=0)then dbI db else 4):=by
 have hm:maxEl=1073741824:=rfl
 unfold q24
 rw[YBl,YCm]
 by_cases h:dbI db=0
 ·have hl:=(Yht h).1
  simp only[h,decide_true,YHz,cond_false]
  unfold q23
  rw[Yos _ _ (by omega),YCm,YCm,YBp h];rfl
 simp_all
theorem lexL(c:Int):q26 loO c=some (lt c):=YeW c
theorem lexD(c:Int):q27 loO c=some (decide (48<=c)&&decide (c<=57)):=by
 unfold q27
 grind
theorem YBr(s:ByteArray)(hs:s.size<=24):YgB loO (s,(s.size:Int),0)=some (YCo (fR s) s.size 0 (.inr ())):=by
 have hm:maxEl=1073741824:=rfl
 refine Yak (fun n=>(s,(s.size:Int),(n:Int))) (fR s) s.size (.inr ()) rfl ?_ (fun n hn=> ?_)
 ·simp[Yeg]
 ·simp only[Yeg,ltI hn,cond_true,inc hn (show s.size<=maxEl by omega),lexL,lexD,YCm]
  rw[chkT _ (by omega),chkT _ (by omega)]
  unfold fR
  grind
theorem lexN(s:ByteArray):q28 loO s=some (YCJ s):=by
 rw[<-Yhr]
 unfold q28 q103
 by_cases h1:s=YHJ #[]
 ·subst h1;rfl
 ·have h1':s.size≠0:=fun h=>h1 ((YGj s).1 h)
  have h0: ¬ (s.size:Int)=0:=by omega
  by_cases h2:(24:Int)< (s.size:Int)
  ·simp_all
  ·by_cases h3:s=YHJ #[110,117,108,108]
   ·subst h3
    rfl
   ·simp only[h1,h2,h3,h0,decide_false,cond_false,lexL,YeW,YCm]
    rw[chkT _ (by omega),chkT _ (by omega),YBr s (by omega),Yor s (by omega),YCm]
def YCQ(t:Term):Bool:=bif !decide (t.1=nul0)then YCJ t.1&& (decide (t.2.1=0)&& (decide (t.2.2.1=0)&& (decide (t.2.2.2=nul0)&&true)))else vB t.2
theorem YGm(t:Term):q29 loO t.1 t.2.1 t.2.2.1 t.2.2.2=some (YCQ t):=by
 unfold q29 YCQ
 rw[lexN,Yc9,YCm,YCm]
 grind
theorem YGC(t:Term):q111 loO t.1 t.2.1 t.2.2.1 t.2.2.2=some (YCQ t):=by
 unfold q111 YCQ
 rw[Yhr,YBj,YCm,YCm]
 grind
def badT(l:List Term):Bool:=anyN (fun m=> !YCQ (l.getD m zM)) l.length 0
theorem YGn(l:List Term)(h:l.length<=maxEl):q32 loO l=some (badT l):=by
 have:YgC loO (l,(l.length:Int),0)=some (YCo (R:=Int⊕Unit) (fun m=>bif !YCQ (l.getD m zM)then some (.inl (m:Int))else none) l.length 0 (.inr ())):=by
  refine Yak (fun n=>(l,(l.length:Int),(n:Int))) _ l.length _ rfl ?_ (fun n hn=> ?_)
  ·simp[Yeh]
  ·simp only[Yeh,ltI hn,cond_true,inc hn h,YHE,q30]
   rw[chkT _ (by omega),YGm,YCm,YCm]
   grind
 unfold q32 q31 badT
 rw[this,YCm,<-Yc8]
 unfold idxR
 cases YCo (R:=Int⊕Unit) (fun m=>bif !YCQ (l.getD m zM)then some (.inl (m:Int))else none) l.length 0 (.inr ())<;>rfl
theorem YGo(nm:ByteArray)(l:List Term)(h:l.length<=maxEl):q112 loO nm l=some (!badT l):=by
 have:Yg7 loO (0,nm,l)=some (YCo (R:=Bool⊕Unit) (fun m=>bif !YCQ (l.getD m zM)then some (.inl false)else none) l.length 0 (.inr ())):=by
  refine Yak (fun n=>((n:Int),nm,l)) _ l.length _ rfl ?_ (fun n hn=> ?_)
  ·simp[YeG]
  ·simp only[YeG,ltI hn,cond_true,inc hn h,YHE]
   rw[chkT _ (by omega),YGC,YCm]
   grind
 unfold q112 badT
 rw[this,YCm,YeV]
 cases anyN (fun m=> !YCQ (l.getD m zM)) l.length 0<;>rfl
def addV(out:List ByteArray)(v:ByteArray):List ByteArray:=bif !decide (v=nul0)&&decide (idxI out v<0)then out++[v]else out
def YCU(out:List ByteArray)(l:List Term):List ByteArray:=l.foldl (fun o t=>addV o t.1) out
def YCw(out:List ByteArray)(l:List Atom):List ByteArray:=l.foldl (fun o a=>YCU o a.2) out
theorem YBs(out:List ByteArray)(v:ByteArray):(addV out v).length<=out.length+1:=by
 unfold addV
 grind
theorem YeX: ∀(l:List Term) (out:List ByteArray),(YCU out l).length<=out.length+l.length
 | [],out=>by simp[YCU]
 |t::l,out=>by
  have h1:=YeX l (addV out t.1)
  have h2:=YBs out t.1
  simp only[YCU,List.foldl_cons,YG2]at h1⊢
  omega
def sumT(l:List Atom):Nat:=(l.map fun a=>a.2.length).sum
theorem Ycd: ∀(l:List Atom) (out:List ByteArray),(YCw out l).length<=out.length+sumT l
 | [],out=>by simp[YCw,sumT]
 |a::l,out=>by
  have h1:=Ycd l (YCU out a.2)
  have h2:=YeX a.2 out
  simp only[YCw,sumT,List.foldl_cons,YGK,List.sum_cons]at h1⊢
  omega
theorem Yce{α β:Type}(f:β->α->β)(b:β){l:List α}{n:Nat}{d:α}(h:n<l.length):(l.take (n+1)).foldl f b=f ((l.take n).foldl f b) (l.getD n d):=by
 rw[YaQ (d:=d) h,List.foldl_append];rfl
theorem YBt{l:List Nat}: ∀(n:Nat),(l.take n).sum<=l.sum:=by
 induction l with
 |nil=>simp
 |cons a r ih=>
  intro n
  cases n with
  |zero=>simp
  |succ n=>simp_all
theorem YBu(l:List Atom)(n:Nat):sumT (l.take n)<=sumT l:=by
 unfold sumT;rw[List.map_take];exact YBt n
theorem Ybq{l:List Atom}{n:Nat}(h:n<l.length):sumT (l.take n)+(l.getD n zA).2.length<=sumT l:=by
 have:=YBu l (n+1)
 rw[YaQ (d:=zA) h]at this
 unfold sumT at this⊢
 grind
theorem YGp(l:List Atom)(h:l.length<=maxEl)(h2:sumT l<=maxEl):q113 loO l=some (YCw [] l):=by
 have inner: ∀(i:Nat) (out:List ByteArray),i<l.length->out.length<=sumT (l.take i)->Yg8 loO (l,(i:Int),0,out)=some (l,(i:Int),YCU out (l.getD i zA).2):=by
  intro i out hi ho
  have hb:=Ybq hi
  refine Yan (st:=fun n=>(l,(i:Int),(n:Int),YCU out ((l.getD i zA).2.take n))) (N:=(l.getD i zA).2.length) rfl ?_ (fun n hn=> ?_)
  ·simp only[YeH,YHE,nlI,cond_false,YGV]
   rw[chkT _ (by omega)]
  ·have ht:=YeX ((l.getD i zA).2.take n) out
   rw[List.length_take,Nat.min_eq_left (by omega)]at ht
   simp only[YeH,YHE,ltI hn,cond_true,inc hn (show(l.getD i zA).2.length<=maxEl by omega)]
   rw[chkT _ (by omega),chkT _ (by omega),chkT _ ⟨by omega,Int.ofNat_lt.2 hn⟩,Ycc _ _ (by omega),YCm]
   have e:YCU out ((l.getD i zA).2.take (n+1))=addV (YCU out ((l.getD i zA).2.take n)) ((l.getD i zA).2.getD n zM).1:=Yce (fun o (t:Term)=>addV o t.1) out (d:=zM) hn
   rw[e]
   rw[chkT _ (by grind)]
   unfold addV
   grind
 have outer:Yg9 loO (l,0,[])=some (YCw [] l):=by
  refine Yan (st:=fun n=>(l,(n:Int),YCw [] (l.take n))) (N:=l.length) rfl ?_ (fun n hn=> ?_)
  ·simp only[YeI,nlI,cond_false,YGV]
  ·have hl:=Ycd (l.take n) []
   simp at hl
   simp only[YeI,ltI hn,cond_true]
   rw[inner n _ hn hl,YCm]
   simp only[inc hn h]
   have e:YCw [] (l.take (n+1))=YCU (YCw [] (l.take n)) (l.getD n zA).2:=Yce (fun o (a:Atom)=>YCU o a.2) [] (d:=zA) hn
   rw[e]
 unfold q113
 simp_all
def inL(l:List ByteArray)(v:ByteArray):Bool:=l.any fun w=>decide (v=w)
theorem inL_iff{l:List ByteArray}{v:ByteArray}:inL l v=true↔v∈l:=by
 unfold inL;simp
theorem Ydb(l:List ByteArray)(v:ByteArray):decide (0<=idxI l v)=inL l v:=by
 unfold idxI
 rw[Yc8,YHB,anyN_iff,inL_iff]
 constructor
 ·simp_all
 ·intro h
  obtain⟨m,hm,e⟩:=YG7.1 h
  exact⟨m,YHo _,by omega,by simp_all⟩
theorem YeY(l:List ByteArray)(v:ByteArray):decide (idxI l v<0)= !inL l v:=by
 rw[<-Ydb];grind
theorem YBv(out:List ByteArray)(w v:ByteArray):v∈addV out w↔v∈out\/(v≠nul0/\w=v):=by
 unfold addV
 rw[YeY]
 by_cases h1:w=nul0
 ·grind
 ·by_cases h2:w∈out
  ·grind
  ·have h3:inL out w=false:=by rw[<-YHD,inL_iff];exact h2
   grind
theorem Yot: ∀(l:List Term) (out:List ByteArray) (v:ByteArray),v∈YCU out l↔v∈out\/(v≠nul0/\ ∃t∈l,t.1=v)
 | [],out,v=>by simp[YCU]
 |t::l,out,v=>by
  have:=Yot l (addV out t.1) v
  simp only[YCU,List.foldl_cons]at this⊢
  rw[this,YBv]
  grind
theorem YeZ: ∀(l:List Atom) (out:List ByteArray) (v:ByteArray),v∈YCw out l↔v∈out\/(v≠nul0/\ ∃a∈l,∃t∈a.2,t.1=v)
 | [],out,v=>by simp[YCw]
 |a::l,out,v=>by
  have:=YeZ l (YCU out a.2) v
  simp only[YCw,List.foldl_cons]at this⊢
  rw[this,Yot]
  simp
  constructor
  ·rintro((h| ⟨h1,h2⟩)| ⟨h1,h2⟩)
   ·simp_all
   ·simp_all
   simp_all
  ·rintro(h| ⟨h1,h2|h2⟩)
   ·simp_all
   ·simp_all
   simp_all
def fHd(hd:List ByteArray)(at':List Atom)(n:Nat):Bool:=inL (YCw [] at') (hd.getD n nul0)&& !inL (hd.take n) (hd.getD n nul0)
def YDQ(hd:List ByteArray)(at':List Atom):Bool:= !anyN (fun m=> !fHd hd at' m) hd.length 0
theorem YGD(l:List Term)(v:ByteArray)(h:l.length<=maxEl):q35 loO l v=some (anyN (fun m=>decide ((l.getD m zM).1=v)) l.length 0,v):=by
 have:YgD loO (l,(l.length:Int),0,v)=some (YCo (R:=(Int×ByteArray)⊕ByteArray) (fun m=>bif decide ((l.getD m zM).1=v)then some (.inl ((m:Int),v))else none) l.length 0 (.inr v)):=by
  refine Yak (fun n=>(l,(l.length:Int),(n:Int),v)) _ l.length _ rfl ?_ (fun n hn=> ?_)
  ·simp[Yei]
  ·simp only[Yei,ltI hn,cond_true,inc hn h,YHE,q33,YCm]
   rw[chkT _ (by omega)]
   grind
 unfold q35 q34
 rw[this,YCm]
 have k1:=Yhq (R:=(Int×ByteArray)⊕ByteArray) (p:=fun m=>decide ((l.getD m zM).1=v)) (fun m=>.inl ((m:Int),v)) (.inr v) (fun r=>match r with| .inl i=>decide (0<=i.1)| .inr _=>false) rfl (fun m=>by simp) l.length 0
 have k2: ∀k n,(match YCo (R:=(Int×ByteArray)⊕ByteArray) (fun m=>bif decide ((l.getD m zM).1=v)then some (.inl ((m:Int),v))else none) k n (.inr v)with| .inl i=>i.2| .inr b=>b)=v:=by
  intro k
  induction k with
  |zero=>intro n;rfl
  |succ k ih=>intro n;simp only[YCo];grind
 have k2:=k2 l.length 0
 rw[<-k1]
 revert k2
 cases YCo (R:=(Int×ByteArray)⊕ByteArray) (fun m=>bif decide ((l.getD m zM).1=v)then some (.inl ((m:Int),v))else none) l.length 0 (.inr v)with
 |inl i=>intro k2;subst k2;rfl
 |inr b=>intro k2;subst k2;rfl
theorem YGE(l:List Atom)(v:ByteArray)(h:l.length<=maxEl)(h2:sumT l<=maxEl):q38 loO l v=some (anyN (fun m=>anyN (fun k=>decide (((l.getD m zA).2.getD k zM).1=v)) (l.getD m zA).2.length 0) l.length 0,v):=by
 have:YgE loO (l,(l.length:Int),0,v)=some (YCo (R:=(Int×ByteArray)⊕ByteArray) (fun m=>bif anyN (fun k=>decide (((l.getD m zA).2.getD k zM).1=v)) (l.getD m zA).2.length 0 then some (.inl ((m:Int),v))else none) l.length 0 (.inr v)):=by
  refine Yak (fun n=>(l,(l.length:Int),(n:Int),v)) _ l.length _ rfl ?_ (fun n hn=> ?_)
  ·simp[Yej]
  ·have:=Ybq hn
   have hg:(l.getD n zA).2.length<=maxEl:=by omega
   simp only[Yej,ltI hn,cond_true,inc hn h,YHE,q36]
   rw[chkT _ (by omega),YGD _ _ hg,YCm,YCm]
   grind
 unfold q38 q37
 rw[this,YCm]
 have k1:=Yhq (R:=(Int×ByteArray)⊕ByteArray) (p:=fun m=>anyN (fun k=>decide (((l.getD m zA).2.getD k zM).1=v)) (l.getD m zA).2.length 0) (fun m=>.inl ((m:Int),v)) (.inr v) (fun r=>match r with| .inl i=>decide (0<=i.1)| .inr _=>false) rfl (fun m=>by simp) l.length 0
 have k2: ∀k n,(match YCo (R:=(Int×ByteArray)⊕ByteArray) (fun m=>bif anyN (fun k=>decide (((l.getD m zA).2.getD k zM).1=v)) (l.getD m zA).2.length 0 then some (.inl ((m:Int),v))else none) k n (.inr v)with| .inl i=>i.2| .inr b=>b)=v:=by
  intro k
  induction k with
  |zero=>intro n;rfl
  |succ k ih=>intro n;simp only[YCo];grind
 have k2:=k2 l.length 0
 rw[<-k1]
 revert k2
 cases YCo (R:=(Int×ByteArray)⊕ByteArray) (fun m=>bif anyN (fun k=>decide (((l.getD m zA).2.getD k zM).1=v)) (l.getD m zA).2.length 0 then some (.inl ((m:Int),v))else none) l.length 0 (.inr v)with
 |inl i=>intro k2;subst k2;rfl
 |inr b=>intro k2;subst k2;rfl
theorem YbO{α:Type}(p:α->Bool)(l:List α)(d:α):anyN (fun m=>p (l.getD m d)) l.length 0=l.any p:=by
 rw[YHB,anyN_iff,List.any_eq_true]
 constructor
 ·grind
 ·rintro⟨x,hx,h3⟩
  obtain⟨m,hm,e⟩:=YG7.1 hx
  refine⟨m,YHo _,by omega,?_⟩
  simp_all
theorem occ(l:List Atom)(v:ByteArray):(!decide (v=nul0)&&anyN (fun m=>anyN (fun k=>decide (((l.getD m zA).2.getD k zM).1=v)) (l.getD m zA).2.length 0) l.length 0)=inL (YCw [] l) v:=by
 have e1:anyN (fun m=>anyN (fun k=>decide (((l.getD m zA).2.getD k zM).1=v)) (l.getD m zA).2.length 0) l.length 0=l.any (fun a=>a.2.any fun t=>decide (t.1=v)):=by
  rw[<-YbO (fun a=>a.2.any fun t=>decide (t.1=v)) l zA]
  congr 1;funext m
  exact YbO (fun t=>decide (t.1=v)) (l.getD m zA).2 zM
 rw[e1,YHB,inL_iff,YeZ]
 simp
theorem YGq(hd:List ByteArray)(l:List Atom)(hh:hd.length<=maxEl)(h:l.length<=maxEl)(h2:sumT l<=maxEl):q39 loO hd l=some (YDQ hd l):=by
 have:YgF loO (hd,(hd.length:Int),0,hd,l)=some (YCo (R:=Bool⊕Unit) (fun m=>bif !fHd hd l m then some (.inl false)else none) hd.length 0 (.inr ())):=by
  refine Yak (fun n=>(hd,(hd.length:Int),(n:Int),hd,l)) _ hd.length _ rfl ?_ (fun n hn=> ?_)
  ·simp[Yek]
  ·simp only[Yek,ltI hn,cond_true,inc hn hh,YHE,YG3]
   rw[chkT _ (by omega),chkT _ (by omega),Yhs _ _ (by grind),YCm,YGE _ _ h h2,YCm]
   unfold fHd
   rw[<-occ,Ydb]
   grind
 unfold q39 YDQ
 rw[this,YCm,YeV]
 cases anyN (fun m=> !fHd hd l m) hd.length 0<;>rfl
theorem YGF(hd:List ByteArray)(l:List Atom)(hh:hd.length<=maxEl)(h:l.length<=maxEl)(h2:sumT l<=maxEl):q114 loO hd l=some (YDQ hd l):=by
 have hv:=Ycd l []
 simp at hv
 have:Yha loO (YCw [] l,0,hd,l)=some (YCo (R:=Bool⊕Unit) (fun m=>bif !fHd hd l m then some (.inl false)else none) hd.length 0 (.inr ())):=by
  refine Yak (fun n=>(YCw [] l,(n:Int),hd,l)) _ hd.length _ rfl ?_ (fun n hn=> ?_)
  ·simp[YeJ]
  ·simp only[YeJ,ltI hn,cond_true,inc hn hh,YHE,YG3]
   rw[chkT _ (by omega),chkT _ (by omega),chkT _ (by omega),Ycc _ _ (by omega),YCm,Ycc _ _ (by grind),YCm]
   unfold fHd
   rw[YeY,Ydb]
   grind
 unfold q114 YDQ
 rw[YGp l h h2,YCm,this,YCm,YeV]
 cases anyN (fun m=> !fHd hd l m) hd.length 0<;>rfl
def fQ(db:List Tabl)(l:List Atom)(n:Nat):Option (Int⊕Unit):=
 bif !decide (0<=tabI db (l.getD n zA).1)then some (.inl 4)else bif !decide (((tabO db (l.getD n zA).1).2.1.length:Int)=((l.getD n zA).2.length:Int))then some (.inl 6)else bif badT (l.getD n zA).2 then some (.inl 1)else none
def qI(db:List Tabl)(hd:List ByteArray)(l:List Atom):Int:=
 bif !decide (dbI db=0)then dbI db else bif decide ((l.length:Int)<1)then 1 else bif decide ((6:Int)< (l.length:Int))then 1 else
  match YCo (fQ db l) l.length 0 (.inr ())with| .inl i=>i| .inr _=>bif !YDQ hd l then 1 else 0
theorem You{R R' T:Type}(f:Nat->Option (R⊕T))(g:Nat->Option (R⊕R'))(t:T)(r0:R')(hf: ∀n,g n=match f n with|some (.inl i)=>some (.inl i)|some (.inr _)=>none|none=>none)(hn: ∀n u,f n≠some (.inr u)): ∀k n,YCo g k n (.inr r0)=match YCo f k n (.inr t)with| .inl i=>.inl i| .inr _=>.inr r0
 |0,n=>rfl
 |k+1,n=>by
  simp only[YCo]
  rw[hf]
  cases h:f n with
  |none=>exact You f g t r0 hf hn k (n+1)
  |some x=>grind
theorem YBw(db:List Tabl)(l:List Atom)(n:Nat)(u:Unit):fQ db l n≠some (.inr u):=by
 unfold fQ
 grind
def up{R':Type}(x:Option (Int⊕Unit)):Option (Int⊕R'):=match x with|some (.inl i)=>some (.inl i)|some (.inr _)=>none|none=>none
theorem tQ(db:List Tabl)(hd:List ByteArray)(l:List Atom)(hh:hd.length<=maxEl)(h2:sumT l<=maxEl):q40 loO db hd l=some (qI db hd l):=by
 have hm:maxEl=1073741824:=rfl
 unfold q40 qI
 rw[YBq,YCm]
 by_cases h:dbI db=0
 ·have hl:=(Yht h).1
  simp only[h,decide_true,YHz,cond_false]
  by_cases h1:(l.length:Int)<1
  ·grind
  ·by_cases h6:(6:Int)< (l.length:Int)
   ·simp_all
   ·simp only[h1,h6,decide_false,cond_false]
    have:YgG loO (l,(l.length:Int),0,db,hd,l)=some (YCo (R:=Int⊕ (List ByteArray×List Atom)) (fun n=>up (fQ db l n)) l.length 0 (.inr (hd,l))):=by
     refine Yak (fun n=>(l,(l.length:Int),(n:Int),db,hd,l)) _ l.length _ rfl ?_ (fun n hn=> ?_)
     ·simp[Yel]
     ·have:=Ybq hn
      have hg:(l.getD n zA).2.length<=maxEl:=by omega
      simp only[Yel,ltI hn,cond_true,inc hn (show l.length<=maxEl by omega),YHE]
      rw[chkT _ (by omega),YGl _ _ (by omega),YCm]
      rw[YGn _ hg,YCm]
      unfold fQ
      cases decide (0<=tabI db (l.getD n zA).1)<;>cases decide (((tabO db (l.getD n zA).1).2.1.length:Int)=((l.getD n zA).2.length:Int))<;>cases badT (l.getD n zA).2<;>rfl
    rw[this,YCm,You (fQ db l) (fun n=>up (fQ db l n)) () (hd,l) (fun n=>by rcases fQ db l n with _| (_|_)<;>rfl) (YBw db l)]
    cases YCo (fQ db l) l.length 0 (.inr ())with
    |inl i=>rfl
    |inr u=>
     simp only[alt2]
     rw[YGq hd l hh (by omega) h2,YCm]
     grind
 ·have h4:=YBn db
  simp_all
theorem YBx{l:List Atom}{k:Nat}(h: ∀n,n<l.length->(l.getD n zA).2.length<=k):sumT l<=l.length*k:=by
 unfold sumT
 have: ∀a∈l,a.2.length<=k:=fun a ha=>by
  obtain⟨m,hm,e⟩:=YG7.1 ha
  grind
 clear h
 induction l with
 |nil=>simp
 |cons a r ih=>
  have h1:=this a (YGQ ..)
  have h2:=ih (fun b hb=>this b (YGU _ hb))
  simp only[YGK,List.sum_cons,YG2,YHn];omega
end
end Go.Abs.G47
namespace Go.Abs.G47
open Go Go.Abs
noncomputable section
abbrev Asg(ν:Type):=ByteArray->Option ν
abbrev Ent(ν:Type):=List (Int×ByteArray×ν)
section
variable{ν:Type}[DecidableEq ν]
omit [DecidableEq ν] in
theorem Yhu(k k':ByteArray)(c:Int)(v:ν): ∀l:Ent ν,mfd eqS k' (mpt eqS c k v l)=bif eqS k' k then some v else mfd eqS k' l
 | []=>rfl
 |e::r=>by
  simp only[mpt]
  by_cases h:k=e.2.1
  ·have:eqS k e.2.1=true:=by simp[eqS,h]
   rw[this,cond_true]
   simp only[mfd,<-h]
   cases eqS k' k<;>rfl
  ·have:eqS k e.2.1=false:=by simp[eqS,h]
   rw[this,cond_false]
   simp only[mfd,Yhu k k' c v r]
   by_cases h1:k'=e.2.1
   ·have a1:eqS k' e.2.1=true:=by simp[eqS,h1]
    have a2:eqS k' k=false:=by simp only[eqS,decide_eq_false_iff_not];intro e';exact h (e'.symm.trans h1)
    rw[a1,a2];rfl
   ·have a1:eqS k' e.2.1=false:=by simp[eqS,h1]
    rw[a1];rfl
omit [DecidableEq ν] in
theorem Yhv{c:Int}{k:ByteArray}{v:ν}: ∀l:Ent ν,(mpt eqS c k v l).map (·.2.1)=(match mfd eqS k l with|some _=>l.map (·.2.1)|none=>l.map (·.2.1)++[k])
 | []=>rfl
 |e::r=>by
  simp only[mpt,mfd]
  cases h:eqS k e.2.1 with
  |true=>
   have:k=e.2.1:=by unfold eqS at h;simpa using h
   simp[this]
  |false=>
   simp only[cond_false,YGK,Yhv r]
   cases mfd eqS k r<;>rfl
def lk(l:Ent ν):Asg ν:=fun k=>mfd eqS k l
def upd(σ:Asg ν)(x:ByteArray)(u:ν):Asg ν:=fun k=>if k=x then some u else σ k
def del(σ:Asg ν)(x:ByteArray):Asg ν:=fun k=>if k=x then none else σ k
def KN(l:Ent ν):Prop:=(l.map (·.2.1)).Nodup
omit [DecidableEq ν] in
theorem Yhw(c:Int)(k:ByteArray)(v:ν)(l:Ent ν):lk (mpt eqS c k v l)=upd (lk l) k v:=by
 funext k'
 unfold lk upd
 rw[Yhu]
 by_cases h:k'=k<;>simp[eqS,h]
omit [DecidableEq ν] in
theorem mfd_none{k:ByteArray}: ∀{l:Ent ν},mfd eqS k l=none↔k∉l.map (·.2.1)
 | []=>by simp[mfd]
 |e::r=>by
  simp only[mfd,YGK,YGO,not_or]
  by_cases h:k=e.2.1
  ·simp[eqS,h]
  ·have:eqS k e.2.1=false:=by simp[eqS,h]
   rw[this,cond_false,mfd_none (l:=r)]
   simp[h]
omit [DecidableEq ν] in
theorem Yov{c:Int}{k:ByteArray}{v:ν}{l:Ent ν}(h:KN l):KN (mpt eqS c k v l):=by
 unfold KN
 rw[Yhv]
 cases hm:mfd eqS k l with
 |some _=>exact h
 |none=>
  rw[List.nodup_append]
  exact⟨h,by simp,fun x hx y hy=>by rw[YG0]at hy;subst hy;intro e;subst e;exact mfd_none.1 hm hx⟩
omit [DecidableEq ν] in
theorem Yow{k x:ByteArray}: ∀{l:Ent ν},x∈ (mdl eqS k l).map (·.2.1)->x∈l.map (·.2.1)
 | [],h=>h
 |e::r,h=>by
  simp only[mdl]at h
  cases hk:eqS k e.2.1 with
  |true=>rw[hk,cond_true]at h;exact YGU _ h
  |false=>
   rw[hk,cond_false,YGK,YGO]at h
   rw[YGK,YGO]
   exact h.imp_right Yow
omit [DecidableEq ν] in
theorem Yox{k:ByteArray}: ∀{l:Ent ν},KN l->KN (mdl eqS k l)/\lk (mdl eqS k l)=del (lk l) k
 | [],h=>⟨h,by funext x;unfold lk del;simp[mdl,mfd]⟩
 |e::r,h=>by
  have h':e.2.1∉r.map (·.2.1)/\KN r:=by unfold KN at h⊢;rw[YGK,List.nodup_cons]at h;exact h
  obtain⟨i1,i2⟩:=Yox (k:=k) h'.2
  simp only[mdl]
  by_cases hk:k=e.2.1
  ·have:eqS k e.2.1=true:=by simp[eqS,hk]
   rw[this,cond_true]
   refine⟨h'.2,?_⟩
   funext x
   unfold lk del
   by_cases hx:x=k
   ·rw[if_pos hx,hx,hk];exact mfd_none.2 h'.1
   ·rw[if_neg hx]
    have:eqS x e.2.1=false:=by simp[eqS,<-hk,hx]
    simp only[mfd,this,cond_false]
  ·have:eqS k e.2.1=false:=by simp[eqS,hk]
   rw[this,cond_false]
   refine⟨?_,?_⟩
   ·show(List.map (·.2.1) (e::mdl eqS k r)).Nodup
    rw[YGK,List.nodup_cons]
    exact⟨fun hm=>h'.1 (Yow hm),i1⟩
   ·funext x
    have i2:=congrFun i2 x
    unfold lk del at i2⊢
    simp only[mfd,i2]
    by_cases hx:x=k
    ·have:eqS x e.2.1=false:=by simp[eqS,hx,hk]
     rw[this];simp[hx]
    ·simp[hx]
def delG(l:Ent ν)(fresh:List ByteArray):Ent ν:=fresh.foldl (fun l k=>mdl eqS k l) l
omit [DecidableEq ν] in
theorem Yoy: ∀(fresh:List ByteArray) {l:Ent ν},KN l->KN (delG l fresh)/\ ∀k,lk (delG l fresh) k=bif inL fresh k then none else lk l k
 | [],l,h=>⟨h,fun k=>rfl⟩
 |x::r,l,h=>by
  obtain⟨h1,h2⟩:=Yox (k:=x) h
  obtain⟨i1,i2⟩:=Yoy r h1
  refine⟨i1,fun k=> ?_⟩
  show lk (delG (mdl eqS x l) r) k=_
  rw[i2,h2]
  unfold del
  show _=bif decide (k=x)||inL r k then none else _
  by_cases hx:k=x<;>cases inL r k<;>simp[hx]
def tmM(σ:Asg ν)(x:ByteArray)(c u:ν):Option (Asg ν):=if x=nul0 then(if c=u then some σ else none)else
 match σ x with
 |some w=>if w=u then some σ else none
 |none=>some (upd σ x u)
def tsM:Asg ν->List (ByteArray×ν)->List ν->Option (Asg ν)
 |σ,[],_=>some σ
 |σ,_::_,[]=>none
 |σ,p::ps,u::us=>(tmM σ p.1 p.2 u).bind fun σ'=>tsM σ' ps us
def fitG:List (ByteArray×ν)->List ν->Int->Ent ν->List ByteArray->Bool×Int×Ent ν×List ByteArray
 | [],_,clk,l,fr=>(true,clk,l,fr)
 |_::_,[],clk,l,fr=>(false,clk,l,fr)
 |p::ps,u::us,clk,l,fr=>if p.1=nul0 then(if p.2=u then fitG ps us clk l fr else(false,clk,l,fr))else
  match mfd eqS p.1 l with
  |some w=>if w=u then fitG ps us clk l fr else(false,clk,l,fr)
  |none=>fitG ps us (mck eqS clk p.1 l) (mpt eqS clk p.1 u l) (fr++[p.1])
structure FitOk(σ0:Asg ν)(σ':Option (Asg ν))(r:Bool×Int×Ent ν×List ByteArray)(n:Nat):Prop where
 kn:KN r.2.2.1
 len:r.2.2.2.length<=n
 new: ∀k∈r.2.2.2,σ0 k=none
 old: ∀k,k∉r.2.2.2->lk r.2.2.1 k=σ0 k
 ok:r.1=σ'.isSome
 val: ∀σ1,σ'=some σ1->lk r.2.2.1=σ1
theorem Ye0{σ0:Asg ν}: ∀(ps:List (ByteArray×ν)) (us:List ν) (clk:Int) (l:Ent ν) (fr:List ByteArray),KN l->(∀k∈fr,σ0 k=none)->(∀k,k∉fr->lk l k=σ0 k)->
  FitOk σ0 (tsM (lk l) ps us) (fitG ps us clk l fr) (fr.length+ps.length)
 | [],us,clk,l,fr,hk,hf,hl=>⟨hk,by simp[fitG],hf,hl,rfl,fun σ1 h=>by injection h⟩
 |p::ps,[],clk,l,fr,hk,hf,hl=>⟨hk,by simp[fitG],hf,hl,rfl,fun σ1 h=>by cases h⟩
 |p::ps,u::us,clk,l,fr,hk,hf,hl=>by
  have up: ∀{σ' r},FitOk σ0 σ' r (fr.length+ps.length)->FitOk σ0 σ' r (fr.length+(p::ps).length):=fun h=>⟨h.kn,by have:=h.len;grind,h.new,h.old,h.ok,h.val⟩
  have stop:FitOk σ0 none (false,clk,l,fr) (fr.length+(p::ps).length):=⟨hk,by simp,hf,hl,rfl,fun σ1 h=>by cases h⟩
  simp only[fitG,tsM,tmM]
  by_cases h0:p.1=nul0
  ·rw[if_pos h0,if_pos h0]
   by_cases hc:p.2=u
   ·rw[if_pos hc,if_pos hc];exact up (Ye0 ps us clk l fr hk hf hl)
   simp_all
  ·rw[if_neg h0,if_neg h0]
   have e:lk l p.1=mfd eqS p.1 l:=rfl
   rw[e]
   cases hm:mfd eqS p.1 l with
   |some w=>
    simp only
    by_cases hc:w=u
    ·rw[if_pos hc,if_pos hc];exact up (Ye0 ps us clk l fr hk hf hl)
    simp_all
   |none=>
    have:=Ye0 (σ0:=σ0) ps us (mck eqS clk p.1 l) (mpt eqS clk p.1 u l) (fr++[p.1]) (Yov hk) (fun k hk'=>by
     grind) (fun k hk'=>by
     rw[Yhw];unfold upd;simp_all)
    rw[Yhw]at this
    grind
theorem fit0{ps:List (ByteArray×ν)}{us:List ν}(clk:Int){l:Ent ν}(hk:KN l):FitOk (lk l) (tsM (lk l) ps us) (fitG ps us clk l []) ps.length:=by
 have:=Ye0 (σ0:=lk l) ps us clk l [] hk (fun k h=>by cases h) (fun k _=>rfl)
 simp_all
omit [DecidableEq ν] in
theorem Ye1{σ0:Asg ν}{fr:List ByteArray}{l:Ent ν}(hk:KN l)(hn: ∀k∈fr,σ0 k=none)(ho: ∀k,k∉fr->lk l k=σ0 k):KN (delG l fr)/\lk (delG l fr)=σ0:=by
 obtain⟨h1,h2⟩:=Yoy fr hk
 refine⟨h1,?_⟩
 funext k
 rw[h2]
 cases h:inL fr k with
 |true=>exact(hn k (inL_iff.1 h)).symm
 |false=>exact ho k fun hm=>by rw[inL_iff.2 hm]at h;cases h
def leA(σ τ:Asg ν):Prop:= ∀k v,σ k=some v->τ k=some v
omit [DecidableEq ν] in
theorem leA.refl(σ:Asg ν):leA σ σ:=fun _ _ h=>h
omit [DecidableEq ν] in
theorem leA.trans{σ τ ρ:Asg ν}(h:leA σ τ)(h':leA τ ρ):leA σ ρ:=fun k v e=>h' k v (h k v e)
def Img(σ:Asg ν):List (ByteArray×ν)->List ν->Prop
 | [],_=>True
 |_::_,[]=>False
 |p::ps,u::us=>(if p.1=nul0 then p.2=u else σ p.1=some u)/\Img σ ps us
omit [DecidableEq ν] in
theorem Img.mono{σ τ:Asg ν}(h:leA σ τ): ∀{ps us},Img σ ps us->Img τ ps us
 | [],_,_=>trivial
 |_::_,[],h'=>h'.elim
 |p::ps,u::us,h'=>by
  refine⟨?_,h'.2.mono h⟩
  have:=h'.1
  by_cases h0:p.1=nul0
  ·rw[if_pos h0]at this⊢;exact this
  ·rw[if_neg h0]at this⊢;exact h _ _ this
theorem YBy{σ σ':Asg ν}{x:ByteArray}{c u:ν}(h:tmM σ x c u=some σ'):leA σ σ'/\if x=nul0 then c=u else σ' x=some u:=by
 unfold tmM at h
 by_cases h0:x=nul0
 ·rw[if_pos h0]at h⊢
  by_cases hc:c=u
  ·rw[if_pos hc]at h;injection h with h;subst h;exact⟨leA.refl _,hc⟩
  simp_all
 ·rw[if_neg h0]at h⊢
  cases hs:σ x with
  |some w=>
   rw[hs]at h;simp only at h
   by_cases hc:w=u
   ·rw[if_pos hc]at h;injection h with h;subst h;exact⟨leA.refl _,by simp_all⟩
   simp_all
  |none=>
   rw[hs]at h;injection h with h;subst h
   refine⟨fun k v e=> ?_,by unfold upd;simp⟩
   unfold upd
   grind
theorem Yhx: ∀{ps:List (ByteArray×ν)} {us:List ν} {σ σ':Asg ν},tsM σ ps us=some σ'->leA σ σ'/\Img σ' ps us
 | [],us,σ,σ',h=>by injection h with h;subst h;exact⟨leA.refl _,trivial⟩
 |_::_,[],_,_,h=>by cases h
 |p::ps,u::us,σ,σ',h=>by
  simp only[tsM]at h
  cases h1:tmM σ p.1 p.2 u with
  |none=>simp_all
  |some σ1=>
   rw[h1]at h
   obtain⟨a1,a2⟩:=YBy h1
   obtain⟨b1,b2⟩:=Yhx (show tsM σ1 ps us=some σ' from h)
   refine⟨a1.trans b1,?_,b2⟩
   by_cases h0:p.1=nul0
   ·simp_all
   ·rw[if_neg h0]at a2⊢;exact b1 _ _ a2
theorem Yoz: ∀{ps:List (ByteArray×ν)} {us:List ν} {σ τ:Asg ν},leA σ τ->Img τ ps us-> ∃σ',tsM σ ps us=some σ'/\leA σ' τ
 | [],us,σ,τ,h,_=>⟨σ,rfl,h⟩
 |_::_,[],_,_,_,h=>h.elim
 |p::ps,u::us,σ,τ,h,h'=>by
  have hm: ∃σ1,tmM σ p.1 p.2 u=some σ1/\leA σ1 τ:=by
   have h1:=h'.1
   unfold tmM
   by_cases h0:p.1=nul0
   ·simp_all
   ·rw[if_neg h0]at h1⊢
    cases hs:σ p.1 with
    |some w=>
     have:=h _ _ hs
     simp_all
    |none=>
     refine⟨_,rfl,fun k v e=> ?_⟩
     unfold upd at e
     by_cases hk:k=p.1
     ·simp_all
     ·rw[if_neg hk]at e;exact h k v e
  obtain⟨σ1,e1,l1⟩:=hm
  obtain⟨σ',e2,l2⟩:=Yoz l1 h'.2
  exact⟨σ',by simp only[tsM,e1];exact e2,l2⟩
end
end
end Go.Abs.G47
namespace Go.Abs.G47
open Go Go.Abs
noncomputable section
theorem YFT{A B:Type}{a:Option A}{f g:A->Option B}{y:B}(h:YHq a f=some y)(k: ∀z,f z=some y->g z=some y):YHq a g=some y:=by
 cases a with
 |none=>cases h
 |some z=>exact k z h
theorem YEn{A B:Type}{a a':Option A}{f g:A->Option B}{y:B}(h:YHq a f=some y)(ha: ∀z,a=some z->a'=some z)(k: ∀z,f z=some y->g z=some y):YHq a' g=some y:=by
 cases a with
 |none=>cases h
 |some z=>rw[ha z rfl];exact k z h
theorem chkm{B:Type}{p:Prop}[Decidable p]{a a':Option B}{y:B}(h:chk p a=some y)(k:a=some y->a'=some y):chk p a'=some y:=by
 by_cases hp:p
 ·rw[chkT _ hp]at*;exact k h
 ·simp[chk,hp]at h
theorem YDB{B:Type}{c:Bool}{a a' x x':Option B}{y:B}(h:(bif c then a else x)=some y)(k:a=some y->a'=some y)(k':x=some y->x'=some y):(bif c then a' else x')=some y:=by
 cases c with
 |true=>exact k h
 |false=>exact k' h
theorem Yhy{S R:Type}{s s':S->Option (S⊕R)}(h: ∀x y,s x=some y->s' x=some y){x:S}{y:R}(hy:YCA s x=some y):YCA s' x=some y:=by
 obtain⟨n,hn⟩:=YcP hy
 refine Yb4 (n:=n) ?_
 clear hy
 induction n generalizing x with
 |zero=>cases hn
 |succ n ih=>
  simp only[YC5]at hn⊢
  cases hs:s x with
  |none=>rw[hs]at hn;cases hn
  |some z=>
   rw[hs]at hn
   rw[h x z hs]
   cases z with
   |inl a=>exact ih hn
   |inr b=>exact hn
theorem Ybe{α:Type}{l:List α}{n:Nat}{d:α}(h:n<l.length):l.drop n=l.getD n d::l.drop (n+1):=by
 rw[List.drop_eq_getElem_cons h,YG4,YGI h];rfl
theorem eqT(a b:Term):(decide (a.1=b.1)&& (decide (a.2.1=b.2.1)&& (decide (a.2.2.1=b.2.2.1)&& (decide (a.2.2.2=b.2.2.2)&&true))))=decide (a=b):=by
 obtain⟨a1,a2,a3,a4⟩:=a
 obtain⟨b1,b2,b3,b4⟩:=b
 rw[YHB];simp
def wfB(hd:List ByteArray)(l:List Atom):Bool:=bif decide ((l.length:Int)<1)then false else bif decide ((6:Int)< (l.length:Int))then false else
 bif anyN (fun m=> !YCJ (l.getD m zA).1||badT (l.getD m zA).2) l.length 0 then false else YDQ hd l
theorem YFU(l:List Term)(h:l.length<=maxEl):q76 loO l=some (badT l):=by
 have:YgX loO (l,(l.length:Int),0)=some (YCo (R:=Int⊕Unit) (fun m=>bif !YCQ (l.getD m zM)then some (.inl (m:Int))else none) l.length 0 (.inr ())):=by
  refine Yak (fun n=>(l,(l.length:Int),(n:Int))) _ l.length _ rfl ?_ (fun n hn=> ?_)
  ·simp[Yew]
  ·simp only[Yew,ltI hn,cond_true,inc hn h,YHE,q74]
   rw[chkT _ (by omega),YGm,YCm,YCm]
   cases YCQ (l.getD n zM)<;>rfl
 unfold q76 q75 badT
 rw[this,YCm,<-Yc8]
 unfold idxR
 cases YCo (R:=Int⊕Unit) (fun m=>bif !YCQ (l.getD m zM)then some (.inl (m:Int))else none) l.length 0 (.inr ())<;>rfl
def fW(l:List Atom)(n:Nat):Bool:= !YCJ (l.getD n zA).1||badT (l.getD n zA).2
theorem tWf(hd:List ByteArray)(l:List Atom)(hh:hd.length<=maxEl)(h2:sumT l<=maxEl):q77 loO hd l=some (wfB hd l):=by
 have hm:maxEl=1073741824:=rfl
 unfold q77 wfB
 by_cases h1:(l.length:Int)<1
 ·simp[h1]
 ·by_cases h6:(6:Int)< (l.length:Int)
  ·simp[h1,h6]
  ·simp only[h1,h6,decide_false,cond_false]
   have:YgY loO (l,(l.length:Int),0,hd,l)=some (YCo (R:=Bool⊕ (List ByteArray×List Atom)) (fun m=>bif fW l m then some (.inl false)else none) l.length 0 (.inr (hd,l))):=by
    refine Yak (fun n=>(l,(l.length:Int),(n:Int),hd,l)) _ l.length _ rfl ?_ (fun n hn=> ?_)
    ·simp[Yex]
    ·have:=Ybq hn
     simp only[Yex,ltI hn,cond_true,inc hn (show l.length<=maxEl by omega),YHE]
     have hx:(l.getD n zA).2.length<=maxEl:=by omega
     rw[chkT _ (by omega),lexN,YCm,YFU _ hx,YCm]
     unfold fW
     cases YCJ (l.getD n zA).1<;>cases badT (l.getD n zA).2<;>rfl
   rw[this,YCm]
   show _=some (bif anyN (fW l) l.length 0 then false else _)
   rcases YaP (f:=fun m=>bif fW l m then some (.inl false)else none) (r0:=(.inr (hd,l):Bool⊕ (List ByteArray×List Atom))) l.length 0 with⟨m,r,g1,g2,g3,g4⟩| ⟨g1,g2⟩
   ·rw[g4]
    have ha:anyN (fW l) l.length 0=true:=anyN_iff.2 ⟨m,g1,g2,by
     cases hf:fW l m with
     |true=>rfl
     |false=>rw[hf]at g3;cases g3⟩
    rw[ha]
    cases hf:fW l m with
    |true=>rw[hf]at g3;injection g3 with g3;subst g3;rfl
    |false=>rw[hf]at g3;cases g3
   ·rw[g1]
    have ha:anyN (fW l) l.length 0=false:=by
     cases ha:anyN (fW l) l.length 0 with
     |false=>rfl
     |true=>
      obtain⟨m,m1,m2,m3⟩:=anyN_iff.1 ha
      have:=g2 m m1 m2
      rw[m3]at this;cases this
    rw[ha]
    simp only[alt2,cond_false]
    rw[YGq hd l hh (by omega) h2,YCm]
theorem rWf(hd:List ByteArray)(l:List Atom)(hh:hd.length<=maxEl)(h2:sumT l<=maxEl):q139 loO hd l=some (wfB hd l):=by
 have hm:maxEl=1073741824:=rfl
 unfold q139 wfB
 by_cases h1:(l.length:Int)<1
 ·simp[h1]
 ·by_cases h6:(6:Int)< (l.length:Int)
  ·simp[h1,h6]
  ·simp only[h1,h6,decide_false,cond_false]
   have:Yhk loO (0,hd,l)=some (YCo (R:=Bool⊕ (List ByteArray×List Atom)) (fun m=>bif fW l m then some (.inl false)else none) l.length 0 (.inr (hd,l))):=by
    refine Yak (fun n=>((n:Int),hd,l)) _ l.length _ rfl ?_ (fun n hn=> ?_)
    ·simp[YeP]
    ·have:=Ybq hn
     simp only[YeP,ltI hn,cond_true,inc hn (show l.length<=maxEl by omega),YHE]
     have hx:(l.getD n zA).2.length<=maxEl:=by omega
     rw[chkT _ (by omega),chkT _ (by omega),Yhr,YCm,YGo _ _ hx,YCm]
     unfold fW
     cases YCJ (l.getD n zA).1<;>cases badT (l.getD n zA).2<;>rfl
   rw[this,YCm]
   show _=some (bif anyN (fW l) l.length 0 then false else _)
   rcases YaP (f:=fun m=>bif fW l m then some (.inl false)else none) (r0:=(.inr (hd,l):Bool⊕ (List ByteArray×List Atom))) l.length 0 with⟨m,r,g1,g2,g3,g4⟩| ⟨g1,g2⟩
   ·rw[g4]
    have ha:anyN (fW l) l.length 0=true:=anyN_iff.2 ⟨m,g1,g2,by
     cases hf:fW l m with
     |true=>rfl
     |false=>rw[hf]at g3;cases g3⟩
    rw[ha]
    cases hf:fW l m with
    |true=>rw[hf]at g3;injection g3 with g3;subst g3;rfl
    |false=>rw[hf]at g3;cases g3
   ·rw[g1]
    have ha:anyN (fW l) l.length 0=false:=by
     cases ha:anyN (fW l) l.length 0 with
     |false=>rfl
     |true=>
      obtain⟨m,m1,m2,m3⟩:=anyN_iff.1 ha
      have:=g2 m m1 m2
      rw[m3]at this;cases this
    rw[ha]
    simp only[alt2,cond_false]
    rw[YGF hd l hh (by omega) h2,YCm]
abbrev pT(l:List Term):List (ByteArray×Term):=l.map fun t=>(t.1,t)
def atG(a b:Atom)(clk:Int)(l:Ent Term):Bool×Int×Ent Term×List ByteArray:=bif !decide (a.1=b.1)then(false,clk,l,[])else bif !decide ((a.2.length:Int)=(b.2.length:Int))then(false,clk,l,[])else fitG (pT a.2) b.2 clk l []
def atM(σ:Asg Term)(a b:Atom):Option (Asg Term):=bif !decide (a.1=b.1)then none else bif !decide ((a.2.length:Int)=(b.2.length:Int))then none else tsM σ (pT a.2) b.2
theorem YBz(a b:Atom)(clk:Int){l:Ent Term}(hk:KN l):FitOk (lk l) (atM (lk l) a b) (atG a b clk l) a.2.length:=by
 have stop:FitOk (lk l) none (false,clk,l,[]) a.2.length:=⟨hk,by simp,fun _ h=>(List.not_mem_nil h).elim,fun _ _=>rfl,rfl,fun _ h=>nomatch h⟩
 unfold atM atG
 cases decide (a.1=b.1)with
 |false=>exact stop
 |true=>
  cases decide ((a.2.length:Int)=(b.2.length:Int))with
  |false=>exact stop
  |true=>
   have:=fit0 (ps:=pT a.2) (us:=b.2) clk hk
   rw[YGX]at this
   exact this
theorem YBA(ts us:List Term)(b0:ByteArray)(m2 m3:Bool)(h:ts.length=us.length)(hm:ts.length<=maxEl): ∀(k n:Nat),n+k=ts.length-> ∀(clk:Int) (l:Ent Term) (fr:List ByteArray),fr.length+k<=maxEl->
  YgZ loO (ts,(ts.length:Int),(n:Int),clk,l,m2,m3,b0,us,fr)=some (let r:=fitG ((pT ts).drop n) (us.drop n) clk l fr
   bif r.1 then .inr (r.2.1,r.2.2.1,m2,m3,r.2.2.2)else .inl (r.2.2.2,false,r.2.1,r.2.2.1,m2,m3)):=by
 have hM:maxEl=1073741824:=rfl
 intro k
 induction k with
 |zero=>
  intro n hn clk l fr hf
  show YCA _ _=_
  rw[Yaq]
  have e:n=ts.length:=by omega
  subst e
  simp only[YcY,nlI,cond_false]
  rw[YHc (by rw[YGX];omega)]
  rfl
 |succ k ih=>
  intro n hn clk l fr hf
  have hlt:n<ts.length:=by omega
  show YCA _ _=_
  have e1:(pT ts).drop n=((ts.getD n zM).1,ts.getD n zM)::(pT ts).drop (n+1):=by
   rw[Ybe (d:=(zM.1,zM)) (by rw[YGX];omega)]
   simp[YG4,hlt]
  rw[e1,Ybe (l:=us) (d:=zM) (by omega)]
  have key: ∀t u:Term,ts.getD n zM=t->us.getD n zM=u->YCA (YcY loO) (ts,(ts.length:Int),(n:Int),clk,l,m2,m3,b0,us,fr)=some (let r:=fitG ((t.1,t)::(pT ts).drop (n+1)) (u::us.drop (n+1)) clk l fr
   bif r.1 then .inr (r.2.1,r.2.2.1,m2,m3,r.2.2.2)else .inl (r.2.2.2,false,r.2.1,r.2.2.1,m2,m3)):=by
   intro t u ht hu'
   rw[Yaq]
   simp only[YcY,ltI hlt,cond_true,YHE,Yey,fitG,ht,hu']
   rw[chkT _ (by omega)]
   by_cases h0:t.1=nul0
   ·rw[if_pos h0]
    simp only[h0,decide_true,YHz,cond_false,YCm]
    rw[chkT _ (by omega)]
    have et:=eqT t u
    simp only[h0]at et
    rw[et]
    by_cases hu:t=u
    ·rw[if_pos hu]
     simp only[hu,decide_true,YHz,cond_false,YCm,alt2,inc hlt hm]
     exact ih (n+1) (by omega) clk l fr (by omega)
    ·rw[if_neg hu]
     simp only[hu,decide_false,YHA,cond_true,YCm,alt2]
     rfl
   ·rw[if_neg h0]
    have e0:decide (t.1=nul0)=false:=decide_eq_false h0
    simp only[e0,YHA,cond_true]
    unfold mhs mgt
    cases hf:mfd eqS t.1 l with
    |none=>
     simp only[YHA,cond_true]
     rw[chkT _ (by omega),chkT _ (by rw[List.length_singleton];omega),YCm]
     simp only[alt2,inc hlt hm]
     exact ih (n+1) (by omega) _ _ _ (by rw[List.length_append,List.length_singleton];omega)
    |some w=>
     simp only[YHz,cond_false]
     rw[chkT _ (by omega),eqT]
     by_cases hu:w=u
     ·rw[if_pos hu]
      simp only[hu,decide_true,YHz,cond_false,YCm,alt2,inc hlt hm]
      exact ih (n+1) (by omega) clk l fr (by omega)
     ·rw[if_neg hu]
      simp only[hu,decide_false,YHA,cond_true,YCm,alt2]
      rfl
  exact key _ _ rfl rfl
theorem tAt(a b:Atom)(clk:Int)(l:Ent Term)(m2 m3:Bool)(hm:a.2.length<=maxEl):q82 loO a.1 a.2 b.1 b.2 clk l m2 m3=some ((atG a b clk l).2.2.2,(atG a b clk l).1,(atG a b clk l).2.1,(atG a b clk l).2.2.1,m2,m3):=by
 unfold q82 atG
 by_cases h1:a.1=b.1
 ·by_cases h2:(a.2.length:Int)=(b.2.length:Int)
  ·simp only[h1,h2,decide_true,YHz,cond_false]
   have:=YBA a.2 b.2 b.1 m2 m3 (by omega) hm a.2.length 0 (by omega) clk l [] (by simp;omega)
   simp only[YG3,h2]at this
   rw[show((0:Nat):Int)=0 from rfl]at this
   rw[this,YCm]
   cases(fitG (pT a.2) b.2 clk l []).1<;>rfl
  ·simp[h1,h2]
 ·simp[h1]
end
end Go.Abs.G47
namespace Go.Abs.G47
open Go Go.Abs
noncomputable section
abbrev Val:=Int×Int×ByteArray
abbrev Way:=List Int×Asg Val
def pV(l:List Term):List (ByteArray×Val):=l.map fun t=>(t.1,t.2)
theorem eqV(a b:Val):(decide (a.1=b.1)&& (decide (a.2.1=b.2.1)&& (decide (a.2.2=b.2.2)&&true)))=decide (a=b):=by
 grind
def wyM:List (List Term×Rws)->Asg Val->List Int->List Way
 | [],σ,r=>[(r,σ)]
 |q::rest,σ,r=>q.2.flatMap fun row=>match tsM σ (pV q.1) row.2 with
  |some σ'=>wyM rest σ' (r++[row.1])
  |none=>[]
def visit{E:Type}(see:Way->E->Bool×E):List Way->E->Bool×E
 | [],e=>(true,e)
 |w::ws,e=>match see w e with
  | (true,e')=>visit see ws e'
  | (false,e')=>(false,e')
theorem YoA{E:Type}(see:Way->E->Bool×E)(b:List Way): ∀(a:List Way) (e:E),visit see (a++b) e=match visit see a e with| (true,e')=>visit see b e'| (false,e')=>(false,e')
 | [],e=>rfl
 |w::a,e=>by
  simp only[YG6,visit]
  rcases h:see w e with⟨_|_,e'⟩
  ·rfl
  ·exact YoA see b a e'
theorem YoB{E:Type}{see:Way->E->Bool×E}{I:E->Prop}(hs: ∀w e,I e->(see w e).1=true->I (see w e).2): ∀{ws:List Way} {e:E},I e->(visit see ws e).1=true->I (visit see ws e).2
 | [],e,h,_=>h
 |w::ws,e,h,hv=>by
  have h1:=hs w e h
  simp only[visit]at hv⊢
  rcases hx:see w e with⟨_|_,e'⟩
  ·simp_all
  ·rw[hx]at hv h1;exact YoB hs (h1 rfl) hv
def PR(l:List Atom)(tb:List Tabl):List (List Term×Rws):=List.zipWith (fun a t=>(a.2,t.2.2)) l tb
theorem YBB{l:List Atom}{tb:List Tabl}(h:l.length=tb.length){n:Nat}(hn:n<l.length):(PR l tb).drop n=((l.getD n zA).2,(tb.getD n zT).2.2)::(PR l tb).drop (n+1):=by
 unfold PR
 have h2:n< (List.zipWith (fun(a:Atom) (t:Tabl)=>(a.2,t.2.2)) l tb).length:=by simp_all
 rw[List.drop_eq_getElem_cons h2]
 simp_all
theorem YBC{l:List Atom}{tb:List Tabl}(h:l.length=tb.length):(PR l tb).drop l.length=[]:=by
 apply YHc
 unfold PR;simp_all
structure TbOk(l:List Atom)(tb:List Tabl):Prop where
 len:l.length=tb.length
 sm:l.length<=6
 tl: ∀n,n<l.length->(l.getD n zA).2.length<=maxEl
 rl: ∀n,n<l.length->(tb.getD n zT).2.2.length<=maxEl
 ar: ∀n,n<l.length-> ∀row∈ (tb.getD n zT).2.2,row.2.length=(l.getD n zA).2.length
end
end Go.Abs.G47
namespace Go.Abs.G47
open Go Go.Abs
noncomputable section
abbrev E:=Int×Ent Vals×Bool
abbrev RRec:=Int×List ByteArray×List Atom×List Tabl×Int×Ent Val×Bool×Bool×List Int×Int×Ent Vals×Bool->Option (Bool×List ByteArray×List Atom×List Tabl×Int×Ent Val×Bool×Bool×Int×Ent Vals×Bool×List Int)
theorem YBD(ts:List Term)(us:Vals)(r0:Int)(hd:List ByteArray)(l0:List Atom)(tb:List Tabl)(m2 m3:Bool)(rs:List Int)(e:E)(h:us.length=ts.length)(hm:ts.length<=maxEl): ∀(k n:Nat),n+k=ts.length-> ∀(clk:Int) (l:Ent Val) (fr:List ByteArray),fr.length+k<=maxEl->
  YgN loO (ts,(ts.length:Int),(n:Int),hd,l0,tb,clk,l,m2,m3,rs,e.1,e.2.1,e.2.2,r0,us,fr)=some (let r:=fitG ((pV ts).drop n) (us.drop n) clk l fr
   bif r.1 then .inr (hd,l0,tb,r.2.1,r.2.2.1,m2,m3,rs,e.1,e.2.1,e.2.2,r.2.2.2)else .inl (false,hd,l0,tb,r.2.1,r.2.2.1,m2,m3,rs,e.1,e.2.1,e.2.2,r.2.2.2)):=by
 have hM:maxEl=1073741824:=rfl
 intro k
 induction k with
 |zero=>
  intro n hn clk l fr hf
  show YCA _ _=_
  rw[Yaq]
  have e:n=ts.length:=by omega
  subst e
  simp only[YcR,nlI,cond_false]
  rw[YHc (by unfold pV;simp)]
  rfl
 |succ k ih=>
  intro n hn clk l fr hf
  have hlt:n<ts.length:=by omega
  show YCA _ _=_
  have e1:(pV ts).drop n=((ts.getD n zM).1,(ts.getD n zM).2)::(pV ts).drop (n+1):=by
   unfold pV
   rw[Ybe (d:=(zM.1,zM.2)) (by simp_all)]
   simp
  rw[e1,Ybe (l:=us) (d:=zV) (by omega)]
  have key: ∀(t:Term) (u:Val),ts.getD n zM=t->us.getD n zV=u->YCA (YcR loO) (ts,(ts.length:Int),(n:Int),hd,l0,tb,clk,l,m2,m3,rs,e.1,e.2.1,e.2.2,r0,us,fr)=some (let r:=fitG ((t.1,t.2)::(pV ts).drop (n+1)) (u::us.drop (n+1)) clk l fr
   bif r.1 then .inr (hd,l0,tb,r.2.1,r.2.2.1,m2,m3,rs,e.1,e.2.1,e.2.2,r.2.2.2)else .inl (false,hd,l0,tb,r.2.1,r.2.2.1,m2,m3,rs,e.1,e.2.1,e.2.2,r.2.2.2)):=by
   intro t u ht hu'
   rw[Yaq]
   simp only[YcR,ltI hlt,cond_true,YHE,Yeq,fitG,ht,hu']
   rw[chkT _ (by omega)]
   by_cases h0:t.1=nul0
   ·rw[if_pos h0]
    simp only[h0,decide_true,YHz,cond_false]
    rw[chkT _ (by omega),eqV t.2 u]
    by_cases hu:t.2=u
    ·rw[if_pos hu]
     simp only[hu,decide_true,YHz,cond_false,YCm,alt2,inc hlt hm]
     exact ih (n+1) (by omega) clk l fr (by omega)
    ·rw[if_neg hu]
     simp only[hu,decide_false,YHA,cond_true,YCm,alt2]
     rfl
   ·rw[if_neg h0]
    have e0:decide (t.1=nul0)=false:=decide_eq_false h0
    simp only[e0,YHA,cond_true]
    unfold mhs mgt
    cases hf:mfd eqS t.1 l with
    |none=>
     simp
     rw[chkT _ (by omega),chkT _ (by grind),YCm]
     simp only[alt2,inc hlt hm]
     exact ih (n+1) (by omega) _ _ _ (by grind)
    |some w=>
     simp only[YHz,cond_false]
     rw[chkT _ (by omega),eqV w u]
     by_cases hu:w=u
     ·rw[if_pos hu]
      simp only[hu,decide_true,YHz,cond_false,YCm,alt2,inc hlt hm]
      exact ih (n+1) (by omega) clk l fr (by omega)
     ·rw[if_neg hu]
      simp only[hu,decide_false,YHA,cond_true,YCm,alt2]
      rfl
  simp_all
theorem fit(a0:ByteArray)(ts:List Term)(us:Vals)(r0:Int)(hd:List ByteArray)(l0:List Atom)(tb:List Tabl)(m2 m3:Bool)(rs:List Int)(e:E)(clk:Int)(l:Ent Val)(h:us.length=ts.length)(hm:ts.length<=maxEl):
  q49 loO a0 ts r0 us hd l0 tb clk l m2 m3 rs e.1 e.2.1 e.2.2=some ((fitG (pV ts) us clk l []).1,hd,l0,tb,(fitG (pV ts) us clk l []).2.1,(fitG (pV ts) us clk l []).2.2.1,m2,m3,rs,e.1,e.2.1,e.2.2,(fitG (pV ts) us clk l []).2.2.2):=by
 unfold q49
 have:=YBD ts us r0 hd l0 tb m2 m3 rs e h hm ts.length 0 (by omega) clk l [] (by simp_all)
 rw[YG3,YG3,show((0:Nat):Int)=0 from rfl]at this
 rw[this,YCm]
 generalize fitG (pV ts) us clk l []=r
 obtain⟨_|_,r⟩:=r<;>rfl
theorem delR(rec:RRec)(i n m:Int)(on:Bool)(R:Rws)(fr:List ByteArray)(hd:List ByteArray)(l0:List Atom)(tb:List Tabl)(clk:Int)(l:Ent Val)(m2 m3:Bool)(rs:List Int)(e:E)(h:fr.length<=maxEl):
  Yes loO rec (i,on,R,n,m,(fr.length:Int),0,hd,l0,tb,clk,l,m2,m3,e.1,e.2.1,e.2.2,fr,rs)=some (i,on,R,n,m,hd,l0,tb,clk,delG l fr,m2,m3,e.1,e.2.1,e.2.2,rs):=by
 refine Yan (st:=fun j=>(i,on,R,n,m,(fr.length:Int),(j:Int),hd,l0,tb,clk,delG l (fr.take j),m2,m3,e.1,e.2.1,e.2.2,fr,rs)) (N:=fr.length) rfl ?_ (fun j hj=> ?_)
 ·simp only[Yer,nlI,cond_false,YGV]
 ·simp only[Yer,ltI hj,cond_true,inc hj h,YHE]
  rw[chkT _ (by omega)]
  have e:delG l (fr.take (j+1))=mdl eqS (fr.getD j nul0) (delG l (fr.take j)):=Yce (fun l k=>mdl eqS k l) l (d:=nul0) hj
  rw[e]
section
variable{see:Way->E->Bool×E}{I:E->Prop}{J:Asg Val->Prop}{hd:List ByteArray}{l0:List Atom}{tb:List Tabl}{m2 m3:Bool}
theorem YBE(hI: ∀w e,I e->(see w e).1=true->I (see w e).2)(ok:TbOk l0 tb)(hJ: ∀i,i<l0.length-> ∀row∈ (tb.getD i zT).2.2,∀σ σ',J σ->tsM σ (pV (l0.getD i zA).2) row.2=some σ'->J σ')(rec:RRec){i:Nat}(hi:i<l0.length)(rs:List Int)(hr:rs.length=i)
  (hrec: ∀clk (l:Ent Val) id e,KN l->J (lk l)->I e-> ∃clk' l',rec (((i+1:Nat):Int),hd,l0,tb,clk,l,m2,m3,rs++[id],e.1,e.2.1,e.2.2)=some ((visit see (wyM ((PR l0 tb).drop (i+1)) (lk l) (rs++[id])) e).1,hd,l0,tb,clk',l',m2,m3,(visit see (wyM ((PR l0 tb).drop (i+1)) (lk l) (rs++[id])) e).2.1,(visit see (wyM ((PR l0 tb).drop (i+1)) (lk l) (rs++[id])) e).2.2.1,(visit see (wyM ((PR l0 tb).drop (i+1)) (lk l) (rs++[id])) e).2.2.2,rs++[id])/\KN l'/\lk l'=lk l) (σ:Asg Val) (hσ:J σ):
  ∀(k n:Nat),n+k=(tb.getD i zT).2.2.length-> ∀clk (l:Ent Val) e,KN l->lk l=σ->I e-> ∃clk' l',KN l'/\lk l'=σ/\YcS loO rec ((i:Int),(tb.getD i zT).2.2,((tb.getD i zT).2.2.length:Int),(n:Int),hd,l0,tb,clk,l,m2,m3,e.1,e.2.1,e.2.2,rs)=some (
   match visit see (((tb.getD i zT).2.2.drop n).flatMap fun row=>match tsM σ (pV (l0.getD i zA).2) row.2 with|some σ'=>wyM ((PR l0 tb).drop (i+1)) σ' (rs++[row.1])|none=>[]) e with
   | (true,e)=>.inr (hd,l0,tb,clk',l',m2,m3,e.1,e.2.1,e.2.2,rs)
   | (false,e)=>.inl (false,hd,l0,tb,clk',l',m2,m3,e.1,e.2.1,e.2.2,rs)):=by
 have hM:maxEl=1073741824:=rfl
 have hT:=ok.tl i hi
 have hR:=ok.rl i hi
 have hA:=ok.ar i hi
 have hJi:=hJ i hi
 have hS:=ok.sm
 generalize(tb.getD i zT).2.2=R at*
 intro k
 induction k with
 |zero=>
  intro n hn clk l e hk hl he
  refine⟨clk,l,hk,hl,?_⟩
  have en:n=R.length:=by omega
  subst en
  rw[YHc (YHf _)]
  show YCA _ _=_
  rw[Yaq]
  simp only[Yb6,nlI,cond_false]
  rfl
 |succ k ih=>
  intro n hn clk l e hk hl he
  have hlt:n<R.length:=by omega
  rw[Ybe (d:=zR) hlt,List.flatMap_cons,YoA]
  have hrow:=hA _ (Yaj (d:=zR) hlt)
  have hJr:=hJi _ (Yaj (d:=zR) hlt)
  generalize hq:R.getD n zR=row at*
  have hF:=fit0 (ps:=pV (l0.getD i zA).2) (us:=row.2) clk hk
  rw[hl]at hF
  have hfl:(fitG (pV (l0.getD i zA).2) row.2 clk l []).2.2.2.length<=maxEl:=by
   have:=hF.len;unfold pV at this;rw[YGX]at this;exact YHj this hT
  have hf:=fit (l0.getD i zA).1 (l0.getD i zA).2 row.2 row.1 hd l0 tb m2 m3 rs e clk l hrow hT
  have step: ∀s',Yb6 loO rec ((i:Int),R,(R.length:Int),(n:Int),hd,l0,tb,clk,l,m2,m3,e.1,e.2.1,e.2.2,rs)=s'->YcS loO rec ((i:Int),R,(R.length:Int),(n:Int),hd,l0,tb,clk,l,m2,m3,e.1,e.2.1,e.2.2,rs)=(match s' with|some (.inl s)=>YcS loO rec s|some (.inr x)=>some x|none=>none):=by
   intro s' hs;subst hs
   show YCA _ _=_
   rw[Yaq]
   rcases Yb6 loO rec ((i:Int),R,(R.length:Int),(n:Int),hd,l0,tb,clk,l,m2,m3,e.1,e.2.1,e.2.2,rs)with _| (_|_)<;>rfl
  have nx:YHK .i64 ((n:Int)+1)=((n+1:Nat):Int):=inc hlt hR
  have ix:YHK .i64 ((i:Int)+1)=((i+1:Nat):Int):=inc hi (by omega)
  have tk: ∀id:Int,(rs++[id]).take i=rs:=fun id=>by rw[<-hr];simp
  simp only[Yb6,ltI hlt,cond_true,YHE,hq]at step
  rw[chkT _ (by omega),chkT _ (by omega),hf,YCm]at step
  dsimp only at step
  rw[chkT _ rfl,chkT _ rfl,chkT _ (by rw[List.length_singleton];omega),hF.ok]at step
  cases hx:tsM σ (pV (l0.getD i zA).2) row.2 with
  |none=>
   rw[hx]at step
   simp only[Option.isSome_none,YHA,cond_true]at step
   rw[chkT _ (by simp;omega),tk,delR _ _ _ _ _ _ _ _ _ _ _ _ _ _ _ e hfl,YCm]at step
   simp only[YHz,cond_false,nx]at step
   obtain⟨d1,d2⟩:=Ye1 hF.kn hF.new hF.old
   obtain⟨clk',l',k1,k2,k3⟩:=ih (n+1) (by omega) (fitG (pV (l0.getD i zA).2) row.2 clk l []).2.1 _ e d1 d2 he
   refine⟨clk',l',k1,k2,?_⟩
   rw[step _ rfl]
   exact k3
  |some σ1=>
   rw[hx]at step
   simp only[Option.isSome_some,YHz,cond_false,ix]at step
   obtain⟨c2,l2,r1,r2,r3⟩:=hrec (fitG (pV (l0.getD i zA).2) row.2 clk l []).2.1 _ row.1 e hF.kn (by rw[hF.val σ1 hx];exact hJr σ σ1 hσ hx) he
   rw[r1,YCm,hF.val σ1 hx]at step
   rw[hF.val σ1 hx]at r3
   dsimp only at step
   obtain⟨d1,d2⟩:=Ye1 (σ0:=σ) r2 hF.new (by rw[r3,<-hF.val σ1 hx];exact hF.old)
   have hv:=YoB (see:=see) hI (ws:=wyM ((PR l0 tb).drop (i+1)) σ1 (rs++[row.1])) he
   rcases hvv:visit see (wyM ((PR l0 tb).drop (i+1)) σ1 (rs++[row.1])) e with⟨_|_,e'⟩
   ·rw[hvv]at step
    rw[chkT _ rfl,chkT _ (by simp;omega),tk,delR _ _ _ _ _ _ _ _ _ _ _ _ _ _ _ e' hfl,YCm]at step
    simp only[YHA,cond_true]at step
    exact⟨c2,_,d1,d2,by rw[step _ rfl]⟩
   ·rw[hvv]at step hv
    rw[chkT _ rfl,chkT _ (by simp;omega),tk,delR _ _ _ _ _ _ _ _ _ _ _ _ _ _ _ e' hfl,YCm]at step
    simp only[YHz,cond_false,nx]at step
    obtain⟨clk',l',k1,k2,k3⟩:=ih (n+1) (by omega) c2 _ e' d1 d2 (hv rfl)
    refine⟨clk',l',k1,k2,?_⟩
    rw[step _ rfl]
    exact k3
theorem YBF(hI: ∀w e,I e->(see w e).1=true->I (see w e).2)(ok:TbOk l0 tb)(hJ: ∀i,i<l0.length-> ∀row∈ (tb.getD i zT).2.2,∀σ σ',J σ->tsM σ (pV (l0.getD i zA).2) row.2=some σ'->J σ')
  (hsee: ∀(clk:Int) (l:Ent Val) (rs:List Int) (e:E),rs.length<=6->KN l->J (lk l)->I e->q48 loO hd l0 e.1 e.2.1 e.2.2 tb clk l m2 m3 rs=some ((see (rs,lk l) e).1,hd,l0,(see (rs,lk l) e).2.1,(see (rs,lk l) e).2.2.1,(see (rs,lk l) e).2.2.2,tb,clk,l,m2,m3,rs)) (j:Nat):
  ∀(k i:Nat),i+k=l0.length-> ∀clk (l:Ent Val) rs e,rs.length=i->KN l->J (lk l)->I e-> ∃clk' l',YaY loO (k+1+j) ((i:Int),hd,l0,tb,clk,l,m2,m3,rs,e.1,e.2.1,e.2.2)=some ((visit see (wyM ((PR l0 tb).drop i) (lk l) rs) e).1,hd,l0,tb,clk',l',m2,m3,(visit see (wyM ((PR l0 tb).drop i) (lk l) rs) e).2.1,(visit see (wyM ((PR l0 tb).drop i) (lk l) rs) e).2.2.1,(visit see (wyM ((PR l0 tb).drop i) (lk l) rs) e).2.2.2,rs)/\KN l'/\lk l'=lk l:=by
 intro k
 have hS:=ok.sm
 induction k with
 |zero=>
  intro i hi clk l rs e hr hk hj he
  have en:i=l0.length:=by omega
  subst en
  refine⟨clk,l,?_,hk,rfl⟩
  rw[show 0+1+j=j+1 by omega]
  show Yb7 loO (YaY loO j) _ _ _ _ _ _ _ _ _ _ _ _=_
  unfold Yb7
  rw[cT _ _ rfl]
  rw[hsee clk l rs e (by omega) hk hj he,YCm,YBC ok.len]
  dsimp only
  rw[chkT _ rfl,chkT _ rfl]
  simp only[wyM,visit]
  grind
 |succ k ih=>
  intro i hi clk l rs e hr hk hj he
  have hlt:i<l0.length:=by omega
  rw[show k+1+1+j=(k+1+j)+1 by omega]
  show∃clk' l',Yb7 loO (YaY loO (k+1+j)) _ _ _ _ _ _ _ _ _ _ _ _=_/\_
  unfold Yb7
  have e0:decide ((i:Int)=(l0.length:Int))=false:=by grind
  have hl:=ok.len
  simp only[e0,cond_false,YHE]
  rw[chkT _ (by omega)]
  obtain⟨clk',l',k1,k2,k3⟩:=YBE hI ok hJ (YaY loO (k+1+j)) hlt rs hr (fun clk l id e hk hj he=>ih (i+1) (by omega) clk l (rs++[id]) e (by simp_all) hk hj he) (lk l) hj (tb.getD i zT).2.2.length 0 (by omega) clk l e hk rfl he
  rw[show((0:Nat):Int)=0 from rfl,YG3]at k3
  refine⟨clk',l',?_,k1,k2⟩
  rw[k3,YCm,YBB hl hlt]
  simp only[wyM]
  generalize visit see ((tb.getD i zT).2.2.flatMap fun row=>match tsM (lk l) (pV (l0.getD i zA).2) row.2 with|some σ'=>wyM ((PR l0 tb).drop (i+1)) σ' (rs++[row.1])|none=>[]) e=q
  obtain⟨_|_,e'⟩:=q<;>rfl
theorem YoC: ∀n x y,YaY loO n x=some y->YaY loO (n+1) x=some y
 |0,_,_,h=>by cases h
 |n+1,x,y,h=>by
  have ih:=YoC n
  have h':Yb7 loO (YaY loO n) x.1 x.2.1 x.2.2.1 x.2.2.2.1 x.2.2.2.2.1 x.2.2.2.2.2.1 x.2.2.2.2.2.2.1 x.2.2.2.2.2.2.2.1 x.2.2.2.2.2.2.2.2.1 x.2.2.2.2.2.2.2.2.2.1 x.2.2.2.2.2.2.2.2.2.2.1 x.2.2.2.2.2.2.2.2.2.2.2=some y:=h
  refine YDB h' (fun h=>h) fun h=>chkm h fun h=>YEn h (fun z hz=> ?_) fun _ h=>h
  refine Yhy (fun s q hs=> ?_) hz
  exact YDB hs (fun h=>chkm h fun h=>chkm h fun h=>YFT h fun _ h=>chkm h fun h=>chkm h fun h=>chkm h fun h=>YDB h (fun h=>h) fun h=>YEn h (ih _) fun _ h=>h) fun h=>h
theorem run(hI: ∀w e,I e->(see w e).1=true->I (see w e).2)(ok:TbOk l0 tb)(hJ: ∀i,i<l0.length-> ∀row∈ (tb.getD i zT).2.2,∀σ σ',J σ->tsM σ (pV (l0.getD i zA).2) row.2=some σ'->J σ')
  (hsee: ∀(clk:Int) (l:Ent Val) (rs:List Int) (e:E),rs.length<=6->KN l->J (lk l)->I e->q48 loO hd l0 e.1 e.2.1 e.2.2 tb clk l m2 m3 rs=some ((see (rs,lk l) e).1,hd,l0,(see (rs,lk l) e).2.1,(see (rs,lk l) e).2.2.1,(see (rs,lk l) e).2.2.2,tb,clk,l,m2,m3,rs)) (clk:Int) (l:Ent Val) (e:E) (hk:KN l) (hj:J (lk l)) (he:I e):
  ∃clk' l',q50 loO 0 hd l0 tb clk l m2 m3 [] e.1 e.2.1 e.2.2=some ((visit see (wyM (PR l0 tb) (lk l) []) e).1,hd,l0,tb,clk',l',m2,m3,(visit see (wyM (PR l0 tb) (lk l) []) e).2.1,(visit see (wyM (PR l0 tb) (lk l) []) e).2.2.1,(visit see (wyM (PR l0 tb) (lk l) []) e).2.2.2,[]):=by
 obtain⟨clk',l',h1,_⟩:=YBF hI ok hJ hsee 0 l0.length 0 (by omega) clk l [] e rfl hk hj he
 exact⟨clk',l',Yd2 YoC (n:=0) (by rw[YHl];exact h1)⟩
end
end
end Go.Abs.G47
namespace Go.Abs.G47
open Go Go.Abs
noncomputable section
def SzV(l:Vals):Prop:=l.length<=maxEl/\ ∀v∈l,v.2.2.size<=maxEl
def sg(a b:Int):Int:=bif decide (a<b)then-1 else bif decide (b<a)then 1 else 0
theorem Ye2(a b:Int):q124 loO a b=some (sg a b):=by
 unfold q124 sg
 grind
theorem sg_zero{a b:Int}:sg a b=0↔a=b:=by
 unfold sg
 grind
def fS(a b:ByteArray)(n:Nat):Option (Int⊕ (ByteArray×ByteArray)):=bif !decide (YCn a n=YCn b n)then some (.inl (sg (YCn a n) (YCn b n)))else none
def cmpS(a b:ByteArray):Int:=match YCo (fS a b) (min a.size b.size) 0 (.inr (a,b))with
 | .inl i=>i
 | .inr _=>sg a.size b.size
theorem YBG(a b:ByteArray)(ha:a.size<=maxEl)(hb:b.size<=maxEl):q125 loO a b=some (cmpS a b):=by
 have hm:maxEl=1073741824:=rfl
 have hL:Yhh loO (a,b,0)=some (YCo (fS a b) (min a.size b.size) 0 (.inr (a,b))):=by
  refine Yak (fun n=>(a,b,(n:Int))) _ (min a.size b.size) _ rfl ?_ (fun n hn=> ?_)
  ·rcases Nat.le_total a.size b.size with h|h
   ·rw[Nat.min_eq_left h];simp[Yc3]
   ·rw[Nat.min_eq_right h]
    have e:decide ((b.size:Int)< (b.size:Int))=false:=by simp
    simp only[Yc3,e,cond_false]
    simp
  ·have e1:decide ((n:Int)< (a.size:Int))=true:=by grind
   have e1':decide ((n:Int)< (b.size:Int))=true:=by grind
   have e2:YHK .i64 ((n:Int)+1)=((n+1:Nat):Int):=by rw[wr6 (by omega) (by omega)];omega
   have r1:=Yhp a n
   have r2:=Yhp b n
   simp only[Yc3,e1,e1',cond_true,e2,Ye2,YCm,wr6 (show-9223372036854775808<=YCn a n by omega) (by omega),wr6 (show-9223372036854775808<=YCn b n by omega) (by omega)]
   rw[chkT _ (by omega),chkT _ (by omega),chkT _ (by omega),chkT _ (by omega)]
   unfold fS
   grind
 unfold q125 cmpS
 rw[hL,YCm]
 rcases YaP (f:=fS a b) (r0:=.inr (a,b)) (min a.size b.size) 0 with⟨m,r,h1,h2,h3,h4⟩| ⟨h1,h2⟩
 ·rw[h4]
  unfold fS at h3
  cases hd:decide (YCn a m=YCn b m)with
  |true=>simp_all
  |false=>rw[hd]at h3;injection h3 with h3;subst h3;rfl
 ·rw[h1];simp only[alt2,Ye2,YCm]
theorem YBH{a b:ByteArray}:cmpS a b=0↔a=b:=by
 unfold cmpS
 rcases YaP (f:=fS a b) (r0:=.inr (a,b)) (min a.size b.size) 0 with⟨m,r,h1,h2,h3,h4⟩| ⟨h1,h2⟩
 ·rw[h4]
  unfold fS at h3
  by_cases hd:YCn a m=YCn b m
  ·simp_all
  ·simp[hd]at h3
   subst h3
   rw[sg_zero]
   grind
 ·rw[h1]
  simp only[sg_zero]
  constructor
  ·intro h
   have hs:a.size=b.size:=by omega
   refine YBf hs (fun n hn=> ?_)
   have:=h2 n (by omega) (by omega)
   unfold fS at this
   grind
  simp_all
def cmpV(v w:Int×Int×ByteArray):Int:=bif !decide (sg v.1 w.1=0)then sg v.1 w.1 else bif !decide (sg v.2.1 w.2.1=0)then sg v.2.1 w.2.1 else cmpS v.2.2 w.2.2
theorem YoD(v w:Int×Int×ByteArray)(hv:v.2.2.size<=maxEl)(hw:w.2.2.size<=maxEl):q126 loO v.1 v.2.1 v.2.2 w.1 w.2.1 w.2.2=some (cmpV v w):=by
 unfold q126 cmpV
 simp only[Ye2,YCm,YBG _ _ hv hw]
 grind
theorem cmpV_zero{v w:Int×Int×ByteArray}:cmpV v w=0↔v=w:=by
 obtain⟨a,b,c⟩:=v
 obtain⟨a',b',c'⟩:=w
 unfold cmpV
 by_cases h1:sg a a'=0
 ·by_cases h2:sg b b'=0
  ·simp only[h1,h2,decide_true,YHz,cond_false,YBH]
   rw[sg_zero]at h1 h2
   simp_all
  ·simp only[h1,h2,decide_true,decide_false,YHz,YHA,cond_false,cond_true]
   refine⟨fun h=>h.elim,fun h=> ?_⟩
   injection h with _ h;injection h with h _
   exact h2 (sg_zero.2 h)
 ·simp only[h1,decide_false,YHA,cond_true]
  refine⟨fun h=>h.elim,fun h=> ?_⟩
  injection h with h _
  exact h1 (sg_zero.2 h)
def fL(a b:Vals)(n:Nat):Option (Int⊕ (Vals×Vals)):=bif !decide (cmpV (a.getD n zV) (b.getD n zV)=0)then some (.inl (cmpV (a.getD n zV) (b.getD n zV)))else none
def cmpL(a b:Vals):Int:=match YCo (fL a b) (min a.length b.length) 0 (.inr (a,b))with
 | .inl i=>i
 | .inr _=>sg a.length b.length
theorem YBI(a b:Vals)(ha:SzV a)(hb:SzV b):q133 loO a b=some (cmpL a b):=by
 have hm:maxEl=1073741824:=rfl
 have hbl:=hb.1
 have hL:Yhi loO (a,b,0)=some (YCo (fL a b) (min a.length b.length) 0 (.inr (a,b))):=by
  refine Yak (fun n=>(a,b,(n:Int))) _ (min a.length b.length) _ rfl ?_ (fun n hn=> ?_)
  ·rcases Nat.le_total a.length b.length with h|h
   ·rw[Nat.min_eq_left h];simp[Yc6]
   ·rw[Nat.min_eq_right h]
    have e:decide ((b.length:Int)< (b.length:Int))=false:=by simp
    simp only[Yc6,e,cond_false]
    simp
  ·have e1:decide ((n:Int)< (a.length:Int))=true:=by grind
   have e1':decide ((n:Int)< (b.length:Int))=true:=by grind
   have e2:YHK .i64 ((n:Int)+1)=((n+1:Nat):Int):=by rw[wr6 (by omega) (by omega)];omega
   have q1:=ha.2 (a.getD n zV) (Yaj (by omega))
   have q2:=hb.2 (b.getD n zV) (Yaj (by omega))
   simp only[Yc6,e1,e1',cond_true,e2,YHE]
   rw[chkT _ (by omega),chkT _ (by omega),YoD _ _ q1 q2,YCm]
   unfold fL
   grind
 unfold q133 cmpL
 rw[hL,YCm]
 rcases YaP (f:=fL a b) (r0:=.inr (a,b)) (min a.length b.length) 0 with⟨m,r,h1,h2,h3,h4⟩| ⟨h1,h2⟩
 ·rw[h4]
  unfold fL at h3
  cases hd:decide (cmpV (a.getD m zV) (b.getD m zV)=0)with
  |true=>simp_all
  |false=>rw[hd]at h3;injection h3 with h3;subst h3;rfl
 ·rw[h1];simp only[alt2,Ye2,YCm]
theorem cmpL_zero{a b:Vals}:cmpL a b=0↔a=b:=by
 unfold cmpL
 rcases YaP (f:=fL a b) (r0:=.inr (a,b)) (min a.length b.length) 0 with⟨m,r,h1,h2,h3,h4⟩| ⟨h1,h2⟩
 ·rw[h4]
  unfold fL at h3
  by_cases hd:cmpV (a.getD m zV) (b.getD m zV)=0
  ·simp_all
  ·rw[decide_eq_false hd]at h3;injection h3 with h3
   subst h3
   exact⟨fun h=>absurd h hd,fun h=>by subst h;exact absurd (cmpV_zero.2 rfl) hd⟩
 ·rw[h1]
  simp only[sg_zero]
  constructor
  ·intro h
   have hs:a.length=b.length:=by omega
   refine Yop (d:=zV) hs (fun n hn=> ?_)
   have:=h2 n (by omega) (by omega)
   unfold fL at this
   by_cases hd:cmpV (a.getD n zV) (b.getD n zV)=0
   ·exact cmpV_zero.1 hd
   simp_all
  simp_all
theorem YBJ(a b:Vals)(ha:SzV a)(hb:SzV b):q134 loO a b=some (decide (a=b)):=by
 unfold q134
 rw[YBI a b ha hb,YCm]
 have:decide (cmpL a b=0)=decide (a=b):=by rw[decide_eq_decide];exact cmpL_zero
 grind
end
end Go.Abs.G47
namespace Go.Abs.G47
open Go Go.Abs
noncomputable section
def cl:List UInt8->List UInt8->Int
 | [],[]=>0
 | [],_::_=> -1
 |_::_,[]=>1
 |x::a,y::b=>if x.toNat<y.toNat then-1 else if y.toNat<x.toNat then 1 else cl a b
theorem Ycf: ∀a:List UInt8,cl a a=0
 | []=>rfl
 |x::a=>by simp[cl,Ycf a]
theorem YoE: ∀{a b:List UInt8},cl a b=0->a=b
 | [],[],_=>rfl
 | [],_::_,h=>by trivial
 |_::_,[],h=>by simp[cl]at h
 |x::a,y::b,h=>by
  simp only[cl]at h
  split at h
  ·omega
  ·split at h
   ·omega
   ·have:x=y:=UInt8.toNat_inj.1 (by omega)
    rw[this,YoE h]
theorem YBK(p:List UInt8)(s t:List UInt8):cl (p++s) (p++t)=cl s t:=by
 induction p with
 |nil=>rfl
 |cons x p ih=>simp[cl,ih]
theorem Ye3: ∀a b:List UInt8,le8 a b=decide (cl a b<=0)
 | [],b=>by cases b<;>rfl
 |_::_,[]=>rfl
 |x::a,y::b=>by
  simp only[le8,cl]
  by_cases h1:x.toNat<y.toNat
  ·simp_all
  ·have h1':YHg x.toNat y.toNat=false:=by rw[<-YHD];simp_all
   by_cases h2:y.toNat<x.toNat
   ·have:YHg y.toNat x.toNat=true:=by simp_all
    grind
   ·have h2':YHg y.toNat x.toNat=false:=by grind
    simp[h1,h1',h2,h2',Ye3 a b]
def esc:List UInt8->List UInt8
 | []=>[]
 |b::r=>(if b.toNat=0 then[0,255]else[b])++esc r
theorem YoF: ∀(x y s t:List UInt8),cl (esc x++([0,1]++s)) (esc y++([0,1]++t))=if cl x y=0 then cl s t else cl x y
 | [],[],s,t=>by rfl
 | [],b::y,s,t=>by
   simp only[esc]
   by_cases h:b.toNat=0
   ·simp[h,cl]
   ·have:0<b.toNat:=by omega
    simp[h,cl,this]
 |a::x,[],s,t=>by
  simp only[esc]
  by_cases h:a.toNat=0
  ·simp[h,cl]
  ·have:0<a.toNat:=by omega
   simp[h,cl,this]
 |a::x,b::y,s,t=>by
  have ih:=YoF x y s t
  by_cases h1:a.toNat<b.toNat
  ·have hb:b.toNat≠0:=by omega
   by_cases ha:a.toNat=0
   ·have:0<b.toNat:=by omega
    simp[esc,ha,hb,cl,this]
   ·simp[esc,ha,hb,cl,h1]
  ·by_cases h2:b.toNat<a.toNat
   ·have ha:a.toNat≠0:=by omega
    by_cases hb:b.toNat=0
    ·have:0<a.toNat:=by omega
     simp[esc,ha,hb,cl,this]
    ·simp[esc,ha,hb,cl,h1,h2]
   ·have:a=b:=UInt8.toNat_inj.1 (by omega)
    subst this
    have e:cl (a::x) (a::y)=cl x y:=by simp[cl]
    rw[e,<-ih]
    simp only[esc,YGY]
    exact YBK _ _ _
def be:Nat->Nat->List UInt8
 |0,_=>[]
 |k+1,n=>UInt8.ofNat (n/256^k % 256)::be k n
theorem Ye4: ∀(k n:Nat),be k n=be k (n % 256^k)
 |0,n=>rfl
 |k+1,n=>by
  have h1:n % 256^(k+1)/256^k % 256=n/256^k % 256:=by
   rw[Nat.pow_succ,Nat.mod_mul_right_div_self,Nat.mod_mod]
  have h2:n % 256^(k+1) % 256^k=n % 256^k:=Nat.mod_mod_of_dvd _ (Nat.pow_dvd_pow 256 (Nat.le_succ k))
  simp only[be]
  rw[h1,Ye4 k n,Ye4 k (n % 256^(k+1)),h2]
theorem YoG: ∀(k m n:Nat) (s t:List UInt8),m<256^k->n<256^k->cl (be k m++s) (be k n++t)=if m<n then-1 else if n<m then 1 else cl s t
 |0,m,n,s,t,hm,hn=>by
  simp at hm hn;subst hm;subst hn;rfl
 |k+1,m,n,s,t,hm,hn=>by
  have hp:0<256^k:=Nat.pow_pos (by decide)
  rw[Nat.pow_succ]at hm hn
  have qm:m/256^k<256:=Nat.div_lt_of_lt_mul hm
  have qn:n/256^k<256:=Nat.div_lt_of_lt_mul hn
  have em:=Nat.div_add_mod m (256^k)
  have en:=Nat.div_add_mod n (256^k)
  have lm:=Nat.mod_lt m hp
  have ln:=Nat.mod_lt n hp
  have tm:(UInt8.ofNat (m/256^k % 256)).toNat=m/256^k:=by simp_all
  have tn:(UInt8.ofNat (n/256^k % 256)).toNat=n/256^k:=by simp_all
  simp only[be,YG6,cl,tm,tn]
  have mono: ∀{a b c d:Nat},a<b->c<256^k->256^k*a+c<256^k*b+d:=fun{a b c d} h1 h2=>by
   have:256^k*(a+1)<=256^k*b:=Nat.mul_le_mul_left _ h1
   grind
  by_cases h1:m/256^k<n/256^k
  ·grind
  ·by_cases h2:n/256^k<m/256^k
   ·grind
   ·have e:m/256^k=n/256^k:=by omega
    simp only[h1,h2,if_false]
    rw[Ye4 k m,Ye4 k n,YoG k _ _ s t lm ln]
    grind
theorem Ycg(a b:ByteArray):bl (a++b)=bl a++bl b:=by rfl
theorem Ybf(l:List Int):bl (YCr l)=l.map fun n=>UInt8.ofNat n.toNat:=by rfl
theorem Ye5(s:ByteArray)(n:Nat):YCn s n=(((s.data.getD n 0).toNat:Nat):Int):=by rfl
theorem YBL(x y:ByteArray):cmpS x y=cl (bl x) (bl y):=by
 have key: ∀k n,n+k=min x.size y.size->(match YCo (fS x y) k n (.inr (x,y))with| .inl i=>i| .inr _=>sg x.size y.size)=cl ((bl x).drop n) ((bl y).drop n):=by
  intro k
  induction k with
  |zero=>
   intro n hn
   simp only[YCo]
   rcases Nat.lt_trichotomy x.size y.size with h|h|h
   ·have e1:(bl x).drop n=[]:=List.drop_eq_nil_of_le (by rw[Ybp];omega)
    rw[e1,YeT y n (by omega)]
    have:(x.size:Int)<y.size:=by omega
    simp[cl,sg,this]
   ·have e1:(bl x).drop n=[]:=List.drop_eq_nil_of_le (by rw[Ybp];omega)
    have e2:(bl y).drop n=[]:=List.drop_eq_nil_of_le (by rw[Ybp];omega)
    rw[e1,e2,h];simp[cl,sg]
   ·have e1:(bl y).drop n=[]:=List.drop_eq_nil_of_le (by rw[Ybp];omega)
    rw[e1,YeT x n (by omega)]
    have a1:(y.size:Int)<x.size:=by omega
    have a2: ¬ (x.size:Int)<y.size:=by omega
    simp[cl,sg,a1,a2]
  |succ k ih=>
   intro n hn
   rw[YeT x n (by omega),YeT y n (by omega)]
   simp only[YCo,fS,Ye5,cl]
   by_cases h1:(x.data.getD n 0).toNat< (y.data.getD n 0).toNat
   ·have a1: ¬ ((x.data.getD n 0).toNat:Int)=((y.data.getD n 0).toNat:Int):=by omega
    simp only[YHA,cond_true,sg]
    simp_all
   ·by_cases h2:(y.data.getD n 0).toNat< (x.data.getD n 0).toNat
    ·have a1: ¬ ((x.data.getD n 0).toNat:Int)=((y.data.getD n 0).toNat:Int):=by omega
     have a2: ¬ ((x.data.getD n 0).toNat:Int)< ((y.data.getD n 0).toNat:Int):=by omega
     have a3:((y.data.getD n 0).toNat:Int)< ((x.data.getD n 0).toNat:Int):=by omega
     rw[decide_eq_false a1];simp only[YHA,cond_true,sg]
     simp_all
    grind
 have:=key (min x.size y.size) 0 (by omega)
 trivial
def num8(n:Int):List UInt8:=be 8 (n+9223372036854775808).toNat
def kb(v:Int×Int×ByteArray):List UInt8:=UInt8.ofNat v.1.toNat::(if v.1=1\/v.1=3 then num8 v.2.1 else if v.1=2 then esc (bl v.2.2)++[0,1]else[])
def I64(n:Int):Prop:= -9223372036854775808<=n/\n<=9223372036854775807
theorem Ye6{v:Int×Int×ByteArray}(h:vB v=true):(v.1=0/\v.2.1=0/\v.2.2=YHJ #[])\/(v.1=1/\v.2.2=YHJ #[])\/(v.1=2/\v.2.1=0/\v.2.2.size<=200)\/(v.1=3/\v.2.2=YHJ #[]):=by
 obtain⟨a,b,c⟩:=v
 have he:=Yc9 a b c
 unfold q6 at he
 grind
theorem YoH(a b:Int)(ha:I64 a)(hb:I64 b)(s t:List UInt8):cl (num8 a++s) (num8 b++t)=if sg a b=0 then cl s t else sg a b:=by
 unfold num8
 obtain⟨a1,a2⟩:=ha
 obtain⟨b1,b2⟩:=hb
 rw[YoG 8 _ _ s t (by omega) (by omega)]
 unfold sg
 grind
theorem Yhz(a:Int):sg a a=0:=sg_zero.2 rfl
theorem YBM{v w:Int×Int×ByteArray}(hv:vB v=true)(hw:vB w=true)(iv:I64 v.2.1)(iw:I64 w.2.1)(s t:List UInt8):cl (kb v++s) (kb w++t)=if cmpV v w=0 then cl s t else cmpV v w:=by
 have kv:=Ye6 hv
 have kw:=Ye6 hw
 by_cases hk:v.1=w.1
 ·have e1:sg v.1 w.1=0:=sg_zero.2 hk
  have e2:cmpV v w=if sg v.2.1 w.2.1=0 then cl (bl v.2.2) (bl w.2.2)else sg v.2.1 w.2.1:=by
   unfold cmpV
   rw[e1,YBL]
   simp
  have e3: ∀x y:List UInt8,cl ((UInt8.ofNat v.1.toNat::x)++s) ((UInt8.ofNat w.1.toNat::y)++t)=cl (x++s) (y++t):=fun x y=>by
   rw[hk];simp[cl]
  unfold kb
  rw[e3,e2]
  rcases kv with⟨g1,g2,g3⟩| ⟨g1,g3⟩| ⟨g1,g2,g3⟩| ⟨g1,g3⟩
  ·rcases kw with⟨k1,k2,k3⟩| ⟨k1,k3⟩| ⟨k1,k2,k3⟩| ⟨k1,k3⟩<;>try omega
   simp[g1,k1,g2,k2,g3,k3,Yhz,Ycf]
  ·rcases kw with⟨k1,k2,k3⟩| ⟨k1,k3⟩| ⟨k1,k2,k3⟩| ⟨k1,k3⟩<;>try omega
   simp only[g1,k1,g3,k3,true_or,if_true,Ycf,YoH _ _ iv iw]
   omega
  ·rcases kw with⟨k1,k2,k3⟩| ⟨k1,k3⟩| ⟨k1,k2,k3⟩| ⟨k1,k3⟩<;>try omega
   have q: ¬ ((2:Int)=1\/(2:Int)=3):=by decide
   simp only[g1,k1,g2,k2,q,if_false,if_true,Yhz,YGY,YoF]
  ·rcases kw with⟨k1,k2,k3⟩| ⟨k1,k3⟩| ⟨k1,k2,k3⟩| ⟨k1,k3⟩<;>try(rw[g1,k1]at hk;exact absurd hk (by decide))
   simp only[g1,k1,g3,k3,or_true,if_true,Ycf,YoH _ _ iv iw]
   omega
 ·have e1:sg v.1 w.1≠0:=fun h=>hk (sg_zero.1 h)
  have e2:cmpV v w=sg v.1 w.1:=by unfold cmpV;grind
  have r1:0<=v.1/\v.1<=3:=by omega
  have r2:0<=w.1/\w.1<=3:=by omega
  have t1:(UInt8.ofNat v.1.toNat).toNat=v.1.toNat:=by simp;omega
  have t2:(UInt8.ofNat w.1.toNat).toNat=w.1.toNat:=by simp;omega
  rw[e2,if_neg e1]
  unfold kb
  simp only[YG6,cl,t1,t2]
  unfold sg
  grind
def kl(l:Vals):List UInt8:=l.flatMap kb
def Ok(l:Vals):Prop:= ∀v∈l,vB v=true/\I64 v.2.1
theorem YoI{a b:Vals}(h:a.length=b.length)(ha:Ok a)(hb:Ok b):cl (kl a) (kl b)=cmpL a b:=by
 have key: ∀k n,n+k=a.length->cl (kl (a.drop n)) (kl (b.drop n))=(match YCo (fL a b) k n (.inr (a,b))with| .inl i=>i| .inr _=>sg a.length b.length):=by
  intro k
  induction k with
  |zero=>
   intro n hn
   rw[List.drop_eq_nil_of_le (by omega),List.drop_eq_nil_of_le (by omega)]
   simp only[YCo,h,Yhz];rfl
  |succ k ih=>
   intro n hn
   have d1:a.drop n=a.getD n zV::a.drop (n+1):=by
    rw[List.drop_eq_getElem_cons (by omega),YG4,YGI (by omega)];rfl
   have d2:b.drop n=b.getD n zV::b.drop (n+1):=by
    rw[List.drop_eq_getElem_cons (by omega),YG4,YGI (by omega)];rfl
   obtain⟨p1,p2⟩:=ha (a.getD n zV) (Yaj (by omega))
   obtain⟨q1,q2⟩:=hb (b.getD n zV) (Yaj (by omega))
   rw[d1,d2]
   simp only[kl,List.flatMap_cons]
   rw[YBM p1 q1 p2 q2]
   simp only[YCo,fL]
   by_cases hc:cmpV (a.getD n zV) (b.getD n zV)=0
   ·rw[if_pos hc,decide_eq_true hc]
    exact ih (n+1) (by omega)
   simp_all
 unfold cmpL
 grind
theorem YBN{a b:Vals}(h:a.length=b.length)(ha:Ok a)(hb:Ok b):kl a=kl b↔a=b:=by
 constructor
 ·intro e
  have:=YoI h ha hb
  rw[e,Ycf]at this
  exact cmpL_zero.1 this.symm
 simp_all
theorem YGr{x:Nat}(h:x<2^63):x^^^2^63=x+2^63:=by
 apply Nat.eq_of_testBit_eq
 intro i
 rw[Nat.testBit_xor,Nat.add_comm x]
 by_cases hi:i=63
 ·grind
 ·rw[Nat.testBit_two_pow_of_ne (Ne.symm hi)]
  rcases Nat.lt_or_gt_of_ne hi with h1|h1
  ·rw[Nat.testBit_two_pow_add_gt h1];simp
  ·have e1:x.testBit i=false:=Nat.testBit_lt_two_pow (Nat.lt_trans h (Nat.pow_lt_pow_right (by decide) h1))
   have e2:(2^63+x).testBit i=false:=Nat.testBit_lt_two_pow (by
    have:2^64<=2^i:=Nat.pow_le_pow_right (by decide) h1
    omega)
   simp_all
theorem xor63'{x:Nat}(h:x<2^63):(x+2^63)^^^2^63=x:=by
 rw[<-YGr h,Nat.xor_assoc,Nat.xor_self,Nat.xor_zero]
theorem w64(n:Int):YHK .u64 n=n % 18446744073709551616:=by
 rfl
theorem w8(n:Int):YHK .u8 n=n % 256:=by
 rfl
theorem YBO{n:Int}(h:I64 n):bits .xor .u64 (YHK .u64 n) 9223372036854775808=(((n+9223372036854775808).toNat:Nat):Int):=by
 obtain⟨h1,h2⟩:=h
 rw[w64]
 have hm:n % 18446744073709551616=(((n % 18446744073709551616).toNat:Nat):Int):=by omega
 rw[hm]
 have hx:(BitVec.ofInt 64 (((n % 18446744073709551616).toNat:Nat):Int)^^^BitVec.ofInt 64 ((9223372036854775808:Nat):Int)).toNat=(n % 18446744073709551616).toNat^^^2^63:=by
  grind
 have hv:(n % 18446744073709551616).toNat^^^2^63=(n+9223372036854775808).toNat:=by
  by_cases hn:0<=n
  ·have:(n % 18446744073709551616).toNat=n.toNat:=by omega
   rw[this,YGr (by omega)];omega
  ·have:(n % 18446744073709551616).toNat=(n+9223372036854775808).toNat+2^63:=by omega
   rw[this,xor63' (by omega)]
 show YHK .u64 ((BitVec.ofInt 64 (((n % 18446744073709551616).toNat:Nat):Int)^^^BitVec.ofInt 64 ((9223372036854775808:Nat):Int)).toNat:Nat)=_
 rw[hx,hv,w64]
 omega
def YER(N k:Nat):Int:=YHK .u8 ((N:Int).fdiv (2^(56-8*k)))
def YD4(N:Nat)(out:ByteArray):Nat->ByteArray
 |0=>out
 |k+1=>YD4 N out k++YCr [YER N k]
theorem YoJ(N k:Nat):YER N k=((N/2^(56-8*k) % 256:Nat):Int):=by
 unfold YER
 rw[w8]
 grind
theorem YoK(a b:ByteArray):(a++b).size=a.size+b.size:=ByteArray.size_append
theorem YhA(l:List Int):(YCr l).size=l.length:=by simp[YCr,ByteArray.size]
theorem YoL(N:Nat)(out:ByteArray): ∀k,(YD4 N out k).size=out.size+k
 |0=>rfl
 |k+1=>by simp only[YD4,YoK,YhA,YoL N out k,List.length_singleton];omega
theorem YoM(N:Nat)(out:ByteArray):bl (YD4 N out 8)=bl out++be 8 N:=by
 simp only[YD4,Ycg,Ybf,YoJ,YGK,YGM,YHE,YGY,List.singleton_append,be]
 rfl
theorem YoN(n:Int)(out:ByteArray)(h:I64 n)(ho:out.size+8<=maxEl):q43 loO n out=some (YD4 (n+9223372036854775808).toNat out 8):=by
 unfold q43
 rw[YBO h]
 generalize(n+9223372036854775808).toNat=N
 have hL:YgK loO ((N:Int),56,out)=some (YD4 N out 8):=by
  refine Yan (N:=8) (st:=fun k=>((N:Int),56-8*(k:Int),YD4 N out k)) rfl ?_ (fun k hk=> ?_)
  ·rfl
  ·have e1:decide ((0:Int)<=56-8*(k:Int))=true:=by grind
   have e2:YHK .i64 (56-8*(k:Int)-8)=56-8*((k+1:Nat):Int):=by rw[wr6 (by omega) (by omega)];omega
   have e3:min (56-8*(k:Int)).toNat (IntKind.bits .u64)=56-8*k:=by
    have:IntKind.bits .u64=64:=rfl
    omega
   have e4:inB [YER N k]=true:=by
    have:=YoJ N k
    simp only[inB,List.all_cons,List.all_nil,Bool.and_true,YHy,decide_eq_true_eq]
    omega
   simp only[YgJ,e1,cond_true,e3]
   rw[chkT _ (by omega)]
   show(bif inB [YER N k]then _ else none)=_
   rw[e4,cond_true,chkT _ (by rw[YoL];grind),e2];rfl
 simp_all
theorem YoO: ∀a b:List UInt8,esc (a++b)=esc a++esc b
 | [],b=>rfl
 |x::a,b=>by simp[esc,YoO a b]
theorem YoP: ∀a:List UInt8,(esc a).length<=2*a.length
 | []=>by trivial
 |x::a=>by
  have:=YoP a
  simp only[esc,List.length_append,YG2]
  grind
def outE(s out:ByteArray):Nat->ByteArray
 |0=>out
 |n+1=>bif decide (YCn s n=0)then(outE s out n++YCr [YCn s n])++YCr [255]else outE s out n++YCr [YCn s n]
theorem YhB(s out:ByteArray): ∀n,(outE s out n).size<=out.size+2*n
 |0=>by simp[outE]
 |n+1=>by
  have:=YhB s out n
  simp only[outE]
  cases decide (YCn s n=0)<;>simp[YhA]<;>omega
theorem YoQ(s out:ByteArray): ∀n,n<=s.size->bl (outE s out n)=bl out++esc ((bl s).take n)
 |0,_=>by simp[outE,esc]
 |n+1,h=>by
  have ih:=YoQ s out n (by omega)
  rw[YA4 s n (by omega),YoO]
  have hb:UInt8.ofNat (YCn s n).toNat=s.data.getD n 0:=by rw[Ye5];simp
  simp only[outE]
  by_cases h0:YCn s n=0
  ·have hz:(s.data.getD n 0).toNat=0:=by rw[Ye5]at h0;omega
   have hz':s.data.getD n 0=0:=UInt8.toNat_inj.1 hz
   rw[decide_eq_true h0,cond_true,Ycg,Ycg,ih,Ybf,Ybf]
   simp only[YGK,YGM,hb,esc,hz',YGY,List.append_nil]
   rfl
  ·have hz: ¬ (s.data.getD n 0).toNat=0:=by rw[Ye5]at h0;omega
   rw[decide_eq_false h0,cond_false,Ycg,ih,Ybf]
   simp only[YGK,YGM,hb,esc,hz,if_false,YGY,List.append_nil]
theorem YBP(v:Int×Int×ByteArray)(out:ByteArray)(hs:v.2.2.size<=200)(ho:out.size<=1000):YgL loO ((v.2.2.size:Int),0,v.1,v.2.1,v.2.2,out)=some (outE v.2.2 out v.2.2.size):=by
 have hm:maxEl=1073741824:=rfl
 refine Yan (N:=v.2.2.size) (st:=fun n=>((v.2.2.size:Int),(n:Int),v.1,v.2.1,v.2.2,outE v.2.2 out n)) rfl ?_ (fun n hn=> ?_)
 ·simp[Yeo]
 ·have e1:decide ((n:Int)< (v.2.2.size:Int))=true:=by simp_all
  have e2:YHK .i64 ((n:Int)+1)=((n+1:Nat):Int):=by rw[wr6 (by omega) (by omega)];omega
  have r:=Yhp v.2.2 n
  have e3:inB [YCn v.2.2 n]=true:=by
   simp only[inB,List.all_cons,List.all_nil,Bool.and_true,YHy,decide_eq_true_eq];omega
  have e4:inB [(255:Int)]=true:=rfl
  have hz:=YhB v.2.2 out n
  simp only[Yeo,e1,e2,e3,e4,cond_true]
  rw[chkT _ (by omega),chkT _ (by grind),chkT _ (by omega),chkT _ (by simp[YhA];omega)]
  simp only[outE]
  grind
def keyB(v:Int×Int×ByteArray):ByteArray:=((q44 loO v.1 v.2.1 v.2.2).getD (YHJ #[],0)).1
theorem YoR{v:Int×Int×ByteArray}(hv:vB v=true)(hi:I64 v.2.1):q44 loO v.1 v.2.1 v.2.2=some (keyB v,0)/\bl (keyB v)=kb v:=by
 have hm:maxEl=1073741824:=rfl
 have hc:=Ye6 hv
 have ew:YHK .u8 v.1=v.1:=by rw[w8];omega
 have ei:inB [v.1]=true:=by simp only[inB,List.all_cons,List.all_nil,Bool.and_true,YHy,decide_eq_true_eq];omega
 have hsz:(YCr [v.1]).size=1:=by rfl
 have main: ∃k,q44 loO v.1 v.2.1 v.2.2=some (k,0)/\bl k=kb v:=by
  unfold q44
  rw[Yc9,YCm]
  simp only[hv,YHz,cond_false,ew,ei,cond_true]
  rcases hc with⟨g1,g2,g3⟩| ⟨g1,g3⟩| ⟨g1,g2,g3⟩| ⟨g1,g3⟩
  ·have a1:decide (v.1=1)=false:=by simp_all
   have a3:decide (v.1=3)=false:=by simp_all
   have a2:decide (v.1=2)=false:=by simp_all
   simp only[a1,a3,cond_false,YbL,a2,YCm]
   refine⟨_,rfl,?_⟩
   rw[Ybf];unfold kb;grind
  ·have a1:decide (v.1=1)=true:=by simp_all
   simp only[a1,cond_true,YbL]
   rw[YoN _ _ hi (by omega),YCm,YCm]
   refine⟨_,rfl,?_⟩
   rw[YoM,Ybf];unfold kb num8;grind
  ·have a1:decide (v.1=1)=false:=by simp_all
   have a3:decide (v.1=3)=false:=by simp_all
   have a2:decide (v.1=2)=true:=by simp_all
   have e4:inB [(0:Int),1]=true:=rfl
   have hz:=YhB v.2.2 (YCr [v.1]) v.2.2.size
   simp only[a1,a3,cond_false,YbL,a2,cond_true]
   rw[YBP v _ g3 (by omega),YCm,e4,cond_true,chkT _ (by grind),YCm]
   refine⟨_,rfl,?_⟩
   rw[Ycg,YoQ _ _ _ (YHf _),Ybf,Ybf];unfold kb
   have ht:(bl v.2.2).take v.2.2.size=bl v.2.2:=List.take_of_length_le (by rw[Ybp];omega)
   simp_all
  ·have a1:decide (v.1=1)=false:=by simp_all
   have a3:decide (v.1=3)=true:=by simp_all
   simp only[a1,a3,cond_false,YbL,cond_true]
   rw[YoN _ _ hi (by omega),YCm,YCm]
   refine⟨_,rfl,?_⟩
   rw[YoM,Ybf];unfold kb num8;grind
 obtain⟨k,h1,h2⟩:=main
 have:keyB v=k:=by unfold keyB;simp_all
 simp_all
theorem YhC: ∀k n,(be k n).length=k
 |0,_=>rfl
 |k+1,n=>by simp[be,YhC k]
theorem YoS{v:Int×Int×ByteArray}(hv:vB v=true):(kb v).length<=403:=by
 unfold kb num8
 rcases Ye6 hv with⟨g1,g2,g3⟩| ⟨g1,g3⟩| ⟨g1,g2,g3⟩| ⟨g1,g3⟩
 ·grind
 ·simp[g1,YhC]
 ·have:=YoP (bl v.2.2)
  rw[Ybp]at this
  grind
 ·simp[g1,YhC]
def kOut(l:Vals):Nat->ByteArray
 |0=>YHJ #[]
 |n+1=>kOut l n++keyB (l.getD n zV)
theorem YhD{l:Vals}(h:Ok l): ∀n,n<=l.length->bl (kOut l n)=kl (l.take n)/\ (kOut l n).size<=403*n
 |0,_=>⟨rfl,YHf _⟩
 |n+1,hn=>by
  obtain⟨i1,i2⟩:=YhD h n (by omega)
  obtain⟨p1,p2⟩:=h (l.getD n zV) (Yaj (by omega))
  obtain⟨_,q2⟩:=YoR p1 p2
  refine⟨?_,?_⟩
  ·simp only[kOut]
   rw[Ycg,i1,q2,YaQ (d:=zV) (by omega)]
   simp[kl]
  ·simp only[kOut,YoK]
   have:=YoS p1
   have hl:(keyB (l.getD n zV)).size=(kb (l.getD n zV)).length:=by rw[<-q2,Ybp]
   omega
def keyL(l:Vals):ByteArray:=kOut l l.length
theorem Ye7{l:Vals}(h:Ok l):bl (keyL l)=kl l:=by
 have:=(YhD h l.length (YHf _)).1
 rwa[YGV]at this
theorem YBQ{a b:Vals}(h:a.length=b.length)(ha:Ok a)(hb:Ok b):keyL a=keyL b↔a=b:=by
 constructor
 ·intro e
  rw[<-YBN h ha hb,<-Ye7 ha,<-Ye7 hb,e]
 simp_all
end
end Go.Abs.G47
namespace Go.Abs.G47
open Go Go.Abs
noncomputable section
def AllO(N:Nat)(L:List Vals):Prop:= ∀l∈L,Ok l/\l.length=N
theorem YBR{N:Nat}{a b:Vals}(ha:Ok a/\a.length=N)(hb:Ok b/\b.length=N):keyL a=keyL b↔a=b:=YBQ (by omega) ha.1 hb.1
def hasV(L:List Vals)(l:Vals):Bool:=L.any fun x=>decide (x=l)
theorem hasV_iff{L:List Vals}{l:Vals}:hasV L l=true↔l∈L:=by
 unfold hasV
 simp
theorem Ye8(L:List Vals)(x l:Vals):hasV (L++[x]) l=(hasV L l||decide (x=l)):=by
 unfold hasV;simp
abbrev Ents:=List (Int×ByteArray×Vals)
def YFf(e:Int×Ents)(l:Vals):Int×Ents:=(mck eqS e.1 (keyL l) e.2,mpt eqS e.1 (keyL l) l e.2)
def mapOf(L:List Vals):Int×Ents:=L.foldl YFf (0,[])
theorem Ye9(L:List Vals)(l:Vals):mapOf (L++[l])=YFf (mapOf L) l:=by unfold mapOf;simp
theorem YEb{α:Type}{P:List α->Prop}(h0:P [])(h1: ∀L l,P L->P (L++[l]))(L:List α):P L:=by
 have: ∀n (L:List α),L.length=n->P L:=by
  intro n
  induction n with
  |zero=>simp_all
  |succ n ih=>
   intro L h
   have hne:L≠ []:=by grind
   rw[<-List.dropLast_concat_getLast hne]
   simp_all
 simp_all
theorem YBS(L:List Vals):((mapOf L).2.map (·.1)).Nodup/\ ∀b∈ (mapOf L).2.map (·.1),b< (mapOf L).1:=by
 induction L using YEb with
 |h0=>trivial
 |h1 L l ih=>rw[Ye9];exact YBb ih.1 ih.2
theorem YoT{N:Nat}{L:List Vals}(hL:AllO N L): ∀l,Ok l/\l.length=N->mfd eqS (keyL l) (mapOf L).2=bif hasV L l then some l else none:=by
 induction L using YEb with
 |h0=>intro l _;rfl
 |h1 L x ih=>
  intro l hl
  have ih:=ih (fun y hy=>hL y (List.mem_append_left _ hy)) l hl
  have hx:=hL x (List.mem_append_right _ (YG0.2 rfl))
  rw[Ye9]
  show mfd eqS (keyL l) (mpt eqS _ (keyL x) x _)=_
  rw[Yhu,ih]
  by_cases e:l=x
  ·subst e;simp[eqS,Ye8]
  ·have:eqS (keyL l) (keyL x)=false:=by unfold eqS;rw[decide_eq_false_iff_not,YBR hl hx];exact e
   rw[this]
   rw[Ye8,decide_eq_false (fun h=>e h.symm),Bool.or_false];rfl
theorem YoU{N:Nat}{L:List Vals}{l:Vals}(hL:AllO N (L++[l])):(mapOf (L++[l])).2.map (·.2.1)=bif hasV L l then(mapOf L).2.map (·.2.1)else(mapOf L).2.map (·.2.1)++[keyL l]:=by
 rw[Ye9]
 show(mpt eqS _ (keyL l) l _).map (·.2.1)=_
 rw[Yhv,YoT (fun y hy=>hL y (List.mem_append_left _ hy)) l (hL l (List.mem_append_right _ (YG0.2 rfl)))]
 grind
theorem YoV{N:Nat}{L:List Vals}(hL:AllO N L):(mapOf L).2.length<=L.length:=by
 induction L using YEb with
 |h0=>trivial
 |h1 L x ih=>
  have ih:=ih (fun y hy=>hL y (List.mem_append_left _ hy))
  have:=congrArg List.length (YoU hL)
  grind
def leR(a b:Vals):Prop:=le8 (kl a) (kl b)=true
def insR:List Vals->Vals->List Vals->List Vals
 | [],x,Q=>x::Q
 |y::P,x,Q=>bif decide (cmpL x y<0)then insR P x (y::Q)else(y::P).reverse++x::Q
theorem YoW: ∀(P:List Vals) (x:Vals) (Q:List Vals),(insR P x Q).Perm (P.reverse++x::Q)
 | [],x,Q=>List.Perm.refl _
 |y::P,x,Q=>by
  simp only[insR]
  cases decide (cmpL x y<0)with
  |true=>
   refine(YoW P x (y::Q)).trans ?_
   rw[List.reverse_cons,YGY]
   exact List.Perm.append_left _ (List.Perm.swap ..)
  |false=>rfl
theorem YoX{N:Nat}{x:Vals}(hx:Ok x/\x.length=N): ∀(P Q:List Vals),(∀p∈P,Ok p/\p.length=N)->(P.reverse++Q).Pairwise leR->(∀q∈Q,leR x q)->(insR P x Q).Pairwise leR
 | [],Q,_,h,hq=>List.pairwise_cons.2 ⟨hq,h⟩
 |y::P,Q,hP,h,hq=>by
  have hy:=hP y (YGQ ..)
  have ec:cl (kl x) (kl y)=cmpL x y:=YoI (by omega) hx.1 hy.1
  rw[List.reverse_cons,YGY]at h
  simp only[insR]
  cases hd:decide (cmpL x y<0)with
  |true=>
   have hxy:leR x y:=by unfold leR;rw[Ye3,ec];grind
   refine YoX hx P (y::Q) (fun p hp=>hP p (YGU _ hp)) h (fun q hq'=> ?_)
   grind
  |false=>
   have hd': ¬cmpL x y<0:=by simp_all
   have hyx:leR y x:=by
    unfold leR
    cases h1:le8 (kl y) (kl x)with
    |true=>rfl
    |false=>
     have:=Yd6 (kl y) (kl x)
     rw[h1,Bool.false_or,Ye3,ec,decide_eq_true_eq]at this
     have h0:cl (kl x) (kl y)=0:=by omega
     rw[YoE h0,Ye3,Ycf]at h1
     trivial
   rw[cond_false,List.reverse_cons,YGY]
   obtain⟨p1,p2,p3⟩:=List.pairwise_append.1 h
   obtain⟨p4,p5⟩:=List.pairwise_cons.1 p2
   refine List.pairwise_append.2 ⟨p1,List.pairwise_cons.2 ⟨fun q hq'=> ?_,List.pairwise_cons.2 ⟨hq,p5⟩⟩,fun a ha b hb=> ?_⟩
   ·rcases YGO.1 hq' with rfl|hq'
    ·omega
    simp_all
   ·have hay:=p3 a ha y (YGQ ..)
    rcases YGO.1 hb with rfl|hb
    ·omega
    ·rcases YGO.1 hb with rfl|hb
     ·exact Yd5 _ _ _ hay hyx
     simp_all
def YEo(R:List Vals)(l:Vals):List Vals:=bif hasV R l then R else insR R.reverse l []
def rowsR(L:List Vals):List Vals:=L.foldl YEo []
theorem Yfa(L:List Vals)(l:Vals):rowsR (L++[l])=YEo (rowsR L) l:=by unfold rowsR;simp
theorem YhE(R:List Vals)(l:Vals):(insR R.reverse l []).Perm (R++[l]):=by
 have:=YoW R.reverse l []
 simp_all
theorem YoY(L:List Vals): ∀l,hasV (rowsR L) l=hasV L l:=by
 induction L using YEb with
 |h0=>intro l;rfl
 |h1 L x ih=>
  intro l
  rw[Yfa]
  unfold YEo
  rw[ih x,Ye8]
  cases hx:hasV L x with
  |true=>
   grind
  |false=>
   rw[cond_false]
   have:hasV (insR (rowsR L).reverse x []) l=hasV (rowsR L++[x]) l:=(YhE _ x).any_eq
   rw[this,Ye8,ih l]
theorem rowsR_mem{L:List Vals}{r:Vals}:r∈rowsR L↔r∈L:=by
 rw[<-hasV_iff,YoY,hasV_iff]
theorem YoZ(L:List Vals):(rowsR L).length<=L.length:=by
 induction L using YEb with
 |h0=>trivial
 |h1 L x ih=>
  rw[Yfa]
  unfold YEo
  cases hasV (rowsR L) x with
  |true=>grind
  |false=>rw[cond_false,(YhE _ x).length_eq];simp_all
theorem YBT{N:Nat}{L:List Vals}(hL:AllO N L):(rowsR L).Pairwise leR:=by
 induction L using YEb with
 |h0=>exact List.Pairwise.nil
 |h1 L x ih=>
  have hL':AllO N L:=fun y hy=>hL y (List.mem_append_left _ hy)
  have ih:=ih hL'
  rw[Yfa]
  unfold YEo
  cases hasV (rowsR L) x with
  |true=>exact ih
  |false=>
   refine YoX (N:=N) (hL x (List.mem_append_right _ (YG0.2 rfl))) _ _ (fun p hp=>hL' _ (rowsR_mem.1 (List.mem_reverse.1 hp))) ?_ (fun q hq=>by cases hq)
   simp_all
theorem Yo0{N:Nat}{L:List Vals}(hL:AllO N L):((mapOf L).2.map (·.2.1)).Perm ((rowsR L).map keyL):=by
 induction L using YEb with
 |h0=>rfl
 |h1 L x ih=>
  have ih:=ih (fun y hy=>hL y (List.mem_append_left _ hy))
  rw[YoU hL,Yfa]
  unfold YEo
  rw[YoY]
  cases hasV L x with
  |true=>exact ih
  |false=>
   refine(List.Perm.append_right [keyL x] ih).trans ?_
   have:=((YhE (rowsR L) x).map keyL).symm
   simp_all
theorem YBU{N:Nat}{L:List Vals}(hL:AllO N L):YDG ((mapOf L).2.map (·.2.1))=(rowsR L).map keyL:=by
 rw[Yok (Yo0 hL)]
 refine(Ygr (le:=fun a b:ByteArray=>le8 (bl a) (bl b)) (fun a b c h k=>Yd5 _ _ _ h k) (fun a b=>Yd6 _ _) (fun a b h k=>YA6 (Ygs (bl a) (bl b) h k)) ?_ (List.Perm.refl _)).symm
 rw[List.pairwise_map]
 refine(List.Pairwise.imp_of_mem (fun{a b} ha hb h=> ?_) (YBT hL))
 have e1:bl (keyL a)=kl a:=Ye7 (hL _ (rowsR_mem.1 ha)).1
 have e2:bl (keyL b)=kl b:=Ye7 (hL _ (rowsR_mem.1 hb)).1
 rw[e1,e2];exact h
end
end Go.Abs.G47
namespace Go.Abs.G47
open Go Go.Abs
noncomputable section
def ansM(hd:List ByteArray)(σ:Asg Val):Vals:=hd.map fun v=>(σ v).getD zV
def goodV(v:Val):Prop:=vB v=true/\I64 v.2.1
def JV(σ:Asg Val):Prop:= ∀k v,σ k=some v->goodV v
theorem YhF{hd:List ByteArray}{σ:Asg Val}(h:JV σ):Ok (ansM hd σ)/\ (ansM hd σ).length=hd.length:=by
 refine⟨fun v hv=> ?_,by unfold ansM;simp⟩
 obtain⟨k,_,rfl⟩:=YGS.1 hv
 cases e:σ k with
 |none=>trivial
 |some w=>exact h k w e
theorem YhG: ∀{ps:List (ByteArray×Val)} {us:Vals} {σ σ':Asg Val},JV σ->(∀u∈us,goodV u)->tsM σ ps us=some σ'->JV σ'
 | [],us,σ,σ',h,_,e=>by injection e with e;simp_all
 |_::_,[],_,_,_,_,e=>by cases e
 |p::ps,u::us,σ,σ',h,hu,e=>by
  simp only[tsM]at e
  cases h1:tmM σ p.1 p.2 u with
  |none=>simp_all
  |some σ1=>
   rw[h1]at e
   refine YhG (σ:=σ1) ?_ (fun v hv=>hu v (YGU _ hv)) (show tsM σ1 ps us=some σ' from e)
   unfold tmM at h1
   by_cases h0:p.1=nul0
   ·simp_all
   ·rw[if_neg h0]at h1
    cases hs:σ p.1 with
    |some w=>
     simp_all
    |none=>
     rw[hs]at h1;injection h1 with h1;subst h1
     intro k v hk
     unfold upd at hk
     by_cases hx:k=p.1
     ·simp_all
     ·rw[if_neg hx]at hk;exact h k v hk
theorem Yo1: ∀{L:List (List Term×Rws)} {σ:Asg Val} {r:List Int},JV σ->(∀q∈L,∀row∈q.2,∀v∈row.2,goodV v)-> ∀w∈wyM L σ r,JV w.2
 | [],σ,r,h,_,w,hw=>by rw[wyM,YG0]at hw;simp_all
 |q::L,σ,r,h,hg,w,hw=>by
  rw[wyM,List.mem_flatMap]at hw
  obtain⟨row,hr,hw⟩:=hw
  cases hx:tsM σ (pV q.1) row.2 with
  |none=>simp_all
  |some σ'=>
   rw[hx]at hw
   exact Yo1 (YhG h (hg q (YGQ ..) row hr) hx) (fun p hp=>hg p (YGU _ hp)) w hw
theorem Yo2: ∀(L:List (List Term×Rws)) (σ:Asg Val) (r:List Int),(∀q∈L,q.2.length<=6)->(wyM L σ r).length<=6^L.length
 | [],σ,r,_=>YHf _
 |q::L,σ,r,h=>by
  have hq:=h q (YGQ ..)
  have: ∀R:Rws,(R.flatMap fun row=>match tsM σ (pV q.1) row.2 with|some σ'=>wyM L σ' (r++[row.1])|none=>[]).length<=R.length*6^L.length:=by
   intro R
   induction R with
   |nil=>simp
   |cons row R ih=>
    rw[List.flatMap_cons,List.length_append,YG2,YHn,Nat.one_mul,Nat.add_comm (R.length*_)]
    refine Nat.add_le_add ?_ ih
    cases tsM σ (pV q.1) row.2 with
    |none=>simp
    |some σ'=>exact Yo2 L σ' _ (fun p hp=>h p (YGU _ hp))
  refine YHj (this q.2) ?_
  rw[YG2,Nat.pow_succ,Nat.mul_comm]
  exact Nat.mul_le_mul_left _ hq
theorem tAns(hd:List ByteArray)(l0:List Atom)(tb:List Tabl)(clk:Int)(l:Ent Val)(m2 m3:Bool)(rs:List Int)(e:E)(hh:hd.length<=maxEl):
  q42 loO hd l0 tb clk l m2 m3 rs e.1 e.2.1 e.2.2=some (hd,l0,tb,clk,l,m2,m3,rs,e.1,e.2.1,e.2.2,ansM hd (lk l)):=by
 unfold q42
 have:YgI loO (hd,(hd.length:Int),0,hd,l0,tb,clk,l,m2,m3,rs,e.1,e.2.1,e.2.2,[])=some (hd,l0,tb,clk,l,m2,m3,rs,e.1,e.2.1,e.2.2,ansM hd (lk l)):=by
  refine Yan (st:=fun n=>(hd,(hd.length:Int),(n:Int),hd,l0,tb,clk,l,m2,m3,rs,e.1,e.2.1,e.2.2,ansM (hd.take n) (lk l))) (N:=hd.length) rfl ?_ (fun n hn=> ?_)
  ·simp only[Yen,nlI,cond_false,YGV]
  ·simp only[Yen,ltI hn,cond_true,inc hn hh,YHE]
   rw[chkT _ (by omega),chkT _ (by unfold ansM;grind),YaQ (d:=nul0) hn]
   have: ∀k,mgt eqS k l zV=(lk l k).getD zV:=fun k=>by rfl
   rw[this]
   unfold ansM
   simp
 simp_all
def seeA(hd:List ByteArray):Way->E->Bool×E:=fun w e=>
 let k:=YFf (e.1,e.2.1) (ansM hd w.2)
 (decide ((k.2.length:Int)<=10000),(k.1,k.2,e.2.2))
theorem tSee(hd:List ByteArray)(l0:List Atom)(tb:List Tabl)(clk:Int)(l:Ent Val)(m2 m3:Bool)(rs:List Int)(e:E)(hh:hd.length<=1000)(hj:JV (lk l)):
  q48 loO hd l0 e.1 e.2.1 e.2.2 tb clk l m2 m3 rs=some ((seeA hd (rs,lk l) e).1,hd,l0,(seeA hd (rs,lk l) e).2.1,(seeA hd (rs,lk l) e).2.2.1,(seeA hd (rs,lk l) e).2.2.2,tb,clk,l,m2,m3,rs):=by
 have hm:maxEl=1073741824:=rfl
 unfold q48
 rw[tAns hd l0 tb clk l m2 m3 rs e (by omega),YCm]
 rw[chkT _ rfl,chkT _ rfl]
 obtain⟨ok,hl⟩:=YhF (hd:=hd) hj
 generalize hA:ansM hd (lk l)=A at*
 have e4:YgM loO ((A.length:Int),0,hd,l0,e.1,e.2.1,e.2.2,tb,clk,l,m2,m3,rs,A,nul0)=some (hd,l0,e.1,e.2.1,e.2.2,tb,clk,l,m2,m3,rs,A,keyL A):=by
  refine Yan (st:=fun n=>((A.length:Int),(n:Int),hd,l0,e.1,e.2.1,e.2.2,tb,clk,l,m2,m3,rs,A,kOut A n)) (N:=A.length) rfl ?_ (fun n hn=> ?_)
  ·simp only[Yep,nlI,cond_false];rfl
  ·obtain⟨p1,p2⟩:=ok (A.getD n zV) (Yaj (by omega))
   obtain⟨q1,q2⟩:=YoR p1 p2
   have hz:=(YhD ok n (by omega)).2
   have hz':(keyB (A.getD n zV)).size<=403:=by rw[<-Ybp,q2];exact YoS p1
   simp only[Yep,ltI hn,cond_true,inc hn (show A.length<=maxEl by omega),YHE]
   rw[chkT _ (by omega),q1,YCm]
   simp only[q46,q45,YCm]
   rw[chkT _ trivial,chkT _ (by omega),YCm];rfl
 rw[e4,YCm]
 simp only[q47,YCm,seeA,hA,YFf]
theorem Yo3(hd:List ByteArray): ∀(ws:List Way) (pre:List Vals) (m:Bool),(∀w∈ws,JV w.2)->AllO hd.length pre->pre.length+ws.length<=10000->
  visit (seeA hd) ws ((mapOf pre).1,(mapOf pre).2,m)=(true,(mapOf (pre++ws.map fun w=>ansM hd w.2)).1,(mapOf (pre++ws.map fun w=>ansM hd w.2)).2,m)
 | [],pre,m,_,_,_=>by simp[visit]
 |w::ws,pre,m,hj,hp,hl=>by
  have hw:=YhF (hd:=hd) (hj w (YGQ ..))
  have hp':AllO hd.length (pre++[ansM hd w.2]):=fun x hx=>by
   rcases List.mem_append.1 hx with h|h
   ·exact hp x h
   simp_all
  have hlen:=YoV hp'
  rw[List.length_append,List.length_singleton]at hlen
  rw[YG2]at hl
  have es:seeA hd w ((mapOf pre).1,(mapOf pre).2,m)=(true,(mapOf (pre++[ansM hd w.2])).1,(mapOf (pre++[ansM hd w.2])).2,m):=by
   unfold seeA
   rw[Ye9]at hlen⊢
   rw[show(((mapOf pre).1,(mapOf pre).2):Int×Ents)=mapOf pre from rfl]
   simp only
   rw[decide_eq_true (by omega)]
  simp only[visit]
  rw[es]
  simp only
  rw[Yo3 hd ws _ m (fun v hv=>hj v (YGU _ hv)) hp' (by grind)]
  simp
def tbs(db:List Tabl)(l:List Atom):List Tabl:=l.map fun a=>tabO db a.1
theorem tNew(db:List Tabl)(hd:List ByteArray)(l:List Atom)(hdb:db.length<=maxEl)(hl:l.length<=maxEl):q41 loO db hd l=some (hd,l,tbs db l,0,[],false,false,[]):=by
 unfold q41
 have:YgH loO (l,(l.length:Int),0,db,hd,l,[],0,[],false,false,[])=some (hd,l,tbs db l,0,[],false,false,[]):=by
  refine Yan (st:=fun n=>(l,(l.length:Int),(n:Int),db,hd,l,tbs db (l.take n),0,[],false,false,[])) (N:=l.length) rfl ?_ (fun n hn=> ?_)
  ·simp only[Yem,nlI,cond_false,YGV]
  ·simp only[Yem,ltI hn,cond_true,inc hn hl,YHE]
   rw[chkT _ (by omega),YGl _ _ hdb,YCm,chkT _ (by unfold tbs;grind),YaQ (d:=zA) hn]
   unfold tbs
   simp
 simp_all
def YDR(db:List Tabl)(l:List Atom):List Way:=wyM (PR l (tbs db l)) (fun _=>none) []
structure QOk(db:List Tabl)(hd:List ByteArray)(l:List Atom):Prop where
 tb:TbOk l (tbs db l)
 hn:hd.length<=10
 dn:db.length<=maxEl
 sm:sumT l<=maxEl
 row: ∀n,n<l.length->((tbs db l).getD n zT).2.2.length<=6
 val: ∀n,n<l.length-> ∀row∈ ((tbs db l).getD n zT).2.2,∀v∈row.2,goodV v
theorem Yo4{l:List Atom}{tb:List Tabl}(h:l.length=tb.length){q:List Term×Rws}(hq:q∈PR l tb): ∃n,n<l.length/\q=((l.getD n zA).2,(tb.getD n zT).2.2):=by
 obtain⟨n,hn,e⟩:=YG7.1 hq
 unfold PR at hn
 rw[List.length_zipWith]at hn
 refine⟨n,by omega,?_⟩
 rw[<-e]
 unfold PR
 simp_all
theorem QOk.JV{db:List Tabl}{hd:List ByteArray}{l:List Atom}(h:QOk db hd l): ∀w∈YDR db l,JV w.2:=
 Yo1 (fun k v e=>by cases e) (fun q hq row hr v hv=>by
  obtain⟨n,hn,rfl⟩:=Yo4 h.tb.len hq
  exact h.val n hn row hr v hv)
theorem QOk.len{db:List Tabl}{hd:List ByteArray}{l:List Atom}(h:QOk db hd l):(YDR db l).length<=6^l.length:=by
 refine YHj (Yo2 _ _ _ (fun q hq=> ?_)) ?_
 ·obtain⟨n,hn,rfl⟩:=Yo4 h.tb.len hq
  exact h.row n hn
 ·refine Nat.pow_le_pow_right (by omega) ?_
  unfold PR;grind
def anss(db:List Tabl)(hd:List ByteArray)(l:List Atom):List Vals:=(YDR db l).map fun w=>ansM hd w.2
theorem QOk.all{db:List Tabl}{hd:List ByteArray}{l:List Atom}(h:QOk db hd l):AllO hd.length (anss db hd l):=fun x hx=>by
 obtain⟨w,hw,rfl⟩:=YGS.1 hx
 exact YhF (h.JV w hw)
theorem YBV(l:List ByteArray)(hl:l.length<=maxEl):q65 loO l=some (YDG l):=by
 cases l with
 |nil=>exact(congrArg (fun lo=>q65 lo []) (Ybd 100)).symm.trans (by kernel_rfl)
 |cons a r=>
  show(bif YHh (a::r).length maxEl then some (YDG (a::r))else none)=_
  rw[Nat.ble_eq_true_of_le hl];rfl
theorem YEi{db:List Tabl}{hd:List ByteArray}{l:List Atom}(h:QOk db hd l)(hq:qI db hd l=0)(hw:(YDR db l).length<=10000):q66 loO db hd l=some (rowsR (anss db hd l),0):=by
 have hm:maxEl=1073741824:=rfl
 have hh:=h.hn
 have hs:=h.tb.sm
 unfold q66
 rw[tQ db hd l (by omega) h.sm,YCm,hq]
 rw[tNew db hd l h.dn (by omega),YCm]
 obtain⟨clk',l',e⟩:=run (see:=seeA hd) (I:=fun _=>True) (J:=JV) (hd:=hd) (l0:=l) (tb:=tbs db l) (m2:=false) (m3:=false) (fun _ _ _ _=>trivial) h.tb (fun i hi row hr σ σ' hj ht=>YhG hj (h.val i hi row hr) ht) (fun clk l1 rs e _ hk hj _=>tSee hd l (tbs db l) clk l1 false false rs e (by omega) hj) 0 [] (0,[],false) List.nodup_nil (fun k v e=>by cases e) trivial
 rw[e,YCm]
 rw[chkT _ rfl]
 have hv:=Yo3 hd (YDR db l) [] false h.JV (fun _ hx=>by cases hx) (by simp_all)
 rw[show visit (seeA hd) (wyM (PR l (tbs db l)) (lk []) []) (0,[],false)=_ from hv]
 have hA:=h.all
 have hml:=YoV hA
 have hal:(anss db hd l).length<=10000:=by unfold anss;simp_all
 have hrl:=YoZ (anss db hd l)
 rw[show((YDR db l).map fun w=>ansM hd w.2)=anss db hd l from rfl]
 have hj:YcX loO ([],(mapOf (anss db hd l)).1,(mapOf (anss db hd l)).2,false)=some (rowsR (anss db hd l),0):=by
  refine Yom (YBS _).1 (by omega) ?_
  show YHq (q65 loO ((mapOf (anss db hd l)).2.map (·.2.1))) _=_
  rw[YBV _ (by grind),YCm,YBU hA]
  rw[chkT _ (by rw[<-(Yo0 hA).length_eq])]
  have e3:YgS loO ((((rowsR (anss db hd l)).map keyL).length:Int),0,[],(rowsR (anss db hd l)).map keyL,(mapOf (anss db hd l)).1,(mapOf (anss db hd l)).2,false)=some (rowsR (anss db hd l)):=by
   refine Yan (st:=fun n=>((((rowsR (anss db hd l)).map keyL).length:Int),(n:Int),(rowsR (anss db hd l)).take n,(rowsR (anss db hd l)).map keyL,(mapOf (anss db hd l)).1,(mapOf (anss db hd l)).2,false)) (N:=(rowsR (anss db hd l)).length) rfl ?_ (fun n hn=> ?_)
   ·simp only[Yet,YGX,nlI,cond_false,YGV]
   ·simp only[Yet,YGX,ltI hn,cond_true,inc hn (show(rowsR (anss db hd l)).length<=maxEl by omega),YHE]
    have ek:((rowsR (anss db hd l)).map keyL).getD n nul0=keyL ((rowsR (anss db hd l)).getD n []):=by
     simp_all
    have hmem:=rowsR_mem.1 (Yaj (d:=([]:Vals)) hn)
    have eg:mgt eqS (keyL ((rowsR (anss db hd l)).getD n [])) (mapOf (anss db hd l)).2 []=(rowsR (anss db hd l)).getD n []:=by
     unfold mgt
     rw[YoT hA _ (hA _ hmem),hasV_iff.2 hmem];rfl
    rw[chkT _ (by omega),chkT _ (by grind),ek,eg,YaQ (d:=([]:Vals)) hn]
  simp_all
 simp_all
end
end Go.Abs.G47
namespace Go.Abs.G47
open Go Go.Abs
noncomputable section
def exM:List Atom->Asg Term->List Atom->Option (Asg Term)
 | [],σ,_=>some σ
 |a::r,σ,tg=>tg.findSome? fun b=>(atM σ a b).bind fun σ'=>exM r σ' tg
abbrev XRec:=List Atom×List Atom×Int×Ent Term×Bool×Bool->Option (Bool×Int×Ent Term×Bool×Bool)
theorem tDel(rec:XRec)(rest tg v16:List Atom)(v17 v18:Int)(fr:List ByteArray)(clk:Int)(l:Ent Term)(m2 m3:Bool)(h:fr.length<=maxEl):
  Yb9 loO rec (rest,tg,v16,v17,v18,fr,(fr.length:Int),0,clk,l,m2,m3)=some (rest,tg,v16,v17,v18,clk,delG l fr,m2,m3):=by
 have:=Yan (step:=YcZ loO rec) (s:=(rest,tg,v16,v17,v18,fr,(fr.length:Int),0,clk,l,m2,m3)) (r:=(rest,tg,v16,v17,v18,clk,delG l fr,m2,m3)) (N:=fr.length) (st:=fun n=>(rest,tg,v16,v17,v18,fr,(fr.length:Int),(n:Int),clk,delG l (fr.take n),m2,m3)) rfl
  (by simp only[YcZ,nlI,cond_false,YGV])
  (fun n hn=>by
   simp only[YcZ,ltI hn,cond_true,inc hn h,YHE]
   rw[chkT _ (by omega)]
   have e:delG l (fr.take (n+1))=mdl eqS (fr.getD n nul0) (delG l (fr.take n)):=Yce (fun l k=>mdl eqS k l) l (d:=nul0) hn
   rw[e])
 trivial
theorem YBW(rec:XRec)(a:Atom)(r tg:List Atom)(hto:tg.length<=maxEl)(ha:a.2.length<=maxEl)(m2 m3:Bool)
  (hrec: ∀clk (l:Ent Term),KN l-> ∃clk' l',rec (r,tg,clk,l,m2,m3)=some ((exM r (lk l) tg).isSome,clk',l',m2,m3)/\KN l'/\lk l'=(exM r (lk l) tg).getD (lk l)) (σ:Asg Term):
  ∀(k n:Nat),n+k=tg.length-> ∀(clk:Int) (l:Ent Term),KN l->lk l=σ-> ∃clk' l',KN l'/\ (
   match(tg.drop n).findSome? (fun b=>(atM σ a b).bind fun σ'=>exM r σ' tg)with
   |some σ'=>Yca loO rec (a::r,tg,tg,(tg.length:Int),(n:Int),clk,l,m2,m3)=some (.inl (true,clk',l',m2,m3))/\lk l'=σ'
   |none=>Yca loO rec (a::r,tg,tg,(tg.length:Int),(n:Int),clk,l,m2,m3)=some (.inr (clk',l',m2,m3))/\lk l'=σ):=by
 have hM:maxEl=1073741824:=rfl
 intro k
 induction k with
 |zero=>
  intro n hn clk l hk hl
  refine⟨clk,l,hk,?_⟩
  rw[YHc (by omega)]
  simp
  refine⟨?_,hl⟩
  show YCA _ _=_
  rw[Yaq]
  have e:n=tg.length:=by omega
  subst e
  simp only[YbM,nlI,cond_false]
 |succ k ih=>
  intro n hn clk l hk hl
  have hlt:n<tg.length:=by omega
  rw[Ybe (d:=zA) hlt,List.findSome?_cons]
  have hA:=YBz a (tg.getD n zA) clk hk
  have hT:=tAt a (tg.getD n zA) clk l m2 m3 ha
  rw[hl]at hA
  have step: ∀s',YbM loO rec (a::r,tg,tg,(tg.length:Int),(n:Int),clk,l,m2,m3)=s'->Yca loO rec (a::r,tg,tg,(tg.length:Int),(n:Int),clk,l,m2,m3)=(match s' with|some (.inl s)=>Yca loO rec s|some (.inr x)=>some x|none=>none):=by
   intro s' hs;subst hs
   show YCA _ _=_
   rw[Yaq]
   rcases YbM loO rec (a::r,tg,tg,(tg.length:Int),(n:Int),clk,l,m2,m3)with _| (_|_)<;>rfl
  have nx:YHK .i64 ((n:Int)+1)=((n+1:Nat):Int):=inc hlt hto
  have e0:(a::r).getD 0 zA=a:=rfl
  have e1:((a::r).take ((a::r).length:Int).toNat).drop 1=r:=by simp
  have es:YbM loO rec (a::r,tg,tg,(tg.length:Int),(n:Int),clk,l,m2,m3)=YHq (q82 loO a.1 a.2 (tg.getD n zA).1 (tg.getD n zA).2 clk l m2 m3) fun y346=>bif y346.2.1 then(YHq (rec (r,tg,y346.2.2.1,y346.2.2.2.1,y346.2.2.2.2.1,y346.2.2.2.2.2)) fun y347=>bif y347.1 then(some (.inr (.inl (true,y347.2.1,y347.2.2.1,y347.2.2.2.1,y347.2.2.2.2))))else(YHq (Yb9 loO rec (a::r,tg,tg,(tg.length:Int),(n:Int),y346.1,(y346.1.length:Int),(0:Int),y347.2.1,y347.2.2.1,y347.2.2.2.1,y347.2.2.2.2)) fun y348=>some (.inl (y348.1,y348.2.1,y348.2.2.1,y348.2.2.2.1,(YHK .i64 (y348.2.2.2.2.1+(1:Int))),y348.2.2.2.2.2.1,y348.2.2.2.2.2.2.1,y348.2.2.2.2.2.2.2.1,y348.2.2.2.2.2.2.2.2))))else(YHq (Yb9 loO rec (a::r,tg,tg,(tg.length:Int),(n:Int),y346.1,(y346.1.length:Int),(0:Int),y346.2.2.1,y346.2.2.2.1,y346.2.2.2.2.1,y346.2.2.2.2.2)) fun y349=>some (.inl (y349.1,y349.2.1,y349.2.2.1,y349.2.2.2.1,(YHK .i64 (y349.2.2.2.2.1+(1:Int))),y349.2.2.2.2.2.1,y349.2.2.2.2.2.2.1,y349.2.2.2.2.2.2.2.1,y349.2.2.2.2.2.2.2.2))):=by
   simp only[YbM,ltI hlt,cond_true,YHE]
   rw[chkT _ (by omega),chkT _ (by simp)]
   congr 1
   funext y346
   congr 1
   rw[chkT _ (by grind)]
   simp
  rw[es,hT,YCm]at step
  simp only at step
  have hlen:(atG a (tg.getD n zA) clk l).2.2.2.length<=maxEl:=YHj hA.len ha
  rw[hA.ok]at step
  cases hat:atM σ a (tg.getD n zA)with
  |none=>
   rw[hat]at step
   simp only[Option.isSome_none,cond_false]at step
   rw[tDel _ _ _ _ _ _ _ _ _ _ _ hlen,YCm]at step
   simp only[nx]at step
   obtain⟨d1,d2⟩:=Ye1 hA.kn hA.new hA.old
   obtain⟨clk',l',k1,k2⟩:=ih (n+1) (by omega) (atG a (tg.getD n zA) clk l).2.1 _ d1 d2
   refine⟨clk',l',k1,?_⟩
   simp_all
  |some σ1=>
   rw[hat]at step
   simp only[Option.isSome_some,cond_true]at step
   obtain⟨c2,l2,r1,r2,r3⟩:=hrec (atG a (tg.getD n zA) clk l).2.1 _ hA.kn
   rw[r1,YCm,hA.val σ1 hat]at step
   rw[hA.val σ1 hat]at r3
   simp
   cases hx:exM r σ1 tg with
   |some σ2=>
    grind
   |none=>
    rw[hx]at step r3
    simp only[Option.isSome_none,cond_false]at step
    rw[tDel _ _ _ _ _ _ _ _ _ _ _ hlen,YCm]at step
    simp only[nx]at step
    simp at r3
    obtain⟨d1,d2⟩:=Ye1 (σ0:=σ) r2 hA.new (by rw[r3,<-hA.val σ1 hat];exact hA.old)
    obtain⟨clk',l',k1,k2⟩:=ih (n+1) (by omega) c2 _ d1 d2
    refine⟨clk',l',k1,?_⟩
    simp_all
theorem YBX(tg:List Atom)(hto:tg.length<=maxEl)(m2 m3:Bool)(j:Nat): ∀(rest:List Atom),(∀a∈rest,a.2.length<=maxEl)-> ∀(clk:Int) (l:Ent Term),KN l->
  ∃clk' l',Ybb loO (rest.length+1+j) (rest,tg,clk,l,m2,m3)=some ((exM rest (lk l) tg).isSome,clk',l',m2,m3)/\KN l'/\lk l'=(exM rest (lk l) tg).getD (lk l):=by
 intro rest
 induction rest with
 |nil=>
  intro _ clk l hk
  refine⟨clk,l,?_,hk,rfl⟩
  have e:([]:List Atom).length+1+j=j+1:=by grind
  rw[e];rfl
 |cons a r ih=>
  intro ha clk l hk
  have e:(a::r).length+1+j=(r.length+1+j)+1:=by grind
  rw[e]
  obtain⟨clk',l',k1,k2⟩:=YBW (Ybb loO (r.length+1+j)) a r tg hto (ha a (YGQ ..)) m2 m3 (fun clk l hk=>ih (fun b hb=>ha b (YGU _ hb)) clk l hk) (lk l) tg.length 0 (by omega) clk l hk rfl
  rw[YG3]at k2
  refine⟨clk',l',?_⟩
  show Yez loO (Ybb loO (r.length+1+j)) (a::r) tg clk l m2 m3=_/\_
  unfold Yez
  simp only[exM]
  rw[show((0:Nat):Int)=0 from rfl]at k2
  cases hx:tg.findSome? (fun b=>(atM (lk l) a b).bind fun σ'=>exM r σ' tg)with
  |some σ'=>
   rw[hx]at k2
   rw[k2.1,YCm]
   exact⟨rfl,k1,k2.2⟩
  |none=>
   rw[hx]at k2
   rw[k2.1,YCm]
   exact⟨rfl,k1,k2.2⟩
theorem Yo5: ∀n x y,Ybb loO n x=some y->Ybb loO (n+1) x=some y
 |0,_,_,h=>by cases h
 |n+1,x,y,h=>by
  have ih:=Yo5 n
  have h':Yez loO (Ybb loO n) x.1 x.2.1 x.2.2.1 x.2.2.2.1 x.2.2.2.2.1 x.2.2.2.2.2=some y:=h
  refine YDB h' (fun h=>h) fun h=>YEn h (fun z hz=> ?_) fun _ h=>h
  refine Yhy (fun s q hs=> ?_) hz
  obtain⟨s1,s2,s3,s4,s5,s6,s7,s8,s9⟩:=s
  exact YDB hs (fun h=>chkm h fun h=>chkm h fun h=>YFT h fun _ h=>YDB h (fun h=>chkm h fun h=>YEn h (ih _) fun _ h=>YDB h (fun h=>h) fun h=>h) fun h=>h) fun h=>h
theorem tExt(rest tg:List Atom)(hto:tg.length<=maxEl)(hr: ∀a∈rest,a.2.length<=maxEl)(m2 m3:Bool)(clk:Int)(l:Ent Term)(hk:KN l):
  ∃clk' l',q83 loO rest tg clk l m2 m3=some ((exM rest (lk l) tg).isSome,clk',l',m2,m3)/\KN l'/\lk l'=(exM rest (lk l) tg).getD (lk l):=by
 obtain⟨clk',l',h1,h2⟩:=YBX tg hto m2 m3 0 rest hr clk l hk
 exact⟨clk',l',Yd2 Yo5 (n:=0) (by rw[YHl];exact h1),h2⟩
end
end Go.Abs.G47
namespace Go.Abs.G47
open Go Go.Abs
noncomputable section
def SzT(l:List Term):Prop:= ∀t∈l,t.2.2.2.size<=maxEl
theorem YFo(a b:Term)(ha:a.2.2.2.size<=maxEl)(hb:b.2.2.2.size<=maxEl):q127 loO a.1 a.2.1 a.2.2.1 a.2.2.2 b.1 b.2.1 b.2.2.1 b.2.2.2=some (decide (a=b)):=by
 unfold q127
 obtain⟨a0,a1⟩:=a
 obtain⟨b0,b1⟩:=b
 by_cases h:a0=b0
 ·rw[YoD a1 b1 ha hb,YCm]
  have:decide (cmpV a1 b1=0)=decide (a1=b1):=by rw[decide_eq_decide];exact cmpV_zero
  simp_all
 simp_all
theorem Yo6{p:Nat->Bool}: ∀(k n:Nat),idxR p (k+1) n=bif decide (0<=idxR p k n)then idxR p k n else bif p (n+k)then((n+k:Nat):Int)else-1
 |0,n=>by
  unfold idxR
  cases hp:p n<;>simp[YCo,hp]
 |k+1,n=>by
  have e: ∀j,idxR p (j+1) n=bif p n then(n:Int)else idxR p j (n+1):=fun j=>by
   unfold idxR
   cases hp:p n<;>simp[YCo,hp]
  rw[e (k+1),e k]
  cases hp:p n with
  |true=>simp
  |false=>
   simp only[cond_false]
   rw[Yo6 k (n+1),show n+1+k=n+(k+1) by omega]
theorem YBY{p q:Nat->Bool}(k n:Nat)(h: ∀m,n<=m->m<n+k->p m=q m):idxR p k n=idxR q k n:=by
 unfold idxR
 rw[Yho k n (fun m h1 h2=>by rw[h m h1 h2])]
theorem YBZ(N:List ByteArray)(x k:ByteArray):idxI (N++[x]) k=bif decide (0<=idxI N k)then idxI N k else bif decide (k=x)then(N.length:Int)else-1:=by
 unfold idxI
 rw[List.length_append,List.length_singleton,Yo6]
 have e:idxR (fun m=>decide (k=(N++[x]).getD m nul0)) N.length 0=idxR (fun m=>decide (k=N.getD m nul0)) N.length 0:=YBY _ _ fun m _ h=>by grind
 simp_all
theorem YhH(N:List ByteArray)(k:ByteArray):(∃m:Nat,idxI N k=(m:Int)/\m<N.length/\N.getD m nul0=k)\/(idxI N k= -1/\k∉N):=by
 rcases Yda (p:=fun m=>decide (k=N.getD m nul0)) (k:=N.length) (n:=0)with⟨m,_,h2,h3,h4⟩| ⟨h1,h2⟩
 ·exact .inl ⟨m,h4,by omega,(of_decide_eq_true h3).symm⟩
 ·refine .inr ⟨h1,fun hm=> ?_⟩
  have:=Ydb N k
  rw[inL_iff.2 hm]at this
  have h1:idxI N k= -1:=h1
  simp_all
def YCK(N:List ByteArray)(T:List Term):Asg Term:=fun k=>bif decide (0<=idxI N k)then some (T.getD (idxI N k).toNat zM)else none
theorem Yo7{N:List ByteArray}{T:List Term}(hl:N.length=T.length){x:ByteArray}(u:Term)(hx:idxI N x<0):YCK (N++[x]) (T++[u])=upd (YCK N T) x u:=by
 funext k
 unfold YCK upd
 rw[YBZ]
 rcases YhH N k with⟨m,h1,h2,h3⟩| ⟨h1,h2⟩
 ·grind
 grind
structure GB(N:List ByteArray)(T:List Term):Prop where
 len:N.length=T.length
 sz:SzT T
theorem YhI{T:List Term}(h:SzT T)(n:Nat):(T.getD n zM).2.2.2.size<=maxEl:=by
 by_cases hn:n<T.length
 ·exact h _ (Yaj hn)
 ·rw[YG4,YHb (by omega)];trivial
theorem rTm{N:List ByteArray}{T:List Term}(g:GB N T)(t u:Term)(hN:N.length+1<=maxEl)(ht:t.2.2.2.size<=maxEl)(hu:u.2.2.2.size<=maxEl):
  ∃N' T',q128 loO N T t.1 t.2.1 t.2.2.1 t.2.2.2 u.1 u.2.1 u.2.2.1 u.2.2.2=some (N',T',(tmM (YCK N T) t.1 t u).isSome)/\GB N' T'/\N'.length<=N.length+1/\ ∀σ',tmM (YCK N T) t.1 t u=some σ'->YCK N' T'=σ':=by
 unfold q128 tmM
 by_cases h0:t.1=nul0
 ·refine⟨N,T,?_,g,by omega,?_⟩
  ·rw[decide_eq_true h0,cond_true,YFo t u ht hu,YCm,if_pos h0]
   grind
  simp_all
 ·rw[if_neg h0,decide_eq_false h0,cond_false,Ycc _ _ (by omega),YCm]
  rcases YhH N t.1 with⟨m,h1,h2,h3⟩| ⟨h1,h2⟩
  ·have e0:decide ((0:Int)<=(m:Int))=true:=by simp
   have eb:YCK N T t.1=some (T.getD m zM):=by unfold YCK;simp_all
   rw[h1,e0,cond_true,eb]
   have:=g.len
   refine⟨N,T,?_,g,by omega,?_⟩
   ·rw[chkT _ (by omega)]
    simp only[YHE]
    rw[YFo (T.getD m zM) u (YhI g.sz m) hu,YCm]
    grind
   simp
  ·have e0:decide ((0:Int)<= -1)=false:=rfl
   have eb:YCK N T t.1=none:=by unfold YCK;simp_all
   rw[h1,e0,cond_false,eb]
   have:=g.len
   refine⟨N++[t.1],T++[u],?_,⟨by simp_all,fun v hv=> ?_⟩,by simp,?_⟩
   ·rw[chkT _ (by omega),chkT _ (by trivial),chkT _ (by omega),chkT _ (by simp_all)]
    rfl
   ·rcases List.mem_append.1 hv with h|h
    ·exact g.sz v h
    simp_all
   ·intro σ' h
    injection h with h;subst h
    exact Yo7 g.len u (by omega)
theorem YB0(a0:ByteArray)(ts us:List Term)(v0:List ByteArray)(v1:List Term)(h:ts.length=us.length)(hm:us.length<=maxEl)(ht:SzT ts)(hu:SzT us): ∀(k n:Nat),n+k=us.length-> ∀(N:List ByteArray) (T:List Term),GB N T->N.length+k<=maxEl->
  ∃N' T',Yc5 loO (us,true,(n:Int),N,T,a0,ts,v0,v1)=some ((tsM (YCK N T) ((pT ts).drop n) (us.drop n)).isSome,N',T',v0,v1)/\GB N' T'/\N'.length<=N.length+k/\ ∀σ',tsM (YCK N T) ((pT ts).drop n) (us.drop n)=some σ'->YCK N' T'=σ':=by
 intro k
 induction k with
 |zero=>
  intro n hn N T g hN
  have e:n=us.length:=by omega
  subst e
  refine⟨N,T,?_,g,by omega,?_⟩
  ·show YCA _ _=_
   rw[Yaq]
   simp only[Yc4,nlI,cond_false]
   rw[YHc (l:=pT ts) (by simp_all)]
   rfl
  ·rw[YHc (l:=pT ts) (by simp_all)]
   intro σ' h;injection h
 |succ k ih=>
  intro n hn N T g hN
  have hlt:n<us.length:=by omega
  have e1:(pT ts).drop n=((ts.getD n zM).1,ts.getD n zM)::(pT ts).drop (n+1):=by
   rw[Ybe (d:=(zM.1,zM)) (by simp_all)]
   simp_all
  obtain⟨N1,T1,r1,r2,r3,r4⟩:=rTm g (ts.getD n zM) (us.getD n zM) (by omega) (YhI ht n) (YhI hu n)
  have hs:Yc5 loO (us,true,(n:Int),N,T,a0,ts,v0,v1)=Yc5 loO (us,(tmM (YCK N T) (ts.getD n zM).1 (ts.getD n zM) (us.getD n zM)).isSome,((n+1:Nat):Int),N1,T1,a0,ts,v0,v1):=by
   show YCA _ _=YCA _ _
   rw[Yaq]
   simp only[Yc4,ltI hlt,cond_true,YHE,inc hlt hm]
   rw[chkT _ (by omega),chkT _ (by omega),r1,YCm]
  rw[e1,Ybe (l:=us) (d:=zM) hlt,hs]
  simp only[tsM]
  cases hx:tmM (YCK N T) (ts.getD n zM).1 (ts.getD n zM) (us.getD n zM)with
  |none=>
   refine⟨N1,T1,?_,r2,by omega,fun σ' h=>by cases h⟩
   show YCA _ _=_
   rw[Yaq]
   simp only[Yc4,Option.isSome_none,cond_false]
   simp
  |some σ1=>
   obtain⟨N',T',q1,q2,q3,q4⟩:=ih (n+1) (by omega) N1 T1 r2 (by omega)
   grind
def tsL(σ:Asg Term)(ts us:List Term):Option (Asg Term):=bif !decide ((ts.length:Int)=(us.length:Int))then none else tsM σ (pT ts) us
theorem rAt{N:List ByteArray}{T:List Term}(g:GB N T)(a0:ByteArray)(ts us:List Term)(ht:SzT ts)(hu:SzT us)(hN:N.length+ts.length<=maxEl):
  ∃N' T',q129 loO N T a0 ts us=some (N',T',(tsL (YCK N T) ts us).isSome)/\GB N' T'/\N'.length<=N.length+ts.length/\ ∀σ',tsL (YCK N T) ts us=some σ'->YCK N' T'=σ':=by
 unfold q129 tsL
 by_cases h:(ts.length:Int)=(us.length:Int)
 ·obtain⟨N',T',q1,q2,q3,q4⟩:=YB0 a0 ts us [] [] (by omega) (by omega) ht hu us.length 0 (by omega) N T g (by omega)
  grind
 grind
abbrev YRec:=List ByteArray×List Term×List Atom×List Atom->Option (List ByteArray×List Term×Bool)
theorem YB1(rec:YRec)(a:Atom)(r tg:List Atom)(htg:tg.length<=maxEl)(ha:SzT a.2)(hb: ∀b∈tg,SzT b.2)(v0:List ByteArray)(v1:List Term){N:List ByteArray}{T:List Term}(g:GB N T)(hN:N.length+(a.2.length+sumT r)<=maxEl)
  (hrec: ∀N T,GB N T->N.length+sumT r<=maxEl-> ∃N' T',rec (N,T,r,tg)=some (N',T',(exM r (YCK N T) tg).isSome)):
  ∀(k n:Nat),n+k=tg.length-> ∃N' T',Yc7 loO rec (a::r,tg,(n:Int),N,T,v0,v1)=some (
   match(tg.drop n).findSome? (fun b=>(atM (YCK N T) a b).bind fun σ'=>exM r σ' tg)with
   |some σ'=>.inl (true,N',T')
   |none=>.inr (N,T,v0,v1)):=by
 intro k
 induction k with
 |zero=>
  intro n hn
  have e:n=tg.length:=by omega
  subst e
  refine⟨N,T,?_⟩
  rw[YHc (by omega)]
  show YCA _ _=_
  rw[Yaq]
  simp only[YbN,nlI,cond_false]
  rfl
 |succ k ih=>
  intro n hn
  have hlt:n<tg.length:=by omega
  obtain⟨N2,T2,ih⟩:=ih (n+1) (by omega)
  rw[Ybe (d:=zA) hlt,List.findSome?_cons]
  have nx:YHK .i64 ((n:Int)+1)=((n+1:Nat):Int):=inc hlt htg
  have step:Yc7 loO rec (a::r,tg,(n:Int),N,T,v0,v1)=(match YbN loO rec (a::r,tg,(n:Int),N,T,v0,v1)with|some (.inl s)=>Yc7 loO rec s|some (.inr x)=>some x|none=>none):=by
   show YCA _ _=_
   rw[Yaq]
   rcases YbN loO rec (a::r,tg,(n:Int),N,T,v0,v1)with _| (_|_)<;>rfl
  have e0:(a::r).getD 0 (YHJ #[],[])=a:=rfl
  have e1:((a::r).take (a::r).length).drop 1=r:=by simp
  have es:YbN loO rec (a::r,tg,(n:Int),N,T,v0,v1)=bif !decide (a.1=(tg.getD n zA).1)then some (.inl (a::r,tg,((n+1:Nat):Int),N,T,v0,v1))else YHq (q129 loO N T a.1 a.2 (tg.getD n zA).2) fun y569=>bif y569.2.2 then(YHq (rec (y569.1,y569.2.1,r,tg)) fun y570=>bif y570.2.2 then(some (.inr (.inl (true,y570.1,y570.2.1))))else(some (.inl (a::r,tg,((n+1:Nat):Int),N,T,v0,v1))))else(some (.inl (a::r,tg,((n+1:Nat):Int),N,T,v0,v1))):=by
   simp only[YbN,ltI hlt,cond_true,YHE,e0,e1,nx]
   have hc:decide ((tg.getD n zA).1=a.1)=decide (a.1=(tg.getD n zA).1):=by grind
   rw[chkT _ (by omega),chkT _ (by simp),hc]
   congr 1
   rw[chkT _ (by simp),chkT _ (by omega)]
   congr 1
   funext y569
   congr 1
   rw[chkT _ (by grind)]
  rw[step,es]
  unfold atM
  by_cases hn':a.1=(tg.getD n zA).1
  ·rw[decide_eq_true hn']
   simp only[YHz,cond_false]
   obtain⟨N1,T1,r1,r2,r3,r4⟩:=rAt g a.1 a.2 (tg.getD n zA).2 ha (hb _ (Yaj hlt)) (by omega)
   have ei:(bif !decide ((a.2.length:Int)=((tg.getD n zA).2.length:Int))then none else tsM (YCK N T) (pT a.2) (tg.getD n zA).2)=tsL (YCK N T) a.2 (tg.getD n zA).2:=rfl
   rw[ei,r1,YCm]
   cases hx:tsL (YCK N T) a.2 (tg.getD n zA).2 with
   |none=>
    exact⟨N2,T2,ih⟩
   |some σ1=>
    simp only[Option.isSome_some,cond_true,YHt]
    obtain⟨N3,T3,q⟩:=hrec N1 T1 r2 (by omega)
    rw[q,YCm,r4 σ1 hx]
    cases exM r σ1 tg with
    |none=>exact⟨N2,T2,ih⟩
    |some σ2=>simp
  ·rw[decide_eq_false hn']
   exact⟨N2,T2,ih⟩
theorem YB2(tg:List Atom)(htg:tg.length<=maxEl)(hb: ∀b∈tg,SzT b.2)(j:Nat): ∀(rest:List Atom),(∀a∈rest,SzT a.2)-> ∀(N:List ByteArray) (T:List Term),GB N T->N.length+sumT rest<=maxEl->
  ∃N' T',Ybc loO (rest.length+1+j) (N,T,rest,tg)=some (N',T',(exM rest (YCK N T) tg).isSome):=by
 intro rest
 induction rest with
 |nil=>
  intro _ N T g _
  refine⟨N,T,?_⟩
  have e:([]:List Atom).length+1+j=j+1:=by grind
  rw[e];rfl
 |cons a r ih=>
  intro ha N T g hN
  have e:(a::r).length+1+j=(r.length+1+j)+1:=by grind
  have es:sumT (a::r)=a.2.length+sumT r:=rfl
  rw[e]
  obtain⟨N',T',k2⟩:=YB1 (Ybc loO (r.length+1+j)) a r tg htg (ha a (YGQ ..)) hb [] [] g (by omega) (fun N T g hN=>ih (fun b hb=>ha b (YGU _ hb)) N T g hN) tg.length 0 (by omega)
  rw[YG3,show((0:Nat):Int)=0 from rfl]at k2
  show∃N' T',YeR loO (Ybc loO (r.length+1+j)) N T (a::r) tg=_
  have e0:decide (((a::r).length:Int)=0)=false:=by rfl
  unfold YeR
  rw[e0,cond_false,k2,YCm]
  simp only[exM]
  cases tg.findSome? (fun b=>(atM (YCK N T) a b).bind fun σ'=>exM r σ' tg)with
  |some σ'=>exact⟨N',T',rfl⟩
  |none=>exact⟨N,T,rfl⟩
theorem Yo8: ∀n x y,Ybc loO n x=some y->Ybc loO (n+1) x=some y
 |0,_,_,h=>by cases h
 |n+1,x,y,h=>by
  have ih:=Yo8 n
  have h':YeR loO (Ybc loO n) x.1 x.2.1 x.2.2.1 x.2.2.2=some y:=h
  refine YDB h' (fun h=>h) fun h=>YEn h (fun z hz=> ?_) fun _ h=>h
  refine Yhy (fun s q hs=> ?_) hz
  obtain⟨s1,s2,s3,s4,s5,s6,s7⟩:=s
  exact YDB hs (fun h=>chkm h fun h=>chkm h fun h=>YDB h (fun h=>h) fun h=>chkm h fun h=>chkm h fun h=>YFT h fun _ h=>YDB h (fun h=>chkm h fun h=>YEn h (ih _) fun _ h=>h) fun h=>h) fun h=>h
theorem rExt(rest tg:List Atom)(htg:tg.length<=maxEl)(ha: ∀a∈rest,SzT a.2)(hb: ∀b∈tg,SzT b.2){N:List ByteArray}{T:List Term}(g:GB N T)(hN:N.length+sumT rest<=maxEl):
  ∃N' T',q141 loO N T rest tg=some (N',T',(exM rest (YCK N T) tg).isSome):=by
 obtain⟨N',T',h⟩:=YB2 tg htg hb 0 rest ha N T g hN
 exact⟨N',T',Yd2 Yo8 (n:=0) (by rw[YHl];exact h)⟩
end
end Go.Abs.G47
namespace Go.Abs.G47
open Go Go.Abs
noncomputable section
theorem YGG(l:List Atom)(h:l.length<=maxEl)(h2:sumT l<=maxEl):q84 loO l=some (YCw [] l):=by
 have inner: ∀(i:Nat) (out:List ByteArray),i<l.length->out.length<=sumT (l.take i)->Yg1 loO (l,(l.length:Int),(i:Int),(l.getD i zA).2,((l.getD i zA).2.length:Int),0,out)=some (l,(l.length:Int),(i:Int),YCU out (l.getD i zA).2):=by
  intro i out hi ho
  have hb:=Ybq hi
  refine Yan (st:=fun n=>(l,(l.length:Int),(i:Int),(l.getD i zA).2,((l.getD i zA).2.length:Int),(n:Int),YCU out ((l.getD i zA).2.take n))) (N:=(l.getD i zA).2.length) rfl ?_ (fun n hn=> ?_)
  ·simp only[YeA,nlI,cond_false,YGV]
  ·have ht:=YeX ((l.getD i zA).2.take n) out
   rw[List.length_take,Nat.min_eq_left (by omega)]at ht
   simp only[YeA,YHE,ltI hn,cond_true,inc hn (show(l.getD i zA).2.length<=maxEl by omega)]
   rw[chkT _ (by omega),Yhs _ _ (by omega),YCm]
   have e:YCU out ((l.getD i zA).2.take (n+1))=addV (YCU out ((l.getD i zA).2.take n)) ((l.getD i zA).2.getD n zM).1:=Yce (fun o (t:Term)=>addV o t.1) out (d:=zM) hn
   rw[e]
   rw[chkT _ (by grind)]
   unfold addV
   grind
 have outer:Yg2 loO (l,(l.length:Int),0,[])=some (YCw [] l):=by
  refine Yan (st:=fun n=>(l,(l.length:Int),(n:Int),YCw [] (l.take n))) (N:=l.length) rfl ?_ (fun n hn=> ?_)
  ·simp only[YeB,nlI,cond_false,YGV]
  ·have hl:=Ycd (l.take n) []
   simp at hl
   simp only[YeB,ltI hn,cond_true,YHE]
   rw[chkT _ (by omega),inner n _ hn hl,YCm]
   simp only[inc hn h]
   have e:YCw [] (l.take (n+1))=YCU (YCw [] (l.take n)) (l.getD n zA).2:=Yce (fun o (a:Atom)=>YCU o a.2) [] (d:=zA) hn
   rw[e]
 unfold q84
 simp_all
def vT(v:ByteArray):Term:=(v,0,0,nul0)
def hdS(hd tg:List ByteArray):Nat->Int×Ent Term
 |0=>(0,[])
 |n+1=>(mck eqS (hdS hd tg n).1 (hd.getD n nul0) (hdS hd tg n).2,mpt eqS (hdS hd tg n).1 (hd.getD n nul0) (vT (tg.getD n nul0)) (hdS hd tg n).2)
def hdA(hd tg:List ByteArray):Nat->Asg Term
 |0=>fun _=>none
 |n+1=>upd (hdA hd tg n) (hd.getD n nul0) (vT (tg.getD n nul0))
theorem Yo9(hd tg:List ByteArray): ∀n,KN (hdS hd tg n).2/\lk (hdS hd tg n).2=hdA hd tg n
 |0=>⟨List.nodup_nil,by rfl⟩
 |n+1=>by
  obtain⟨h1,h2⟩:=Yo9 hd tg n
  refine⟨Yov h1,?_⟩
  show lk (mpt eqS _ _ _ _)=upd _ _ _
  rw[Yhw,h2]
def hmM(fh:List ByteArray)(fa:List Atom)(th:List ByteArray)(ta:List Atom):Option (Asg Term):=
 bif !wfB fh fa then none else bif !wfB th ta then none else bif !decide ((fh.length:Int)=(th.length:Int))then none else exM fa (hdA fh th fh.length) ta
def imgs(fa:List Atom)(σ:Asg Term):List Term:=(YCw [] fa).map fun v=>(σ v).getD zM
theorem Ypa{hd:List ByteArray}{l:List Atom}(h:wfB hd l=true):l.length<=6:=by
 unfold wfB at h
 grind
theorem tHom(fh:List ByteArray)(fa:List Atom)(th:List ByteArray)(ta:List Atom)(h1:fh.length<=maxEl)(h2:sumT fa<=maxEl)(h3:th.length<=maxEl)(h4:sumT ta<=maxEl):
  q85 loO fh fa th ta=some (match hmM fh fa th ta with|some σ=>(imgs fa σ,true)|none=>([],false)):=by
 have hm:maxEl=1073741824:=rfl
 unfold q85 hmM
 rw[tWf fh fa h1 h2,YCm]
 cases hw:wfB fh fa with
 |false=>rfl
 |true=>
  rw[tWf th ta h3 h4,YCm]
  cases hw':wfB th ta with
  |false=>rfl
  |true=>
   by_cases hl:(fh.length:Int)=(th.length:Int)
   ·simp only[hl,decide_true,YHz,cond_false]
    have e14:Yg3 loO (fh,(fh.length:Int),0,fh,fa,th,ta,0,[],false,false)=some (fh,fa,th,ta,(hdS fh th fh.length).1,(hdS fh th fh.length).2,false,false):=by
     refine Yan (st:=fun n=>(fh,(fh.length:Int),(n:Int),fh,fa,th,ta,(hdS fh th n).1,(hdS fh th n).2,false,false)) (N:=fh.length) rfl ?_ (fun n hn=> ?_)
     ·simp only[YeC,nlI,cond_false]
     ·simp only[YeC,ltI hn,cond_true,inc hn h1,YHE]
      rw[chkT _ (by omega),chkT _ (by omega)]
      rfl
    rw[hl]at e14
    rw[e14,YCm]
    obtain⟨k1,k2⟩:=Yo9 fh th fh.length
    have hf:=Ypa hw
    have hal: ∀a∈fa,a.2.length<=maxEl:=fun a ha=>by
     obtain⟨m,hm',e⟩:=YG7.1 ha
     have:=Ybq (l:=fa) hm'
     grind
    obtain⟨clk',l',r1,r2,r3⟩:=tExt fa ta (by have:=Ypa hw';omega) hal false false (hdS fh th fh.length).1 (hdS fh th fh.length).2 k1
    rw[r1,YCm]
    rw[k2]at r3
    rw[k2]
    cases hx:exM fa (hdA fh th fh.length) ta with
    |none=>rfl
    |some σ=>
     rw[hx]at r3
     simp at r3
     rw[YGG fa (by omega) h2,YCm]
     have hvl:=Ycd fa []
     simp at hvl
     have e3:Yg4 loO (YCw [] fa,((YCw [] fa).length:Int),0,clk',l',false,false,[])=some (imgs fa σ):=by
      refine Yan (st:=fun n=>(YCw [] fa,((YCw [] fa).length:Int),(n:Int),clk',l',false,false,((YCw [] fa).take n).map fun v=>(σ v).getD zM)) (N:=(YCw [] fa).length) rfl ?_ (fun n hn=> ?_)
      ·simp only[YeD,nlI,cond_false,YGV]
       rfl
      ·simp only[YeD,ltI hn,cond_true,inc hn (show(YCw [] fa).length<=maxEl by omega),YHE]
       rw[chkT _ (by omega),chkT _ (by grind),YaQ (d:=nul0) hn,List.map_append]
       have e:mgt eqS ((YCw [] fa).getD n nul0) l' zM=(σ ((YCw [] fa).getD n nul0)).getD zM:=by
        rw[<-r3]
        rfl
       simp_all
     simp_all
   simp_all
def atOk(τ:Asg Term)(a b:Atom):Prop:=a.1=b.1/\a.2.length=b.2.length/\Img τ (pT a.2) b.2
theorem YB3{σ σ':Asg Term}{a b:Atom}(h:atM σ a b=some σ'):leA σ σ'/\atOk σ' a b:=by
 unfold atM at h
 by_cases h1:a.1=b.1
 ·by_cases h2:(a.2.length:Int)=(b.2.length:Int)
  ·simp only[h1,h2,decide_true,YHz,cond_false]at h
   obtain⟨k1,k2⟩:=Yhx h
   exact⟨k1,h1,by omega,k2⟩
  simp_all
 simp_all
theorem Ypb: ∀{rest:List Atom} {σ σ':Asg Term} {tg:List Atom},exM rest σ tg=some σ'->leA σ σ'/\ ∀a∈rest,∃b∈tg,atOk σ' a b
 | [],σ,σ',tg,h=>by injection h with h;subst h;exact⟨leA.refl _,fun a ha=>nomatch ha⟩
 |a::r,σ,σ',tg,h=>by
  obtain⟨b,hb,h⟩:=List.exists_of_findSome?_eq_some h
  cases h1:atM σ a b with
  |none=>simp_all
  |some σ1=>
   rw[h1]at h
   obtain⟨k1,k2,k3,k4⟩:=YB3 h1
   obtain⟨i1,i2⟩:=Ypb (show exM r σ1 tg=some σ' from h)
   refine⟨k1.trans i1,fun c hc=> ?_⟩
   rcases YGO.1 hc with rfl|hc
   ·exact⟨b,hb,k2,k3,k4.mono i1⟩
   simp_all
end
end Go.Abs.G47
namespace Go.Abs.G47
open Go Go.Abs
noncomputable section
theorem YhJ{v:Int×Int×ByteArray}(h:vB v=true):v.2.2.size<=200:=by
 obtain⟨a,b,c⟩:=v
 unfold vB q6 at h
 by_cases h0:a=0<;>by_cases h1:a=1<;>by_cases h2:a=2<;>by_cases h3:a=3<;>by_cases h4:b=0<;>by_cases h5:1<=b<;>simp[h0,h1,h2,h3,h4,h5]at h<;>first| (subst h;exact YHo _)|grind|omega
theorem Ypc{t:Term}(h:YCQ t=true):t.2.2.2.size<=200:=by
 unfold YCQ at h
 by_cases h0:t.1=nul0
 ·simp only[h0,decide_true,YHz,cond_false]at h
  exact YhJ h
 ·simp only[h0,decide_false,YHA,cond_true,YHy,decide_eq_true_eq]at h
  rw[h.2.2.2.1];trivial
theorem YB4{l:List Term}(h:badT l=false): ∀t∈l,YCQ t=true:=fun t ht=>by
 unfold badT at h
 rw[YbO (fun t=> !YCQ t) l zM]at h
 simp_all
structure Wf(hd:List ByteArray)(l:List Atom):Prop where
 len:l.length<=6
 ne:l≠ []
 nm: ∀a∈l,YCJ a.1=true
 tm: ∀a∈l,∀t∈a.2,YCQ t=true
 hd: ∀n,n<hd.length->hd.getD n nul0∈YCw [] l/\hd.getD n nul0∉hd.take n
theorem wf_iff{hd:List ByteArray}{l:List Atom}:wfB hd l=true↔Wf hd l:=by
 unfold wfB YDQ
 rw[show(fun m=> !YCJ (l.getD m zA).1||badT (l.getD m zA).2)=fun m=>(fun a:Atom=> !YCJ a.1||badT a.2) (l.getD m zA)from rfl,YbO (fun a:Atom=> !YCJ a.1||badT a.2) l zA]
 have ebad: ∀t:List Term,badT t=false↔ ∀x∈t,YCQ x=true:=fun t=>⟨YB4,fun h=>by
  unfold badT;rw[YbO (fun t=> !YCQ t) t zM,List.any_eq_false];simp_all⟩
 have eh:(!anyN (fun m=> !fHd hd l m) hd.length 0)=true↔ ∀n,n<hd.length->hd.getD n nul0∈YCw [] l/\hd.getD n nul0∉hd.take n:=by
  rw[Bool.not_eq_true',<-YHD,anyN_iff]
  constructor
  ·intro h n hn
   have:fHd hd l n=true:=by
    simp_all
   unfold fHd at this
   rw[YHy,inL_iff,Bool.not_eq_true',<-YHD,inL_iff]at this
   trivial
  ·rintro h ⟨m,_,h2,h3⟩
   have:=h m (by omega)
   unfold fHd at h3
   rw[inL_iff.2 this.1]at h3
   cases hi:inL (hd.take m) (hd.getD m nul0)with
   |true=>exact this.2 (inL_iff.1 hi)
   |false=>simp_all
 by_cases h1:(l.length:Int)<1
 ·simp only[h1,decide_true,cond_true]
  refine⟨fun h=>(by cases h),fun h=> ?_⟩
  have:l=[]:=YGR.1 (by omega)
  exact absurd this h.ne
 ·by_cases h6:(6:Int)< (l.length:Int)
  ·simp only[h1,h6,decide_false,decide_true,cond_true,cond_false]
   exact⟨fun h=>(by cases h),fun h=>by have:=h.len;omega⟩
  ·simp only[h1,h6,decide_false,cond_false]
   cases ha:l.any (fun a:Atom=> !YCJ a.1||badT a.2)with
   |true=>
    refine⟨fun h=>(by cases h),fun h=> ?_⟩
    rw[List.any_eq_true]at ha
    obtain⟨a,h2,h3⟩:=ha
    rw[h.nm a h2,(ebad a.2).2 (h.tm a h2)]at h3;cases h3
   |false=>
    simp only[cond_false]
    rw[eh]
    constructor
    ·intro h
     refine⟨by omega,fun e=>by simp_all,fun a hx=> ?_,fun a hx=> ?_,h⟩
     ·grind
     grind
    ·intro h;exact h.hd
theorem Wf.sz{hd:List ByteArray}{l:List Atom}(h:Wf hd l): ∀a∈l,SzT a.2:=fun a ha t ht=>by
 have:=Ypc (h.tm a ha t ht)
 have:maxEl=1073741824:=rfl
 omega
theorem YB5(l:List ByteArray):SzT (l.map vT):=fun t ht=>by
 obtain⟨v,_,rfl⟩:=YGS.1 ht;exact YHo _
theorem Ypd{fh th:List ByteArray}(hl:fh.length=th.length)(hd: ∀n,n<fh.length->fh.getD n nul0∉fh.take n): ∀n,n<=fh.length->YCK (fh.take n) ((th.take n).map vT)=hdA fh th n
 |0,_=>by rfl
 |n+1,h=>by
  rw[YaQ (d:=nul0) (by omega),YaQ (l:=th) (d:=nul0) (by omega),List.map_append]
  rw[YGK,YGM,Yo7 (by simp_all),Ypd hl hd n (by omega)]
  ·rfl
  ·rcases YhH (fh.take n) (fh.getD n nul0)with⟨m,h1,h2,h3⟩| ⟨h1,h2⟩
   ·grind
   ·omega
theorem Ype{fh th:List ByteArray}(hd: ∀n,n<fh.length->fh.getD n nul0∉fh.take n){i:Nat}: ∀n,n<=fh.length->i<n->hdA fh th n (fh.getD i nul0)=some (vT (th.getD i nul0))
 |0,_,h=>by omega
 |n+1,h,hi=>by
  unfold hdA upd
  by_cases e:i=n
  ·simp_all
  ·rw[if_neg,Ype hd n (by omega) (by omega)]
   intro e'
   refine hd n (by omega) (e'▸ ?_)
   rw[List.mem_take_iff_getElem]
   grind
theorem YGs(fh:List ByteArray)(fa:List Atom)(th:List ByteArray)(ta:List Atom)(h1:fh.length<=maxEl):q140 loO fh fa th ta=some (bif !decide ((fh.length:Int)=(th.length:Int))then([],[],false)else(fh,th.map vT,true)):=by
 unfold q140
 by_cases hl:(fh.length:Int)=(th.length:Int)
 ·have e3:Yhl loO (0,fh,fa,th,ta,[],[],[],[])=some ([],[],fh,th.map vT):=by
   refine Yan (st:=fun n=>((n:Int),fh,fa,th,ta,[],[],fh.take n,(th.take n).map vT)) (N:=fh.length) rfl ?_ (fun n hn=> ?_)
   ·simp only[YeQ,nlI,cond_false,YGV]
    rw[List.take_of_length_le (l:=th) (by omega)]
   ·simp only[YeQ,ltI hn,cond_true,inc hn h1,YHE]
    rw[chkT _ (by omega),chkT _ (by grind),chkT _ (by omega),chkT _ (by grind),YaQ (d:=nul0) hn,YaQ (l:=th) (d:=nul0) (by omega),List.map_append]
    rfl
  simp_all
 simp_all
theorem rEx(fh:List ByteArray)(fa:List Atom)(th:List ByteArray)(ta:List Atom)(h1:fh.length<=maxEl)(h2:fh.length+sumT fa<=maxEl)(h3:th.length<=maxEl)(h4:sumT ta<=maxEl):q142 loO fh fa th ta=some (hmM fh fa th ta).isSome:=by
 have hm:maxEl=1073741824:=rfl
 unfold q142 hmM
 rw[rWf fh fa h1 (by omega),YCm]
 cases hw:wfB fh fa with
 |false=>rfl
 |true=>
  rw[rWf th ta h3 h4,YCm]
  cases hw':wfB th ta with
  |false=>rfl
  |true=>
   rw[YGs fh fa th ta h1,YCm]
   by_cases hl:(fh.length:Int)=(th.length:Int)
   ·have w:=wf_iff.1 hw
    have w':=wf_iff.1 hw'
    have hl':fh.length=th.length:=by omega
    obtain⟨N,T,e⟩:=rExt (N:=fh) (T:=th.map vT) fa ta (by have:=w'.len;omega) w.sz w'.sz ⟨by grind,YB5 th⟩ h2
    have eb:=Ypd hl' (fun n hn=>(w.hd n hn).2) fh.length (YHf _)
    grind
   simp_all
end
end Go.Abs.G47
namespace Go.Abs.G47
open Go Go.Abs
noncomputable section
def cT(v:Val):Term:=(nul0,v)
def dA(N:List ByteArray)(T:List Term):Asg Val:=fun k=>(YCK N T k).map (·.2)
structure ROk(db:List Tabl)(l:List Atom):Prop where
 ix: ∀a∈l,0<=tabI db a.1
 sz: ∀a∈l,SzT a.2
theorem Ypf(db:List Tabl){l:List Atom}{n:Nat}(hn:n<l.length):(tbs db l).getD n zT=tabO db (l.getD n zA).1:=by
 unfold tbs;simp_all
theorem QOk.at{db:List Tabl}{hd:List ByteArray}{l:List Atom}(h:QOk db hd l){a:Atom}(ha:a∈l):(tabO db a.1).2.2.length<=6/\ ∀row∈ (tabO db a.1).2.2,row.2.length=a.2.length/\ ∀v∈row.2,v.2.2.size<=maxEl:=by
 have hM:maxEl=1073741824:=rfl
 obtain⟨n,hn,e⟩:=YG7.1 ha
 have e':l.getD n zA=a:=by simp_all
 have h1:=h.row n hn
 have h2:=h.tb.ar n hn
 have h3:=h.val n hn
 rw[Ypf db hn,e']at h1 h2 h3
 exact⟨h1,fun row hr=>⟨h2 row hr,fun v hv=>by have:=YhJ (h3 row hr v hv).1;omega⟩⟩
end
end Go.Abs.G47
namespace Go.Abs.G47
open Go Go.Abs
noncomputable section
theorem rIn(L:List Vals)(v:Vals)(hL:L.length<=maxEl)(hs: ∀x∈L,SzV x)(hv:SzV v):q135 loO L v=some (hasV L v):=by
 unfold q135
 have:Yhj loO (L,v,0)=some (YCo (R:=Bool⊕Unit) (fun m=>bif decide (L.getD m []=v)then some (.inl true)else none) L.length 0 (.inr ())):=by
  refine Yak (fun n=>(L,v,(n:Int))) _ L.length _ rfl ?_ (fun n hn=> ?_)
  ·simp only[YeO,nlI,cond_false]
  ·simp only[YeO,ltI hn,cond_true,inc hn hL,YHE]
   rw[chkT _ (by omega),YBJ _ _ (hs _ (Yaj hn)) hv,YCm]
   grind
 rw[this,YCm,YeV]
 have e:anyN (fun m=>decide (L.getD m []=v)) L.length 0=hasV L v:=YbO (fun x=>decide (x=v)) L []
 rw[e]
 cases hasV L v<;>rfl
theorem YB6{a:Vals}(h:Ok a)(hl:a.length<=1000):SzV a:=by
 have hM:maxEl=1073741824:=rfl
 exact⟨by omega,fun v hv=>by have:=YhJ (h v hv).1;omega⟩
end
end Go.Abs.G47
namespace Go.Abs.G47
open Go Go.Abs
noncomputable section
abbrev zS:ByteArray:=nul0
theorem idx_no{l:List ByteArray}{v:ByteArray}:idxI l v<0↔v∉l:=by
 rw[<-decide_eq_true_iff (p:=idxI l v<0),YeY,Bool.not_eq_true',<-YHD,inL_iff]
theorem Ypg{n N:Nat}(hn:n<N)(hN:N<=1073741824):YHK .i64 ((n:Int)+1)=((n+1:Nat):Int):=inc hn hN
theorem YB7(c:Int): ∃v,q117 loO c=some v/\goodV v:=by
 have g: ∀a b:Int,∀s:ByteArray,vB (a,b,s)=true->(decide (-9223372036854775808<=b)&&decide (b<=9223372036854775807))=true->goodV (a,b,s):=fun a b s h1 h2=>by
  simp at h2
  trivial
 have v0: ∀n:Int,vB (1,n,YHJ #[])=true:=fun n=>by rfl
 unfold q117
 rw[chkT _ (by decide)]
 by_cases h0:c.tmod 12=0
 ·simp_all
 rw[decide_eq_false h0]
 by_cases h1:c.tmod 12=1
 ·simp_all
 rw[decide_eq_false h1]
 by_cases h2:c.tmod 12=2
 ·simp_all
 rw[decide_eq_false h2]
 by_cases h3:c.tmod 12=3
 ·exact⟨_,by rw[decide_eq_true h3];rfl,g _ _ _ (by rfl) (by decide)⟩
 rw[decide_eq_false h3]
 by_cases h4:c.tmod 12=4
 ·exact⟨_,by rw[decide_eq_true h4];rfl,g _ _ _ (by rfl) (by decide)⟩
 rw[decide_eq_false h4]
 by_cases h5:c.tmod 12=5
 ·exact⟨_,by rw[decide_eq_true h5];rfl,g _ _ _ (by rfl) (by decide)⟩
 rw[decide_eq_false h5]
 by_cases h6:c.tmod 12=6
 ·exact⟨_,by rw[decide_eq_true h6];rfl,g _ _ _ (by rfl) (by decide)⟩
 rw[decide_eq_false h6]
 by_cases h7:c.tmod 12=7
 ·exact⟨_,by rw[decide_eq_true h7];rfl,g _ _ _ (by rfl) (by decide)⟩
 rw[decide_eq_false h7]
 by_cases h8:c.tmod 12=8
 ·simp_all
 rw[decide_eq_false h8]
 by_cases h9:c.tmod 12=9
 ·exact⟨_,by rw[decide_eq_true h9];rfl,g _ _ _ (by rfl) (by decide)⟩
 rw[decide_eq_false h9]
 by_cases h10:c.tmod 12=10
 ·exact⟨_,by rw[decide_eq_true h10];rfl,g _ _ _ (by rfl) (by decide)⟩
 simp_all
def ofV(c:Int):Int×Int×ByteArray:=(q117 loO c).getD zV
theorem Ydc(c:Int):q117 loO c=some (ofV c)/\goodV (ofV c):=by
 obtain⟨v,h,g⟩:=YB7 c
 have:ofV c=v:=by unfold ofV;simp_all
 simp_all
structure GT(nm:ByteArray)(attrs:List ByteArray)(rows:Rws):Prop where
 nm:YCJ nm=true
 na:attrs.length<=16
 nr:rows.length<=1000
 at': ∀a∈attrs,YCJ a=true
 nd:attrs.Nodup
 ids:((0:Int)::rows.map (·.1)).Pairwise (· < ·)
 len: ∀r∈rows,r.2.length=attrs.length
 ok: ∀r∈rows,∀v∈r.2,vB v=true
theorem Yph{attrs:List ByteArray}(h:attrs.Nodup){n:Nat}(hn:n<attrs.length):attrs.getD n zS∉attrs.take n:=by
 intro hm
 rw[<-List.take_append_drop n attrs,List.nodup_append]at h
 refine h.2.2 _ hm _ ?_ rfl
 rw[YG4,YGI hn]
 exact List.mem_drop_iff_getElem.2 ⟨0,by omega,by simp⟩
theorem YB8{nm:ByteArray}{attrs:List ByteArray}{rows:Rws}(g:GT nm attrs rows):YC1 nm attrs rows=0:=by
 have hA:anyN (fA attrs) attrs.length 0=false:=by
  rw[<-YHD,anyN_iff]
  rintro⟨m,_,h2,h3⟩
  have hm:m<attrs.length:=by omega
  unfold fA at h3
  rw[g.at' _ (Yaj hm),YHz,Bool.false_or,decide_eq_true_eq]at h3
  have:=idx_no.2 (Yph g.nd hm)
  grind
 have hR:YCo (fV attrs rows) rows.length 0 (.inr ())= .inr ():=by
  refine YeU _ _ (fun m _ hm=> ?_)
  have hm:m<rows.length:=by omega
  have hmem:=Yaj (d:=zR) hm
  have hid:YD3 rows m< (rows.getD m zR).1:=by
   have hp:=List.pairwise_iff_getElem.1 g.ids
   have e:(rows.getD m zR).1=((0:Int)::rows.map (·.1))[m+1]'(by simp_all):=by
    simp_all
   cases m with
   |zero=>rw[e];exact hp 0 1 (by simp) (by simp_all) (by omega)
   |succ k=>
    have e2:YD3 rows (k+1)=((0:Int)::rows.map (·.1))[k+1]'(by grind):=by
     show(rows.getD k zR).1=_
     grind
    rw[e,e2];exact hp (k+1) (k+2) _ _ (by omega)
  unfold fV
  have hv:vsB (rows.getD m zR).2=true:=by
   unfold vsB
   rw[Bool.not_eq_true',<-YHD,anyN_iff]
   rintro⟨k,_,h2,h3⟩
   rw[g.ok _ hmem _ (Yaj (by omega))]at h3
   cases h3
  rw[decide_eq_false (by omega),g.len _ hmem,decide_eq_true rfl,hv];rfl
 have h1:=g.na
 have h2:=g.nr
 unfold YC1
 rw[g.nm,decide_eq_false (by omega),decide_eq_false (by omega),hA,hR];rfl
abbrev nmL:List ByteArray:=[(YHJ #[97]),(YHJ #[98]),(YHJ #[99]),(YHJ #[100]),(YHJ #[101]),(YHJ #[102]),(YHJ #[103]),(YHJ #[104])]
def cellV(codes:List Int)(k:Nat):Int×Int×ByteArray:=if k<codes.length then ofV (codes.getD k 0)else ofV 0
def recR(n:Nat)(g:Int)(rows:List (List Int)):Rws:=tab rows.length fun i=>(1+(i:Int)*g,tab n (cellV (rows.getD i [])))
theorem YB9(n i:Nat)(a b:Int)(rows:List (List Int))(hi:i<rows.length)(hn:n<=5)(v4:ByteArray)(v5:List ByteArray)(v6:Rws)(t:ByteArray)(id:Int)(h3:List ByteArray)(h4:Rws):
  Yhb loO ((n:Int),(i:Int),0,a,b,rows,v4,v5,v6,t,id,h3,h4,[])=some ((n:Int),(i:Int),a,b,rows,v4,v5,v6,t,id,h3,h4,tab n (cellV (rows.getD i []))):=by
 have hm:maxEl=1073741824:=rfl
 refine Yan (N:=n) (st:=fun k=>((n:Int),(i:Int),(k:Int),a,b,rows,v4,v5,v6,t,id,h3,h4,tab k (cellV (rows.getD i [])))) ?_ ?_ (fun k hk=> ?_)
 ·rfl
 ·simp[YeK]
 ·have e1:decide ((k:Int)< (n:Int))=true:=by simp_all
  have e2:=Ypg hk (by omega)
  simp only[YeK,e1,cond_true,e2,YHE]
  rw[chkT _ (by omega),<-Ycb]
  by_cases hc:k< (rows.getD i []).length
  ·have ec:cellV (rows.getD i []) k=ofV ((rows.getD i []).getD k 0):=by unfold cellV;simp_all
   rw[decide_eq_true (by omega:(k:Int)< ((rows.getD i []).length:Int)),cond_true,chkT _ (by omega),chkT _ (by omega),(Ydc _).1,YCm,ec,chkT _ (by rw[YaB];grind)]
  ·have ec:cellV (rows.getD i []) k=ofV 0:=by unfold cellV;simp_all
   rw[decide_eq_false (by omega: ¬ (k:Int)< ((rows.getD i []).length:Int)),cond_false,(Ydc _).1,YCm,ec,chkT _ (by rw[YaB];grind)]
theorem YCa(n:Nat)(a b:Int)(rows:List (List Int))(hr:rows.length<=8)(hn:n<=5)(hb0:0<=b):q118 loO a b rows (n:Int)=some (YHJ #[114],nmL.take n,recR n (1+b.tmod 3) rows):=by
 have hm:maxEl=1073741824:=rfl
 have hg0:0<=b.tmod 3:=Int.tmod_nonneg _ hb0
 have hg1:b.tmod 3<3:=Int.tmod_lt_of_pos _ (by decide)
 have hL:Yhc loO ((n:Int),0,a,b,rows,zS,[],[],YHJ #[114],nmL.take n,[])=some (zS,[],[],YHJ #[114],nmL.take n,recR n (1+b.tmod 3) rows):=by
  refine Yan (N:=rows.length) (st:=fun i=>((n:Int),(i:Int),a,b,rows,zS,[],[],YHJ #[114],nmL.take n,tab i fun i=>(1+(i:Int)*(1+b.tmod 3),tab n (cellV (rows.getD i []))))) ?_ ?_ (fun i hi=> ?_)
  ·rfl
  ·simp[YeL,recR]
  ·have e1:decide ((i:Int)< (rows.length:Int))=true:=by simp_all
   have e2:=Ypg hi (by omega)
   have hprod:(i:Int)*(1+b.tmod 3)<=24/\0<=(i:Int)*(1+b.tmod 3):=by
    refine⟨?_,Int.mul_nonneg (by omega) (by omega)⟩
    have h1:(i:Int)*(1+b.tmod 3)<=(i:Int)*3:=Int.mul_le_mul_of_nonneg_left (by omega) (by omega)
    omega
   have e3:YHK .i64 (1+b.tmod 3)=1+b.tmod 3:=wr6 (by omega) (by omega)
   have e4:YHK .i64 ((i:Int)*(1+b.tmod 3))=(i:Int)*(1+b.tmod 3):=wr6 (by omega) (by omega)
   have e5:YHK .i64 (1+(i:Int)*(1+b.tmod 3))=1+(i:Int)*(1+b.tmod 3):=wr6 (by omega) (by omega)
   have e6:YHK .i64 (b.tmod 3)=b.tmod 3:=wr6 (by omega) (by omega)
   simp only[YeL,e1,cond_true,e3,e4,e5,e6]
   rw[chkT _ (by decide),YB9 n i a b rows hi hn,YCm,<-Ycb]
   simp only[e2]
   rw[chkT _ (by rw[YaB];grind)]
 unfold q118
 have e0:(nmL.take (n:Int).toNat).drop 0=nmL.take n:=by rfl
 rw[chkT _ (by grind)]
 rw[e0,chkT _ (by grind),hL,YCm]
theorem YhK{n:Nat}{g:Int}{rows:List (List Int)}{r:Int×Vals}(h:r∈recR n g rows):r.2.length=n/\ ∀v∈r.2,goodV v:=by
 obtain⟨i,hi,rfl⟩:=YGS.1 h
 refine⟨YaB _ _,fun v hv=> ?_⟩
 obtain⟨k,hk,rfl⟩:=YGS.1 hv
 unfold cellV
 split
 ·exact(Ydc _).2
 trivial
theorem YCb(nm:ByteArray)(hnm:YCJ nm=true)(n:Nat)(g:Int)(rows:List (List Int))(hr:rows.length<=8)(hn:n<=5)(hg:1<=g):GT nm (nmL.take n) (recR n g rows):=by
 have hnl:(nmL.take n).length=n:=by grind
 have nB: ∀a∈nmL,YCJ a=true:=by
  trivial
 refine⟨hnm,by omega,by unfold recR;rw[YaB];omega,fun a ha=>nB a (List.mem_of_mem_take ha),List.Nodup.sublist (List.take_sublist _ _) (by decide),?_,fun r hr=>by rw[(YhK hr).1,hnl],fun r hr v hv=>((YhK hr).2 v hv).1⟩
 have e:(recR n g rows).map (·.1)=tab rows.length fun i=>1+(i:Int)*g:=by unfold recR tab;simp
 rw[e,List.pairwise_cons]
 constructor
 ·intro x hx
  obtain⟨i,hi,rfl⟩:=YGS.1 hx
  have:=Int.mul_nonneg (show(0:Int)<=(i:Int) by omega) (show 0<=g by omega)
  omega
 ·unfold tab
  rw[List.pairwise_map]
  refine List.Pairwise.imp (fun{a b} h=> ?_) List.pairwise_lt_range
  have h1:((a:Int)+1)*g<=(b:Int)*g:=Int.mul_le_mul_of_nonneg_right (by omega) (by omega)
  grind
abbrev nm3:List ByteArray:=[(YHJ #[114]),(YHJ #[115]),(YHJ #[116])]
def drT(d:List (Int×Int×List (List Int)))(i:Nat):Tabl:=
 (nm3.getD i nul0,nmL.take (((d.getD i (0,0,[])).1.tmod 4).tmod 6).toNat,recR (((d.getD i (0,0,[])).1.tmod 4).tmod 6).toNat (1+(d.getD i (0,0,[])).2.1.tmod 3) (d.getD i (0,0,[])).2.2)
structure DOk(db:List Tabl):Prop where
 len:db.length<=3
 gt: ∀t∈db,GT t.1 t.2.1 t.2.2
 na: ∀t∈db,t.2.1.length<=5
 rs: ∀t∈db,t.2.2.length<=6
 gv: ∀t∈db,∀r∈t.2.2,∀v∈r.2,goodV v
 nd:(db.map (·.1)).Nodup
theorem Ypi{n:Int}(h:0<=n)(h':n<=255): ∃m:Nat,(n.tmod 4).tmod 6=(m:Int)/\m<=3/\YHK .i64 ((n.tmod 4).tmod 6)=(m:Int):=by
 have h1:=Int.tmod_nonneg 4 h
 have h2:n.tmod 4<4:=Int.tmod_lt_of_pos _ (by decide)
 have h3:(n.tmod 4).tmod 6=n.tmod 4:=Int.tmod_eq_of_lt h1 (by omega)
 refine⟨(n.tmod 4).toNat,by omega,by omega,?_⟩
 rw[h3,wr6 (by omega) (by omega)];omega
theorem YGt(a b:Int)(rows:List (List Int))(ha:0<=a)(ha':a<=255)(hb:0<=b):q119 loO (a.tmod 4) b rows 6=some (bif decide ((6:Int)< (rows.length:Int))then(nul0,[],[],false)else((YHJ #[114]),nmL.take ((a.tmod 4).tmod 6).toNat,recR ((a.tmod 4).tmod 6).toNat (1+b.tmod 3) rows,true)):=by
 unfold q119
 by_cases h6:(6:Int)< (rows.length:Int)
 ·simp_all
 ·rw[decide_eq_false h6,cond_false,cond_false,chkT _ (by decide)]
  obtain⟨m,h1,h2,h3⟩:=Ypi ha ha'
  rw[h3,YCa m _ b rows (by omega) (by omega) hb,YCm,h1]
  rfl
theorem YGu(d:List (Int×Int×List (List Int)))(hd: ∀x∈d,0<=x.1/\x.1<=255/\0<=x.2.1): ∃db ok,q120 loO d=some (db,ok)/\DOk db:=by
 have hm:maxEl=1073741824:=rfl
 unfold q120
 have e3:Yhd loO (d,0,[],[])=some (YCo (R:=(Bool×List Tabl)⊕ (List (Int×Int×List (List Int))×List Tabl×List Tabl)) (fun m=>bif decide ((6:Int)< ((d.getD m (0,0,[])).2.2.length:Int))then some (.inl (false,[]))else none) (min d.length 3) 0 (.inr (d,[],tab (min d.length 3) (drT d)))):=by
  refine Yak (fun n=>(d,(n:Int),[],tab n (drT d))) _ (min d.length 3) _ rfl ?_ (fun n hn=> ?_)
  ·by_cases h:d.length<=3
   ·rw[Nat.min_eq_left h]
    simp only[Yc0,nlI,cond_false]
   ·rw[Nat.min_eq_right (by omega)]
    have e:decide (((3:Nat):Int)< (d.length:Int))=true:=by grind
    have e':decide (((3:Nat):Int)<3)=false:=rfl
    simp only[Yc0,e,e',cond_true,cond_false]
  ·have h1:decide ((n:Int)< (d.length:Int))=true:=by grind
   have h2:decide ((n:Int)<3)=true:=by grind
   obtain⟨p1,p2,p3⟩:=hd _ (Yaj (d:=(0,0,[])) (show n<d.length by omega))
   simp only[Yc0,h1,h2,cond_true,YHE]
   rw[chkT _ (by omega),chkT _ (by decide),chkT _ (by omega),chkT _ (by omega),YGt _ _ _ p1 p2 p3,YCm]
   have e2:YHK .i64 ((n:Int)+1)=((n+1:Nat):Int):=by rw[wr6 (by omega) (by omega)];omega
   by_cases h6:(6:Int)< ((d.getD n (0,0,[])).2.2.length:Int)
   ·simp_all
   ·rw[decide_eq_false h6]
    simp only[cond_false,YHz]
    rw[chkT _ (by simp_all),chkT _ (by rw[YaB];grind),e2,<-Ycb]
    rfl
 rw[e3,YCm]
 rcases YaP (f:=fun m=>bif decide ((6:Int)< ((d.getD m (0,0,[])).2.2.length:Int))then some (.inl (false,[]))else none) (r0:=(.inr (d,[],tab (min d.length 3) (drT d)):(Bool×List Tabl)⊕ (List (Int×Int×List (List Int))×List Tabl×List Tabl))) (min d.length 3) 0 with⟨m,r,g1,g2,g3,g4⟩| ⟨g1,g2⟩
 ·rw[g4]
  cases hc:decide ((6:Int)< ((d.getD m (0,0,[])).2.2.length:Int))with
  |false=>grind
  |true=>
   rw[hc]at g3;injection g3 with g3;subst g3
   exact⟨[],false,rfl,YHo _,(fun t h=>nomatch h),(fun t h=>nomatch h),(fun t h=>nomatch h),(fun t h=>nomatch h),List.nodup_nil⟩
 ·rw[g1]
  refine⟨tab (min d.length 3) (drT d),decide ((d.length:Int)<=3),rfl,?_⟩
  have hN:min d.length 3<=d.length/\min d.length 3<=3:=⟨Nat.min_le_left ..,Nat.min_le_right ..⟩
  generalize min d.length 3=N at*
  have hall: ∀i,i<N-> ∃n:Nat,n<=3/\ (drT d i)=(nm3.getD i nul0,nmL.take n,recR n (1+(d.getD i (0,0,[])).2.1.tmod 3) (d.getD i (0,0,[])).2.2)/\ (d.getD i (0,0,[])).2.2.length<=6/\1<=1+(d.getD i (0,0,[])).2.1.tmod 3:=fun i hi=>by
   obtain⟨p1,p2,p3⟩:=hd _ (Yaj (d:=(0,0,[])) (show i<d.length by omega))
   obtain⟨m,q1,q2,_⟩:=Ypi p1 p2
   refine⟨m,q2,by unfold drT;simp_all,?_,by grind⟩
   grind
  have hn3: ∀i,i<3->YCJ (nm3.getD i nul0)=true:=fun i hi=>YGZ.1 (show nm3.all YCJ=true by rfl) _ (Yaj hi)
  have hmem: ∀t∈tab N (drT d),∃i,i<N/\t=drT d i:=fun t ht=>by
   unfold tab at ht
   grind
  refine⟨by rw[YaB];omega,fun t ht=> ?_,fun t ht=> ?_,fun t ht=> ?_,fun t ht r hr v hv=> ?_,?_⟩
  ·obtain⟨i,hi,rfl⟩:=hmem t ht
   obtain⟨n,h1,h2,h3,h4⟩:=hall i hi
   rw[h2]
   exact YCb _ (hn3 i (by omega)) n _ _ (by omega) (by omega) h4
  ·grind
  ·obtain⟨i,hi,rfl⟩:=hmem t ht
   obtain⟨n,h1,h2,h3,h4⟩:=hall i hi
   rw[h2]
   show(recR n _ _).length<=6
   unfold recR;rw[YaB];exact h3
  ·obtain⟨i,hi,rfl⟩:=hmem t ht
   obtain⟨n,h1,h2,h3,h4⟩:=hall i hi
   rw[h2]at hr
   exact(YhK hr).2 v hv
  ·have e:(tab N (drT d)).map (·.1)=nm3.take N:=by
    unfold tab
    rw[YG8]
    match N,hN.2 with
    |0,_=>rfl
    |1,_=>rfl
    |2,_=>rfl
    |3,_=>rfl
   rw[e]
   exact List.Nodup.sublist (List.take_sublist _ _) (by decide)
theorem YCc{l:List ByteArray}(h:l.Nodup){i j:Nat}(hi:i<l.length)(hj:j<l.length)(e:l[i]=l[j]):i=j:=by
 have h:=List.pairwise_iff_getElem.1 h
 grind
theorem DOk.get{db:List Tabl}(h:DOk db){n:Nat}(hn:n<db.length):tabI db (db.getD n zT).1=(n:Int):=by
 rcases Yda (p:=tabP db (db.getD n zT).1) (k:=db.length) (n:=0)with⟨m,_,h2,h3,h4⟩| ⟨h1,h2⟩
 ·have e:(db.getD m zT).1=(db.getD n zT).1:=of_decide_eq_true h3
  have hm:m<db.length:=by omega
  have:m=n:=YCc h.nd (by simp_all) (by simp_all) (by
   simp_all)
  have h4:tabI db (db.getD n zT).1=(m:Int):=h4
  omega
 ·have:=h2 n (YHo _) (by omega)
  unfold tabP at this
  simp_all
theorem DOk.tab{db:List Tabl}(h:DOk db){n:Nat}(hn:n<db.length):tabO db (db.getD n zT).1=db.getD n zT:=by
 unfold tabO
 rw[h.get hn,decide_eq_true (by omega),cond_true,YHE]
theorem DOk.valid{db:List Tabl}(h:DOk db):dbI db=0:=by
 unfold dbI
 have hl:=h.len
 rw[decide_eq_false (by omega),cond_false,YeU _ _ (fun m _ hm=> ?_)]
 have hm':m<db.length:=by omega
 have g:=h.gt _ (Yaj (d:=zT) hm')
 unfold fD
 rw[YB8 g]
 have hneg:decide (0<=tabI (db.take m) (db.getD m zT).1)=false:=by
  rw[decide_eq_false_iff_not]
  rcases Yda (p:=tabP (db.take m) (db.getD m zT).1) (k:=(db.take m).length) (n:=0)with⟨x,_,h2,h3,h4⟩| ⟨h1,h2⟩
  ·exfalso
   rw[YHl,List.length_take]at h2
   have e:((db.take m).getD x zT).1=(db.getD m zT).1:=of_decide_eq_true h3
   have a1:=h.get (n:=x) (by omega)
   have a2:=h.get hm'
   grind
  ·have h1:tabI (db.take m) (db.getD m zT).1= -1:=h1
   omega
 grind
abbrev nm4:List ByteArray:=[(YHJ #[120]),(YHJ #[121]),(YHJ #[122]),(YHJ #[119])]
def vn(c:Int):ByteArray:=nm4.getD (c.tmod 4).toNat nul0
theorem rVar(c:Int)(h:0<=c):q121 loO c=some (vn c):=by
 have h1:=Int.tmod_nonneg 4 h
 have h2:c.tmod 4<4:=Int.tmod_lt_of_pos _ (by decide)
 unfold q121
 rw[chkT _ (by decide),chkT _ ⟨h1,h2⟩]
 rfl
theorem YCd(c:Int)(h:0<=c):YCJ (vn c)=true/\vn c≠nul0:=by
 have h2:c.tmod 4<4:=Int.tmod_lt_of_pos _ (by decide)
 unfold vn
 have hm:nm4.getD (c.tmod 4).toNat nul0∈nm4:=Yaj (show(c.tmod 4).toNat<4 by omega)
 refine⟨YGZ.1 (show nm4.all YCJ=true by rfl) _ hm,fun e=> ?_⟩
 grind
def cdT(c:Int):Term:=if 4<=c then cT (ofV (YHK .u8 (c-4)))else vT (vn c)
theorem YCe(c:Int)(h:0<=c):YCQ (cdT c)=true:=by
 unfold cdT YCQ
 by_cases h4:4<=c
 ·rw[if_pos h4]
  have:=(Ydc (YHK .u8 (c-4))).2.1
  trivial
 ·rw[if_neg h4]
  obtain⟨n1,n2⟩:=YCd c h
  simp only[vT,n1,n2,decide_false,decide_true,YHA,cond_true,YHC]
theorem rJ(c:Int)(hc:0<=c)(i k:Int)(db:List Tabl)(xh:List Int)(xa:List (Int×List Int))(v0:List ByteArray)(v1:List Atom)(t0:ByteArray)(t1:List ByteArray)(t2:Rws)(a9:ByteArray)(h6:List ByteArray)(h7:List Atom)(h8:List Term)(h:h8.length+1<=maxEl):
  Yc1 loO (i,k,c,db,xh,xa,v0,v1,t0,t1,t2,a9,h6,h7,h8)=some (i,k,db,xh,xa,v0,v1,t0,t1,t2,a9,h6,h7,h8++[cdT c]):=by
 simp only[Yc1]
 rw[rVar c hc,YCm]
 unfold cdT
 by_cases h4:4<=c
 ·rw[decide_eq_true h4,cond_true,(Ydc _).1,YCm,chkT _ (by trivial),if_pos h4];rfl
 ·rw[decide_eq_false h4,cond_false,chkT _ (by trivial),if_neg h4];rfl
def cdAt(codes:List Int)(k:Nat):Int:=if k<codes.length then codes.getD k 0 else 0
theorem Ypj{codes:List Int}(h: ∀c∈codes,0<=c)(k:Nat):0<=cdAt codes k:=by
 unfold cdAt
 split
 ·simp_all
 trivial
def qAt(db:List Tabl)(xa:List (Int×List Int))(i:Nat):Atom:=
 let t:=db.getD ((xa.getD i (0,[])).1.tmod (db.length:Int)).toNat zT
 (t.1,tab t.2.1.length fun k=>cdT (cdAt (xa.getD i (0,[])).2 k))
structure GQ(db:List Tabl)(hd:List ByteArray)(l:List Atom):Prop where
 len:l.length<=3
 ne:1<=l.length
 at': ∀a∈l,∃n,n<db.length/\a.1=(db.getD n zT).1/\a.2.length=(db.getD n zT).2.1.length
 tm: ∀a∈l,∀t∈a.2,YCQ t=true
 hl:hd.length<=4
 hv: ∀v∈hd,v∈YCw [] l
 nd:hd.Nodup
def hdF(vs:List ByteArray)(xh:List Int):Nat->List ByteArray
 |0=>[]
 |n+1=>bif inL vs (vn (xh.getD n 0))&& !inL (hdF vs xh n) (vn (xh.getD n 0))then hdF vs xh n++[vn (xh.getD n 0)]else hdF vs xh n
theorem YhL(vs:List ByteArray)(xh:List Int): ∀n,(hdF vs xh n).length<=n/\ (∀v∈hdF vs xh n,v∈vs)/\ (hdF vs xh n).Nodup
 |0=>⟨YHf _,fun v h=>(by cases h),List.nodup_nil⟩
 |n+1=>by
  obtain⟨h1,h2,h3⟩:=YhL vs xh n
  simp only[hdF]
  cases hc:inL vs (vn (xh.getD n 0))&& !inL (hdF vs xh n) (vn (xh.getD n 0))with
  |false=>grind
  |true=>
   rw[YHy,Bool.not_eq_true',<-YHD,inL_iff,inL_iff]at hc
   grind
theorem YFp{db:List Tabl}(h:DOk db)(xh:List Int)(xa:List (Int×List Int))(hxh: ∀c∈xh,0<=c)(hxa: ∀x∈xa,0<=x.1/\x.1<=255/\ ∀c∈x.2,0<=c):
  ∃hd l ok,q122 loO db xh xa=some (hd,l,ok)/\ (ok=true->GQ db hd l):=by
 have hm:maxEl=1073741824:=rfl
 have hdl:=h.len
 unfold q122
 by_cases h0:(db.length:Int)=0
 ·simp_all
 by_cases h1:(xa.length:Int)<1
 ·simp_all
 by_cases h3:(3:Int)< (xa.length:Int)
 ·simp_all
 rw[decide_eq_false h0,decide_eq_false h1,decide_eq_false h3]
 simp only[cond_false]
 have hix: ∀i,i<xa.length->0<=(xa.getD i (0,[])).1.tmod (db.length:Int)/\ (xa.getD i (0,[])).1.tmod (db.length:Int)< (db.length:Int):=fun i hi=>
  ⟨Int.tmod_nonneg _ (hxa _ (Yaj hi)).1,Int.tmod_lt_of_pos _ (by omega)⟩
 have e12:Yhf loO (0,db,xh,xa,[],[],[],[])=some (xh,xa,[],[],[],tab xa.length (qAt db xa)):=by
  refine Yan (st:=fun i=>((i:Int),db,xh,xa,[],[],[],tab i (qAt db xa))) (N:=xa.length) rfl ?_ (fun i hi=> ?_)
  ·simp only[YeN,nlI,cond_false]
  ·obtain⟨p1,p2,p3⟩:=hxa _ (Yaj (d:=(0,[])) hi)
   obtain⟨q1,q2⟩:=hix i hi
   have w1:YHK .i64 (xa.getD i (0,[])).1=(xa.getD i (0,[])).1:=wr6 (by omega) (by omega)
   simp only[YeN,ltI hi,cond_true,YHE,w1]
   rw[chkT _ (by omega),chkT _ h0,chkT _ ⟨q1,q2⟩]
   have hna:(db.getD ((xa.getD i (0,[])).1.tmod (db.length:Int)).toNat zT).2.1.length<=5:=h.na _ (Yaj (by omega))
   have hq:qAt db xa i=((db.getD ((xa.getD i (0,[])).1.tmod (db.length:Int)).toNat zT).1,tab (db.getD ((xa.getD i (0,[])).1.tmod (db.length:Int)).toNat zT).2.1.length fun k=>cdT (cdAt (xa.getD i (0,[])).2 k)):=rfl
   rw[<-Ycb,hq]
   generalize db.getD ((xa.getD i (0,[])).1.tmod (db.length:Int)).toNat zT=t at*
   have e15:Yhe loO ((i:Int),0,db,xh,xa,[],[],t.1,t.2.1,t.2.2,t.1,[],tab i (qAt db xa),[])=some ((i:Int),db,xh,xa,[],[],t.1,[],tab i (qAt db xa),tab t.2.1.length fun k=>cdT (cdAt (xa.getD i (0,[])).2 k)):=by
    refine Yan (st:=fun k=>((i:Int),(k:Int),db,xh,xa,[],[],t.1,t.2.1,t.2.2,t.1,[],tab i (qAt db xa),tab k fun k=>cdT (cdAt (xa.getD i (0,[])).2 k))) (N:=t.2.1.length) rfl ?_ (fun k hk=> ?_)
    ·simp only[YeM,nlI,cond_false]
    ·have hc:=Ypj p3 k
     simp only[YeM,ltI hk,cond_true,YHE]
     rw[chkT _ (by omega),<-Ycb]
     by_cases hkc:k< (xa.getD i (0,[])).2.length
     ·have ec:cdAt (xa.getD i (0,[])).2 k=(xa.getD i (0,[])).2.getD k 0:=by unfold cdAt;omega
      rw[decide_eq_true (by omega:(k:Int)< ((xa.getD i (0,[])).2.length:Int)),cond_true,chkT _ (by omega),chkT _ (by omega),rJ _ (ec▸hc) _ _ _ _ _ _ _ _ _ _ _ _ _ _ (by rw[YaB];omega),YCm,ec]
      simp only[inc hk (show t.2.1.length<=maxEl by omega)]
     ·have ec:cdAt (xa.getD i (0,[])).2 k=0:=by unfold cdAt;omega
      rw[decide_eq_false (by omega: ¬ (k:Int)< ((xa.getD i (0,[])).2.length:Int)),cond_false,rJ _ (Int.le_refl _) _ _ _ _ _ _ _ _ _ _ _ _ _ _ (by rw[YaB];omega),YCm,ec]
      simp only[inc hk (show t.2.1.length<=maxEl by omega)]
   rw[e15,YCm]
   dsimp only
   rw[chkT _ (by rw[YaB];grind)]
   simp only[inc hi (show xa.length<=maxEl by omega)]
 rw[e12,YCm]
 dsimp only
 have hsum: ∀n,n<=3->sumT (tab n (qAt db xa))<=5*n\/ ¬n<=xa.length:=by
  intro n
  induction n with
  |zero=>intro _;exact .inl (YHf _)
  |succ n ih=>
   intro h3
   by_cases hx:n+1<=xa.length
   ·rcases ih (by omega)with hs|hs
    ·refine .inl ?_
     rw[<-Ycb]
     have hq:=hix n (by omega)
     have:(qAt db xa n).2.length<=5:=by
      unfold qAt
      simp only[YaB]
      exact h.na _ (Yaj (by omega))
     unfold sumT at hs⊢
     grind
    ·omega
   omega
 have hs:sumT (tab xa.length (qAt db xa))<=15:=by
  grind
 rw[YGp _ (by rw[YaB];omega) (by omega),YCm]
 have hvl:=Ycd (tab xa.length (qAt db xa)) []
 simp only[List.length_nil,YHl]at hvl
 generalize hL:tab xa.length (qAt db xa)=l at*
 have e3:Yhg loO (YCw [] l,0,xh,xa,[],[],l,[])=some ([],[],l,hdF (YCw [] l) xh (min xh.length 4)):=by
  refine Yan (st:=fun n=>(YCw [] l,(n:Int),xh,xa,[],[],l,hdF (YCw [] l) xh n)) (N:=min xh.length 4) rfl ?_ (fun n hn=> ?_)
  ·by_cases h4:xh.length<=4
   ·rw[Nat.min_eq_left h4]
    simp only[Yc2,nlI,cond_false]
   ·rw[Nat.min_eq_right (by omega)]
    have e:decide (((4:Nat):Int)< (xh.length:Int))=true:=by grind
    have e':decide (((4:Nat):Int)<4)=false:=rfl
    simp only[Yc2,e,e',cond_true,cond_false]
  ·have a1:decide ((n:Int)< (xh.length:Int))=true:=by grind
   have a2:decide ((n:Int)<4)=true:=by grind
   have e2:YHK .i64 ((n:Int)+1)=((n+1:Nat):Int):=by rw[wr6 (by omega) (by omega)];omega
   have hc:=hxh _ (Yaj (d:=0) (show n<xh.length by omega))
   have hf:=(YhL (YCw [] l) xh n).1
   simp only[Yc2,a1,a2,cond_true,e2,YHE]
   rw[chkT _ (by omega),rVar _ hc,YCm,Ycc _ _ (by omega),YCm,Ycc _ _ (by omega),YCm,Ydb,YeY,chkT _ (by grind)]
   simp only[hdF]
   grind
 rw[e3,YCm]
 obtain⟨f1,f2,f3⟩:=YhL (YCw [] l) xh (min xh.length 4)
 have hll:l.length=xa.length:=by rw[<-hL,YaB]
 refine⟨hdF (YCw [] l) xh (min xh.length 4),l,true,rfl,fun _=>⟨by omega,by omega,fun a ha=> ?_,fun a ha t ht=> ?_,by omega,f2,f3⟩⟩
 ·rw[<-hL]at ha
  unfold tab at ha
  obtain⟨i,hi,rfl⟩:=YGS.1 ha
  have hi':i<xa.length:=by simp_all
  obtain⟨q1,q2⟩:=hix i hi'
  exact⟨_,by omega,rfl,by unfold qAt;simp only[YaB]⟩
 ·rw[<-hL]at ha
  unfold tab at ha
  obtain⟨i,hi,rfl⟩:=YGS.1 ha
  have hi':i<xa.length:=by simp_all
  unfold qAt at ht
  simp only[tab]at ht
  obtain⟨k,hk,rfl⟩:=YGS.1 ht
  exact YCe _ (Ypj (hxa _ (Yaj hi')).2.2 k)
end
end Go.Abs.G47
namespace Go.Abs.G47
open Go Go.Abs
noncomputable section
theorem GQ.rok{db:List Tabl}{hd:List ByteArray}{l:List Atom}(h:DOk db)(g:GQ db hd l):ROk db l:=by
 refine⟨fun a ha=> ?_,fun a ha t ht=> ?_⟩
 ·obtain⟨n,hn,e,_⟩:=g.at' a ha
  rw[e,h.get hn];omega
 ·have hM:maxEl=1073741824:=rfl
  have:=Ypc (g.tm a ha t ht)
  omega
theorem GQ.tabs{db:List Tabl}{hd:List ByteArray}{l:List Atom}(h:DOk db)(g:GQ db hd l){a:Atom}(ha:a∈l):tabO db a.1∈db/\ (tabO db a.1).2.1.length=a.2.length:=by
 obtain⟨n,hn,e,e2⟩:=g.at' a ha
 rw[e,h.tab hn]
 simp_all
theorem GQ.sum{db:List Tabl}{hd:List ByteArray}{l:List Atom}(h:DOk db)(g:GQ db hd l):sumT l<=15:=by
 have:sumT l<=l.length*5:=YBx fun n hn=>by
  have:=g.tabs h (Yaj (d:=zA) hn)
  have:=h.na _ this.1
  omega
 have:=g.len
 omega
theorem GQ.qok{db:List Tabl}{hd:List ByteArray}{l:List Atom}(h:DOk db)(g:GQ db hd l):QOk db hd l:=by
 have hM:maxEl=1073741824:=rfl
 have hs:=g.sum h
 have hl:=g.len
 have hh:=g.hl
 have hd':=h.len
 have key: ∀n,n<l.length->((tbs db l).getD n zT)∈db/\ ((tbs db l).getD n zT).2.1.length=(l.getD n zA).2.length:=fun n hn=>by
  rw[Ypf db hn];exact g.tabs h (Yaj hn)
 refine⟨⟨by unfold tbs;simp,by omega,fun n hn=> ?_,fun n hn=> ?_,fun n hn row hr=> ?_⟩,by omega,by omega,by omega,fun n hn=>h.rs _ (key n hn).1,fun n hn row hr v hv=>h.gv _ (key n hn).1 row hr v hv⟩
 ·have:=Ybq hn;omega
 ·have:=h.rs _ (key n hn).1;omega
 ·rw[(h.gt _ (key n hn).1).len row hr,(key n hn).2]
theorem GQ.qI{db:List Tabl}{hd:List ByteArray}{l:List Atom}(h:DOk db)(g:GQ db hd l):qI db hd l=0:=by
 unfold G47.qI
 have hl:=g.len
 have hn:=g.ne
 rw[h.valid,decide_eq_true rfl,decide_eq_false (by omega),decide_eq_false (by omega)]
 rw[YeU _ _ (fun m _ hm=> ?_)]
 ·have:YDQ hd l=true:=by
   unfold YDQ
   rw[Bool.not_eq_true',<-YHD,anyN_iff]
   rintro⟨m,_,h2,h3⟩
   have hm:m<hd.length:=by omega
   unfold fHd at h3
   rw[inL_iff.2 (g.hv _ (Yaj hm)),Bool.true_and,Bool.not_not,inL_iff]at h3
   exact Yph g.nd hm h3
  simp_all
 ·have hm':m<l.length:=by omega
  have hmem:=Yaj (d:=zA) hm'
  obtain⟨t1,t2⟩:=g.tabs h hmem
  unfold fQ
  rw[decide_eq_true ((g.rok h).ix _ hmem),decide_eq_true (by rw[t2])]
  have:badT (l.getD m zA).2=false:=by
   unfold badT
   rw[YbO (fun t=> !YCQ t) _ zM,List.any_eq_false]
   intro t ht
   rw[g.tm _ hmem t ht];simp
  simp_all
theorem GQ.few{db:List Tabl}{hd:List ByteArray}{l:List Atom}(h:DOk db)(g:GQ db hd l):(YDR db l).length<=216:=
 YHj (g.qok h).len (Nat.pow_le_pow_right (by omega) g.len)
theorem GQ.lists{db:List Tabl}{hd:List ByteArray}{l:List Atom}(h:DOk db)(g:GQ db hd l):(rowsR (anss db hd l)).length<=maxEl/\ ∀x∈rowsR (anss db hd l),SzV x:=by
 have hM:maxEl=1073741824:=rfl
 have:=g.few h
 have h2:=YoZ (anss db hd l)
 have hh:=g.hl
 have h3:(anss db hd l).length=(YDR db l).length:=by unfold anss;simp
 refine⟨by omega,fun x hx=> ?_⟩
 have:=(g.qok h).all x (rowsR_mem.1 hx)
 exact YB6 this.1 (by omega)
theorem rng8{n:Int}(h:(Ty.i .u8).rng n):0<=n/\n<=255:=by
 have h':(Lit.int .u8 n).wf=true:=h
 simp only[Lit.wf,YHy,decide_eq_true_eq]at h'
 trivial
theorem YCf{d:List (Int×Int×List (List Int))}(h:(Ty.l (cs [.i .u8,.i .u8,.l (cs [.l (cs [.i .u8])])])).rng d): ∀x∈d,0<=x.1/\x.1<=255/\0<=x.2.1:=fun x hx=>by
 have h1:(cs [.i .u8,.i .u8,.l (cs [.l (cs [.i .u8])])]).rng x:=h x hx
 exact⟨(rng8 h1.1).1,(rng8 h1.1).2,(rng8 h1.2.1).1⟩
theorem YhM{l:List Int}(h:(Ty.l (cs [.i .u8])).rng l): ∀c∈l,0<=c:=fun c hc=>by
 have h1:(cs [.i .u8]).rng c:=h c hc
 exact(rng8 h1.1).1
theorem Ypk{l:List (Int×List Int)}(h:(Ty.l (cs [.i .u8,.l (cs [.i .u8])])).rng l): ∀x∈l,0<=x.1/\x.1<=255/\ ∀c∈x.2,0<=c:=fun x hx=>by
 have h1:(cs [.i .u8,.l (cs [.i .u8])]).rng x:=h x hx
 exact⟨(rng8 h1.1).1,(rng8 h1.1).2,YhM h1.2.1⟩
end
end Go.Abs.G47
namespace Go.Abs.G47
open Go Go.Abs
noncomputable section
theorem YhN: ∀{L:List (List Term×Rws)} {σ:Asg Val} {r:List Int} {w:Way},w∈wyM L σ r->leA σ w.2/\ ∀q∈L,∃row∈q.2,Img w.2 (pV q.1) row.2
 | [],σ,r,w,hw=>by rw[wyM,YG0]at hw;subst hw;exact⟨leA.refl _,fun q h=>nomatch h⟩
 |q::L,σ,r,w,hw=>by
  rw[wyM,List.mem_flatMap]at hw
  obtain⟨row,hr,hw⟩:=hw
  cases hx:tsM σ (pV q.1) row.2 with
  |none=>rw[hx]at hw;cases hw
  |some σ'=>
   rw[hx]at hw
   obtain⟨a1,a2⟩:=Yhx hx
   obtain⟨b1,b2⟩:=YhN hw
   refine⟨a1.trans b1,fun p hp=> ?_⟩
   rcases YGO.1 hp with rfl|hp
   ·exact⟨row,hr,a2.mono b1⟩
   ·exact b2 p hp
theorem Ypl: ∀{L:List (List Term×Rws)} {σ τ:Asg Val} {r:List Int},leA σ τ->(∀q∈L,∃row∈q.2,Img τ (pV q.1) row.2)-> ∃w∈wyM L σ r,leA w.2 τ
 | [],σ,τ,r,h,_=>⟨(r,σ),by rw[wyM];exact YG0.2 rfl,h⟩
 |q::L,σ,τ,r,h,hq=>by
  obtain⟨row,hr,hi⟩:=hq q (YGQ ..)
  obtain⟨σ',e1,l1⟩:=Yoz h hi
  obtain⟨w,hw,l2⟩:=Ypl (L:=L) (r:=r++[row.1]) l1 (fun p hp=>hq p (YGU _ hp))
  refine⟨w,?_,l2⟩
  rw[wyM,List.mem_flatMap]
  exact⟨row,hr,by rw[e1];exact hw⟩
theorem Yfb(db:List Tabl): ∀l:List Atom,PR l (tbs db l)=l.map fun a=>(a.2,(tabO db a.1).2.2)
 | []=>rfl
 |a::l=>by
  have:=Yfb db l
  unfold PR tbs at this⊢
  rw[YGK,List.zipWith_cons_cons,this];rfl
def evT(τ:Asg Val)(t:Term):Option Val:=if t.1=nul0 then some t.2 else τ t.1
def cmp(σ:Asg Term)(τ:Asg Val):Asg Val:=fun v=>(σ v).bind (evT τ)
theorem Ypm{σ:Asg Term}{τ:Asg Val}: ∀{ts us:List Term} {row:Vals},Img σ (pT ts) us->ts.length=us.length->Img τ (pV us) row->Img (cmp σ τ) (pV ts) row
 | [],_,_,_,_,_=>trivial
 |_::_,[],_,h,_,_=>h.elim
 |_::_,_::_,[],_,_,h=>h.elim
 |t::ts,u::us,v::row,h,hl,h'=>by
  refine⟨?_,Ypm h.2 (by simpa using hl) h'.2⟩
  have h1:=h.1
  have h2:=h'.1
  by_cases h0:t.1=nul0
  ·simp only[h0,if_true]at h1⊢
   rw[<-h1]at h2
   simp only[h0,if_true]at h2
   exact h2
  ·simp only[h0,if_false]at h1⊢
   unfold cmp
   rw[h1]
   unfold evT
   simp only[YHt]
   by_cases h3:u.1=nul0
   ·simp only[h3,if_true]at h2⊢;rw[h2]
   ·simp only[h3,if_false]at h2⊢;exact h2
theorem Ypn{τ:Asg Val}: ∀{ts:List Term} {us:Vals},Img τ (pV ts) us-> ∀t∈ts,t.1≠nul0-> ∃u,τ t.1=some u
 | [],_,_,t,ht,_=>nomatch ht
 |_::_,[],h,_,_,_=>h.elim
 |q::ts,u::us,h,t,ht,h0=>by
  rcases YGO.1 ht with rfl|ht
  ·have:=h.1;simp only[h0,if_false]at this;exact⟨u,this⟩
  ·exact Ypn h.2 t ht h0
theorem YCg{db:List Tabl}{l:List Atom}{w:Way}(hw:w∈YDR db l){v:ByteArray}(hv:v∈YCw [] l): ∃u,w.2 v=some u:=by
 rcases(YeZ l [] v).1 hv with h| ⟨h0,a,ha,t,ht,rfl⟩
 ·cases h
 ·obtain⟨_,h2⟩:=YhN hw
  rw[Yfb]at h2
  obtain⟨row,_,hi⟩:=h2 _ (List.mem_map_of_mem ha)
  exact Ypn hi t ht h0
theorem YCh{α:Type}{a b:List α}(hl:a.length=b.length)(d:α)(h: ∀n,n<a.length->a.getD n d=b.getD n d):a=b:=Yop (d:=d) hl h
theorem YCi{db:List Tabl}{ph qh:List ByteArray}{pa qa:List Atom}(hq: ∀v∈qh,v∈YCw [] qa){σ:Asg Term}(hs:hmM qh qa ph pa=some σ){x:Vals}(hx:x∈anss db ph pa):x∈anss db qh qa:=by
 unfold hmM at hs
 cases hw:wfB qh qa with
 |false=>rw[hw]at hs;cases hs
 |true=>
  cases hw':wfB ph pa with
  |false=>rw[hw,hw']at hs;cases hs
  |true=>
   rw[hw,hw']at hs
   by_cases hl:(qh.length:Int)=(ph.length:Int)
   ·simp only[hl,decide_true,YHz,cond_false]at hs
    obtain⟨g1,g2⟩:=Ypb hs
    obtain⟨w,hw1,rfl⟩:=YGS.1 hx
    have W:=wf_iff.1 hw
    obtain⟨_,k2⟩:=YhN hw1
    rw[Yfb]at k2
    obtain⟨w',m1,m2⟩:=Ypl (L:=PR qa (tbs db qa)) (σ:=fun _=>none) (τ:=cmp σ w.2) (r:=[]) (fun k v e=>by cases e) (fun q hq=>by
     rw[Yfb]at hq
     obtain⟨a,ha,rfl⟩:=YGS.1 hq
     obtain⟨b,hb,n1,n2,n3⟩:=g2 a ha
     obtain⟨row,r1,r2⟩:=k2 _ (List.mem_map_of_mem hb)
     simp only at r1 r2⊢
     exact⟨row,by rw[n1];exact r1,Ypm n3 n2 r2⟩)
    refine YGS.2 ⟨w',m1,?_⟩
    unfold ansM
    refine YCh (by simp;omega) zV (fun n hn=> ?_)
    rw[YGX]at hn
    have hn':n<ph.length:=by omega
    have e1:(qh.map fun v=>(w'.2 v).getD zV).getD n zV=(w'.2 (qh.getD n nul0)).getD zV:=by
     rw[YG4,YG4,YGL,YGI hn];rfl
    have e2:(ph.map fun v=>(w.2 v).getD zV).getD n zV=(w.2 (ph.getD n nul0)).getD zV:=by
     rw[YG4,YG4,YGL,YGI hn'];rfl
    rw[e1,e2]
    obtain⟨u,hu⟩:=YCg m1 (hq _ (Yaj hn))
    have h1:=m2 _ _ hu
    have h2:σ (qh.getD n nul0)=some (vT (ph.getD n nul0)):=g1 _ _ (Ype (fun n hn=>(W.hd n hn).2) qh.length (YHf _) hn)
    unfold cmp at h1
    rw[h2]at h1
    unfold evT vT at h1
    simp only[YHt]at h1
    rw[hu]
    by_cases h0:ph.getD n nul0=nul0
    ·exfalso
     have:=((wf_iff.1 hw').hd n hn').1
     rw[h0]at this
     rcases(YeZ pa [] nul0).1 this with h| ⟨h,_⟩
     ·cases h
     ·exact h rfl
    ·simp only[h0,if_false]at h1
     rw[h1]
   ·simp only[hl,decide_false,YHz,YHA,cond_true,cond_false]at hs;cases hs
theorem YFV(A B:List Vals)(hA:A.length<=maxEl)(hB:B.length<=maxEl)(sA: ∀x∈A,SzV x)(sB: ∀x∈B,SzV x)(h: ∀x∈A,x∈B):q145 loO A B=some true:=by
 unfold q145
 have:Yhm loO (A,B,0)=some (.inr ()):=by
  refine Yan (st:=fun n=>(A,B,(n:Int))) (N:=A.length) rfl ?_ (fun n hn=> ?_)
  ·simp only[YeS,nlI,cond_false]
  ·simp only[YeS,ltI hn,cond_true,inc hn hA,YHE]
   have hm:=Yaj (d:=([]:Vals)) hn
   rw[chkT _ (by omega),rIn _ _ hB sB (sA _ hm),YCm,hasV_iff.2 (h _ hm)]
   rfl
 rw[this,YCm,YBg]
theorem YCj(d:List (Int×Int×List (List Int)))(xh:List Int)(xa:List (Int×List Int))(yh:List Int)(ya:List (Int×List Int))(hd: ∀x∈d,0<=x.1/\x.1<=255/\0<=x.2.1)(hxh: ∀c∈xh,0<=c)(hxa: ∀x∈xa,0<=x.1/\x.1<=255/\ ∀c∈x.2,0<=c)
  (hyh: ∀c∈yh,0<=c) (hya: ∀x∈ya,0<=x.1/\x.1<=255/\ ∀c∈x.2,0<=c):q146 loO d xh xa yh ya=some true:=by
 have hM:maxEl=1073741824:=rfl
 unfold q146
 obtain⟨db,ok,e1,D⟩:=YGu d hd
 obtain⟨ph,pa,ok2,e2,h2⟩:=YFp D xh xa hxh hxa
 obtain⟨qh,qa,ok3,e3,h3⟩:=YFp D yh ya hyh hya
 rw[e1,YCm,e2,YCm,e3,YCm,aw,YCm,YCm]
 cases ok with
 |false=>rfl
 |true=>
  cases ok2 with
  |false=>rfl
  |true=>
   cases ok3 with
   |false=>rfl
   |true=>
    have g:=h2 rfl
    have k:=h3 rfl
    obtain⟨s1,s2⟩:=g.lists D
    obtain⟨u1,u2⟩:=k.lists D
    have f1:=g.few D
    have f2:=k.few D
    have z1:=g.sum D
    have z2:=k.sum D
    have l1:=g.hl
    have l2:=k.hl
    simp only[YHz,cond_false]
    unfold q86
    rw[tHom qh qa ph pa (by omega) (by omega) (by omega) (by omega),YCm,YCm,rEx qh qa ph pa (by omega) (by omega) (by omega) (by omega),YCm]
    rw[YEi (g.qok D) (g.qI D) (by omega),YEi (k.qok D) (k.qI D) (by omega)]
    cases hx:hmM qh qa ph pa with
    |none=>rfl
    |some σ=>
     have hw:=YFV _ _ s1 u1 s2 u2 (fun x hx'=>rowsR_mem.2 (YCi k.hv hx (rowsR_mem.1 hx')))
     simp only[Option.isSome_some,YCm,decide_true,YHz,YHA,cond_true,cond_false,beq_self_eq_true]
     rw[hw]
     rfl
theorem cont_fin(x:List (Int×Int×List (List Int))×List Int×List (Int×List Int)×List Int×List (Int×List Int))(hr:(cs [.l (cs [.i .u8,.i .u8,.l (cs [.l (cs [.i .u8])])]),.l (cs [.i .u8]),.l (cs [.i .u8,.l (cs [.i .u8])]),.l (cs [.i .u8]),.l (cs [.i .u8,.l (cs [.i .u8])])]).rng x):q146 loO x.1 x.2.1 x.2.2.1 x.2.2.2.1 x.2.2.2.2=some true:=
 YCj _ _ _ _ _ (YCf hr.1) (YhM hr.2.1) (Ypk hr.2.2.1) (YhM hr.2.2.2.1) (Ypk hr.2.2.2.2.1)
end
end Go.Abs.G47
