/- Helpers of the plain laws: loops as states by number, tables, short words. No condition. -/
import Derived.Test.YtlmcnindhfbkhaaGreatDoorB
import Derived.Test.YtlmcnindhfbkhaaGreatDoorG1
set_option linter.unusedVariables false
set_option linter.unusedSimpArgs false
set_option linter.unusedSectionVars false
open List renaming getElem?_map → YDS, getElem?_eq_getElem → YDT, map_cons → YDU, getElem?_append_left → YDV, map_nil → YDW, mem_cons → YDY, mem_cons_self → YD0, length_eq_zero_iff → YD2, mem_cons_of_mem → YD5, length_map → YD6, mem_singleton → YD7, take_length → YD8, length_cons → YD9, mem_map → YEa, getElem?_eq_none → YEc, getD_eq_getElem?_getD → YEd, drop_zero → YEg, length_nil → YEi, mem_append → YEk, mem_iff_getElem → YEq
open Nat renaming le_refl → YEt, ble → YEw, zero_add → YEx, add_mul → YEz, le_trans → YEA, zero_le → YEB, mul_le_mul_right → YEC
open Option renaming bind → YEG, bind_some → YEJ, getD_some → YEK, bind_none → YEM
open Bool renaming and_eq_true → YEO, not_true → YEP, or_eq_true → YEQ, eq_iff_iff → YER, not_false → YES
open Int renaming toNat_natCast → YEU
open ByteArray renaming mk → YE0
open Go.IntKind renaming wrap → YE1
namespace Go.Abs
theorem wr6{n:Int}(h0: -9223372036854775808<=n)(h1:n<9223372036854775808):YE1 .i64 n=n:=by
 have e:(2:Int)^IntKind.bits .i64=18446744073709551616:=rfl
 have e':(2:Int)^(IntKind.bits .i64-1)=9223372036854775808:=rfl
 have s:IntKind.signed .i64=true:=rfl
 simp only[YE1,e,e',s,Bool.true_and,ge_iff_le,decide_eq_true_eq]
 split<;>omega
theorem chkT{β:Type}{p:Prop}[Decidable p](x:Option β)(h:p):chk p x=x:=by simp[chk,h]
theorem YzO{α β:Type}(a:α)(f:α->Option β):YEG (some a) f=f a:=rfl
theorem Ynk{S R:Type}{step:S->Option (S⊕R)}(st:Nat->S)(N:Nat)(r:R)(he:step (st N)=some (.inr r))(hs: ∀n,n<N->step (st n)=some (.inl (st (n+1)))): ∀k n,n+k=N->Yz7 step (st n)=some r
 |0,n,h=>by rw[Yax];simp only[Nat.add_zero]at h;subst h;rw[he]
 |k+1,n,h=>by rw[Yax,hs n (by omega)];exact Ynk st N r he hs k (n+1) (by omega)
theorem YaP{S R:Type}{step:S->Option (S⊕R)}{st:Nat->S}{N:Nat}{r:R}{s:S}(hst:s=st 0)(he:step (st N)=some (.inr r))(hs: ∀n,n<N->step (st n)=some (.inl (st (n+1)))):Yz7 step s=some r:=by
 subst hst;exact Ynk st N r he hs N 0 (by omega)
def bl(s:ByteArray):List UInt8:=s.data.toList
theorem Yy7(a b:ByteArray)(i j:Nat):(YzN a i=YzN b j)↔a.data.getD i 0=b.data.getD j 0:=by
 simp only[YzN,YEU]
 constructor
 ·intro h
  have:(a.data.getD i 0).toNat=(b.data.getD j 0).toNat:=by omega
  exact UInt8.toNat_inj.1 this
 ·intro h;rw[h]
end Go.Abs
namespace Go.Abs.G47
open Go Go.Abs
set_option maxRecDepth 100000
abbrev Vals:=List (Int×Int×ByteArray)
abbrev Rws:=List (Int×Vals)
abbrev Tabl:=ByteArray×List ByteArray×Rws
abbrev Term:=ByteArray×Int×Int×ByteArray
abbrev Atom:=ByteArray×List Term
theorem Yzd{clk:Int}{ents:List (Int×ByteArray×Vals)}{m2:Bool}
  {y} (hd:(ents.map (·.1)).Nodup) (hl:ents.length<=maxEl)
  (hy:YbY loO (ents.map (·.2.1),clk,clk,[],false,clk,ents,m2)=some y):
  YdW loO ([],clk,ents,m2)=some y:=by
 show rngF YdV (YcJ loO) (YbY loO) ([],clk,clk,[],false,clk,ents,m2)=some y
 refine Yra (Yy8 (p:=YdV) (t:=YcJ loO) (r:=YbY loO) (fun sn=>(sn.map (kAt (YE0 #[]) ents),clk,clk,sn,false,clk,ents,m2)) (B:=ents.map (·.1)) (c:=clk) hd (fun sn=>rfl) (fun sn b hb hn hsd hsB=> ?_) (fun sn hp=> ?_))
 ·obtain⟨e,he⟩:=Yzb hb
  have hlen:sn.length<ents.length:=by
   have h1:(sn++[b]).Nodup:=by
    rw[List.nodup_append]
    exact⟨hsd,by simp,fun x hx y hy=>by rw[YD7]at hy;subst hy;intro e;subst e;exact hn hx⟩
   have:=List.Nodup.length_le_of_subset h1 (l₂:=ents.map (·.1)) (fun a ha=>by
    rcases YEk.1 ha with ha|ha
    ·exact hsB a ha
    ·rw[YD7]at ha;subst ha;exact hb)
   simp at this;omega
  simp only[YcJ,addI,List.getLast?_append,List.getLast?_singleton,Option.some_or,YEJ,he,chk,decide_true,cond_true,YD6,List.length_singleton]
  have:decide (sn.length+1<=maxEl)=true:=by simp;omega
  simp only[this,cond_true,List.map_append,YDU,YDW,kAt,he]
 ·have hperm:(sn.map (kAt (YE0 #[]) ents)).Perm (ents.map (·.2.1)):=by
   rw[<-Yzc (d:=YE0 #[]) hd];exact hp.map _
  rw[<-hy]
  show YEG (q65 loO (sn.map (kAt (YE0 #[]) ents))) _=YEG (q65 loO (ents.map (·.2.1))) _
  have e1:q65 loO (sn.map (kAt (YE0 #[]) ents))=q65 loO (ents.map (·.2.1)):=Yza hperm
  rw[e1]
  have e2:=hperm.length_eq
  congr 1
  funext y152
  rw[e2]
def nodB:List Int->Bool
 | []=>true
 |a::r=> !(r.any fun b=>decide (b=a))&&nodB r
theorem Ynl: ∀{l:List Int},nodB l=true->l.Nodup
 | [],_=>List.nodup_nil
 |a::r,h=>by
  simp only[nodB,YEO,Bool.not_eq_true',List.any_eq_false,decide_eq_true_eq]at h
  exact List.nodup_cons.2 ⟨fun hm=>h.1 a hm rfl,Ynl h.2⟩
def j18C(lo:Lo):(List ByteArray×Int×List (Int×ByteArray×Vals)×Bool)->Option (List Vals×Int):=fun x=>match x with
 | (keys,clk,ents,m2)=>bif keys.isEmpty&& (nodB (ents.map (·.1))&&YEw ents.length maxEl)then YbY lo (ents.map (·.2.1),clk,clk,[],false,clk,ents,m2)else none
theorem Yze{x y}(h:j18C loO x=some y):YdW loO x=some y:=by
 obtain⟨keys,clk,ents,m2⟩:=x
 unfold j18C at h
 obtain⟨e,hk⟩:=Yab h
 simp only[YEO,List.isEmpty_iff]at e
 obtain⟨rfl,e1,e2⟩:=e
 exact Yzd (Ynl e1) (by simpa using e2) hk
def YCs(lo:Lo)(db:List Tabl)(q0:List ByteArray)(q1:List Atom):Option (List Vals×Int):=
 YEG (q40 lo db q0 q1) fun y105=>bif(!decide (y105=(0:Int)))then(some ([],y105))else(YEG (q41 lo db q0 q1) fun y108=>YEG (q50 lo (0:Int) y108.1 y108.2.1 y108.2.2.1 y108.2.2.2.1 y108.2.2.2.2.1 y108.2.2.2.2.2.1 y108.2.2.2.2.2.2.1 y108.2.2.2.2.2.2.2 (0:Int) [] false) fun y163=>chk (y163.2.2.2.1.length=y108.2.2.1.length) (bif(!y163.1)then(some ([],(3:Int)))else(YEG (j18C lo ([],y163.2.2.2.2.2.2.2.2.1,y163.2.2.2.2.2.2.2.2.2.1,y163.2.2.2.2.2.2.2.2.2.2.1)) fun y228=>some (y228.1,y228.2))))
theorem Ygc{α β:Type}{a:Option α}{f g:α->Option β}{y:β}(h: ∀z,f z=some y->g z=some y):YEG a f=some y->YEG a g=some y:=by
 cases a with
 |none=>intro h;cases h
 |some z=>exact h z
theorem Ynm{β:Type}{b:Bool}{x x' z:Option β}{y:β}(h:x=some y->x'=some y):(bif b then z else x)=some y->(bif b then z else x')=some y:=by
 cases b with
 |true=>exact id
 |false=>exact h
theorem Yzf{β:Type}{p:Prop}[Decidable p]{x x':Option β}{y:β}(h:x=some y->x'=some y):chk p x=some y->chk p x'=some y:=by
 unfold chk
 cases decide p with
 |true=>exact h
 |false=>exact id
theorem Yzg{db q0 q1 y}:YCs loO db q0 q1=some y->q66 loO db q0 q1=some y:=by
 unfold YCs q66
 refine Ygc fun _=>Ynm (Ygc fun _=>Ygc fun z=>Yzf (Ynm ?_))
 intro h
 cases hj:j18C loO ([],z.2.2.2.2.2.2.2.2.1,z.2.2.2.2.2.2.2.2.2.1,z.2.2.2.2.2.2.2.2.2.2.1)with
 |none=>rw[hj]at h;cases h
 |some q=>rw[hj]at h;rw[Yze hj];exact h
noncomputable def R2:Int×Vals:=(q1 (loM 400) 1 [1,2]).getD (0,[])
noncomputable def R3:Int×Vals:=(q1 (loM 400) 2 [1,3]).getD (0,[])
noncomputable def R4:Int×Vals:=(q1 (loM 400) 3 [2,3]).getD (0,[])
noncomputable def R5:Int×Vals:=(q1 (loM 400) 1 [3]).getD (0,[])
noncomputable def T6:Term:=(q2 (loM 400) (YE0 #[120])).getD (YE0 #[],0,0,YE0 #[])
noncomputable def T7:Term:=(q2 (loM 400) (YE0 #[121])).getD (YE0 #[],0,0,YE0 #[])
noncomputable def EA:List Vals×Int:=(YCs (loM 400) [((YE0 #[114]),[(YE0 #[97]),(YE0 #[98])],[R2,R3,R4]),((YE0 #[115]),[(YE0 #[99])],[R5])] ([(YE0 #[120])]) ([((YE0 #[114]),[T6,T7]),((YE0 #[115]),[T7])])).getD ([],0)
theorem aw:q99 loO=some true:=by
 have e2:q1 loO 1 [1,2]=some R2:=(congrArg (fun l=>q1 l 1 [1,2]) (Ybj 400)).symm.trans (by kernel_rfl)
 have e3:q1 loO 2 [1,3]=some R3:=(congrArg (fun l=>q1 l 2 [1,3]) (Ybj 400)).symm.trans (by kernel_rfl)
 have e4:q1 loO 3 [2,3]=some R4:=(congrArg (fun l=>q1 l 3 [2,3]) (Ybj 400)).symm.trans (by kernel_rfl)
 have e5:q1 loO 1 [3]=some R5:=(congrArg (fun l=>q1 l 1 [3]) (Ybj 400)).symm.trans (by kernel_rfl)
 have e6:q2 loO (YE0 #[120])=some T6:=(congrArg (fun l=>q2 l (YE0 #[120])) (Ybj 400)).symm.trans (by kernel_rfl)
 have e7:q2 loO (YE0 #[121])=some T7:=(congrArg (fun l=>q2 l (YE0 #[121])) (Ybj 400)).symm.trans (by kernel_rfl)
 have eA:q66 loO [((YE0 #[114]),[(YE0 #[97]),(YE0 #[98])],[R2,R3,R4]),((YE0 #[115]),[(YE0 #[99])],[R5])] ([(YE0 #[120])]) ([((YE0 #[114]),[T6,T7]),((YE0 #[115]),[T7])])=some EA:=
  Yzg ((congrArg (fun l=>YCs l [((YE0 #[114]),[(YE0 #[97]),(YE0 #[98])],[R2,R3,R4]),((YE0 #[115]),[(YE0 #[99])],[R5])] ([(YE0 #[120])]) ([((YE0 #[114]),[T6,T7]),((YE0 #[115]),[T7])])) (Ybj 400)).symm.trans (by kernel_rfl))
 unfold q99
 rw[e2,YzO,e3,YzO,e4,YzO,e5,YzO,e6,YzO,e7,YzO,YzO,eA,YzO,<-Ybj 400]
 show(_:Option Bool)=some true
 kernel_rfl
end Go.Abs.G47
namespace Go.Abs
def YzV{R:Type}(f:Nat->Option R):Nat->Nat->R->R
 |0,_,r0=>r0
 |k+1,n,r0=>match f n with
  |some r=>r
  |none=>YzV f k (n+1) r0
theorem Ygd{R:Type}{f g:Nat->Option R}{r0:R}: ∀(k n:Nat),(∀m,n<=m->m<n+k->f m=g m)->YzV f k n r0=YzV g k n r0
 |0,n,h=>rfl
 |k+1,n,h=>by
  simp only[YzV]
  rw[h n (YEt _) (by omega),Ygd k (n+1) (fun m h1 h2=>h m (by omega) (by omega))]
theorem YaA{S R:Type}{step:S->Option (S⊕R)}(st:Nat->S)(f:Nat->Option R)(N:Nat)(r0:R){s:S}(hst:s=st 0)(he:step (st N)=some (.inr r0))
  (hs: ∀n,n<N->step (st n)=some (match f n with|some r=>.inr r|none=>.inl (st (n+1)))):Yz7 step s=some (YzV f N 0 r0):=by
 subst hst
 have: ∀k n,n+k=N->Yz7 step (st n)=some (YzV f k n r0):=by
  intro k
  induction k with
  |zero=>intro n h;rw[Yax];simp only[Nat.add_zero]at h;subst h;rw[he];rfl
  |succ k ih=>
   intro n h
   rw[Yax,hs n (by omega)]
   simp only[YzV]
   cases f n with
   |some r=>rfl
   |none=>exact ih (n+1) (by omega)
 exact this N 0 (by omega)
def anyN(p:Nat->Bool):Nat->Nat->Bool
 |0,_=>false
 |k+1,n=>p n||anyN p k (n+1)
def idxR(p:Nat->Bool)(k n:Nat):Int:=match YzV (R:=Int⊕Unit) (fun m=>bif p m then some (.inl (m:Int))else none) k n (.inr ())with
 | .inl i=>i
 | .inr _=> -1
theorem Yge(p:Nat->Bool): ∀k n,decide (0<=idxR p k n)=anyN p k n
 |0,n=>rfl
 |k+1,n=>by
  have:=Yge p k (n+1)
  unfold idxR at this⊢
  simp only[YzV,anyN]
  by_cases hp:p n=true
  ·simp[hp]
  ·simp only[Bool.not_eq_true]at hp;simpa[hp]using this
theorem Yb3{R:Type}{f:Nat->Option R}{r0:R}: ∀(k n:Nat),(∃m r,n<=m/\m<n+k/\f m=some r/\YzV f k n r0=r)\/(YzV f k n r0=r0/\ ∀m,n<=m->m<n+k->f m=none)
 |0,n=>.inr ⟨rfl,fun m h1 h2=>by omega⟩
 |k+1,n=>by
  simp only[YzV]
  cases hf:f n with
  |some r=>exact .inl ⟨n,r,YEt _,by omega,hf,rfl⟩
  |none=>
   rcases Yb3 (f:=f) (r0:=r0) k (n+1)with⟨m,r,h1,h2,h3,h4⟩| ⟨h1,h2⟩
   ·exact .inl ⟨m,r,by omega,by omega,h3,h4⟩
   ·refine .inr ⟨h1,fun m g1 g2=> ?_⟩
    by_cases e:m=n
    ·subst e;exact hf
    ·exact h2 m (by omega) (by omega)
theorem Ynn(s:ByteArray)(i:Int):0<=YzN s i/\YzN s i<256:=by
 unfold YzN
 have:=(s.data.getD i.toNat 0).toNat_lt
 omega
theorem Ybk{α:Type}{l:List α}{n:Nat}{d:α}(h:n<l.length):l.getD n d∈l:=by
 rw[YEd,YDT h];exact List.getElem_mem h
theorem Yzh{a b:ByteArray}(hs:a.size=b.size)(h: ∀n:Nat,n<a.size->YzN a n=YzN b n):a=b:=by
 have:a.data=b.data:=by
  apply Array.ext hs
  intro i h1 h2
  have:=h i h1
  rw[Yy7]at this
  unfold Array.getD at this
  rw[dif_pos h1,dif_pos h2]at this
  exact this
 cases a;cases b;simp_all
theorem anyN_iff{p:Nat->Bool}: ∀{k n:Nat},anyN p k n=true↔ ∃m,n<=m/\m<n+k/\p m=true
 |0,n=>⟨fun h=>(by cases h),fun⟨m,h1,h2,_⟩=>(by omega)⟩
 |k+1,n=>by
  simp only[anyN,YEQ,anyN_iff (k:=k) (n:=n+1)]
  constructor
  ·rintro(h| ⟨m,h1,h2,h3⟩)
   ·exact⟨n,YEt _,by omega,h⟩
   ·exact⟨m,by omega,by omega,h3⟩
  ·rintro⟨m,h1,h2,h3⟩
   by_cases e:m=n
   ·subst e;exact .inl h3
   ·exact .inr ⟨m,by omega,by omega,h3⟩
theorem Ygf{R:Type}{p:Nat->Bool}(hit:Nat->R)(r0:R)(T:R->Bool)(h0:T r0=false)(h1: ∀m,T (hit m)=true): ∀k n,T (YzV (fun m=>bif p m then some (hit m)else none) k n r0)=anyN p k n
 |0,n=>h0
 |k+1,n=>by
  simp only[YzV,anyN]
  cases hp:p n with
  |true=>simp[h1]
  |false=>simpa using Ygf hit r0 T h0 h1 k (n+1)
theorem Ygg{p:Nat->Bool}(b:Bool)(k n:Nat):YzV (R:=Bool⊕Unit) (fun m=>bif p m then some (.inl b)else none) k n (.inr ())=bif anyN p k n then .inl b else .inr ():=by
 induction k generalizing n with
 |zero=>rfl
 |succ k ih=>
  simp only[YzV,anyN]
  cases p n with
  |true=>rfl
  |false=>simpa using ih (n+1)
theorem Ybl{α:Type}{l:List α}{n:Nat}{d:α}(h:n<l.length):l.take (n+1)=l.take n++[l.getD n d]:=by
 rw[<-List.take_append_getElem h,YEd,YDT h];rfl
end Go.Abs
namespace Go.Abs.G47
open Go Go.Abs
noncomputable section
theorem Yno{A B C:Type}(b:B)(f:A->Option C)(g:B->Option C):alt2 (.inr b:A⊕B) f g=g b:=rfl
def lt(c:Int):Bool:=decide (97<=c)&&decide (c<=122)||decide (65<=c)&&decide (c<=90)||decide (c=95)
theorem YcQ(c:Int):q102 loO c=some (lt c):=by
 unfold q102 lt
 by_cases h1:(97:Int)<=c<;>by_cases h2:c<=(122:Int)<;>by_cases h3:(65:Int)<=c<;>by_cases h4:c<=(90:Int)<;>simp[h1,h2,h3,h4]
def fN(s:ByteArray)(n:Nat):Option (Bool⊕Unit):=
 bif lt (YzN s n)then none else bif decide (n=0)then some (.inl false)else bif decide (YzN s n<48)then some (.inl false)else bif decide ((57:Int)<YzN s n)then some (.inl false)else none
def nul:ByteArray:=YE0 #[110,117,108,108]
def YAz(s:ByteArray):Bool:=
 bif decide (s=YE0 #[])then false else bif decide ((24:Int)< (s.size:Int))then false else bif decide (s=nul)then false else
  match YzV (fN s) s.size 0 (.inr ())with| .inl b=>b| .inr _=>true
def fR(s:ByteArray)(n:Nat):Option (Bool⊕Unit):=
 bif lt (YzN s n)then none else bif decide (YzN s n<48)then some (.inl false)else bif decide ((57:Int)<YzN s n)then some (.inl false)else none
theorem Ynp(s:ByteArray)(hs:s.size<=24):Yf0 loO (s,0)=some (YzV (fR s) s.size 0 (.inr ())):=by
 refine YaA (fun n=>(s,(n:Int))) (fR s) s.size (.inr ()) rfl ?_ (fun n hn=> ?_)
 ·simp[Yd6]
 ·have e1:decide ((n:Int)< (s.size:Int))=true:=by simp;omega
  have e2:YE1 .i64 ((n:Int)+1)=((n+1:Nat):Int):=by rw[wr6 (by omega) (by omega)];omega
  simp only[Yd6,e1,cond_true,e2,YcQ,YzO]
  rw[chkT _ (by omega)]
  unfold fR
  generalize YzN s n=c
  have h0:(0:Int)<=(n:Int)/\ (n:Int)< (s.size:Int):=by omega
  cases lt c<;>by_cases h7:c<48<;>by_cases h8:(57:Int)<c<;>simp[h7,h8,chkT,h0]
theorem YDx(s:ByteArray):s.size=0↔s=YE0 #[]:=by
 constructor
 ·intro h
  have:s.data= #[]:=Array.eq_empty_of_size_eq_zero h
  cases s;simp_all
 ·intro h;subst h;rfl
theorem Ygh(s:ByteArray):q103 loO s=some (YAz s):=by
 unfold q103 YAz nul
 by_cases h1:s=YE0 #[]
 ·subst h1;rfl
 ·have h1':s.size≠0:=fun h=>h1 ((YDx s).1 h)
  by_cases h2:(24:Int)< (s.size:Int)
  ·have: ¬ (s.size:Int)=0:=by omega
   simp[h1,h2,this]
  ·have h0: ¬ (s.size:Int)=0:=by omega
   simp only[h1,h2,h0,decide_false,cond_false,YcQ,YzO]
   rw[chkT _ (by omega)]
   have hz:YzN s 0=YzN s ((0:Nat):Int):=rfl
   have hsz:s.size=(s.size-1)+1:=by omega
   cases hl:lt (YzN s 0)with
   |false=>
    have:YzV (fN s) s.size 0 (.inr ())= .inl false:=by
     rw[hsz];simp only[YzV,fN,<-hz,hl];rfl
    rw[this]
    by_cases h3:s=YE0 #[110,117,108,108]<;>simp[h3]
   |true=>
    have:YzV (fN s) s.size 0 (.inr ())=YzV (fR s) s.size 0 (.inr ()):=Ygd _ _ (fun m _ _=>by
     unfold fN fR
     by_cases hm:m=0
     ·subst hm;rw[<-hz,hl];rfl
     ·simp[hm])
    rw[this,Ynp s (by omega)]
    by_cases h3:s=YE0 #[110,117,108,108]
    ·simp[h3]
    ·simp only[h3,decide_false,cond_false,YEP,YzO]
     cases YzV (fR s) s.size 0 (.inr ())<;>rfl
def idxI(l:List ByteArray)(v:ByteArray):Int:=idxR (fun m=>decide (v=l.getD m (YE0 #[]))) l.length 0
theorem Yzi(l:List ByteArray)(v:ByteArray)(hl:l.length<=maxEl):q4 loO l v=some (idxI l v):=by
 have hm:maxEl=1073741824:=rfl
 have:YfA loO (l,v,(l.length:Int),0)=some (YzV (R:=Int⊕Unit) (fun m=>bif decide (v=l.getD m (YE0 #[]))then some (.inl (m:Int))else none) l.length 0 (.inr ())):=by
  refine YaA (fun n=>(l,v,(l.length:Int),(n:Int))) _ l.length (Sum.inr ()) rfl ?_ (fun n hn=> ?_)
  ·simp[YdQ]
  ·have e1:decide ((n:Int)< (l.length:Int))=true:=by simp;omega
   have e2:YE1 .i64 ((n:Int)+1)=((n+1:Nat):Int):=by rw[wr6 (by omega) (by omega)];omega
   simp only[YdQ,e1,cond_true,e2,YEU]
   rw[chkT _ (by omega)]
   cases decide (v=l.getD n (YE0 #[]))<;>rfl
 unfold q4 idxI idxR
 rw[this,YzO]
 cases YzV (R:=Int⊕Unit) (fun m=>bif decide (v=l.getD m (YE0 #[]))then some (.inl (m:Int))else none) l.length 0 (.inr ())<;>rfl
theorem Ynq(l:List ByteArray)(v:ByteArray)(hl:l.length<=maxEl):q5 loO l v=some (decide (0<=idxI l v)):=by
 unfold q5;rw[Yzi l v hl];rfl
theorem YcR(l:List ByteArray)(v:ByteArray)(hl:l.length<=maxEl):q104 loO l v=some (idxI l v):=by
 have hm:maxEl=1073741824:=rfl
 have:Yf1 loO (l,v,0)=some (YzV (R:=Int⊕Unit) (fun m=>bif decide (v=l.getD m (YE0 #[]))then some (.inl (m:Int))else none) l.length 0 (.inr ())):=by
  refine YaA (fun n=>(l,v,(n:Int))) _ l.length (Sum.inr ()) rfl ?_ (fun n hn=> ?_)
  ·simp[Yd7]
  ·have e1:decide ((n:Int)< (l.length:Int))=true:=by simp;omega
   have e2:YE1 .i64 ((n:Int)+1)=((n+1:Nat):Int):=by rw[wr6 (by omega) (by omega)];omega
   have e3:decide (l.getD n (YE0 #[])=v)=decide (v=l.getD n (YE0 #[])):=by simp only[eq_comm]
   simp only[Yd7,e1,cond_true,e2,YEU,e3]
   rw[chkT _ (by omega)]
   cases decide (v=l.getD n (YE0 #[]))<;>rfl
 unfold q104 idxI idxR
 rw[this,YzO]
 cases YzV (R:=Int⊕Unit) (fun m=>bif decide (v=l.getD m (YE0 #[]))then some (.inl (m:Int))else none) l.length 0 (.inr ())<;>rfl
def vB(v:Int×Int×ByteArray):Bool:=(q6 loO v.1 v.2.1 v.2.2).getD false
theorem Ynr(a b:Int)(c:ByteArray):q6 loO a b c=some (vB (a,b,c)):=by
 unfold vB q6
 by_cases h0:a=0<;>by_cases h1:a=1<;>by_cases h2:a=2<;>by_cases h3:a=3<;>by_cases h4:b=0<;>by_cases h5:1<=b<;>simp[h0,h1,h2,h3,h4,h5]
theorem Yzj(a b:Int)(c:ByteArray):q106 loO a b c=some (vB (a,b,c)):=Ynr a b c
end
end Go.Abs.G47
namespace Go.Abs.G47
open Go Go.Abs
noncomputable section
theorem inc{n N:Nat}(h:n<N)(hN:N<=maxEl):YE1 .i64 ((n:Int)+1)=((n+1:Nat):Int):=by
 have hm:maxEl=1073741824:=rfl
 rw[wr6 (by omega) (by omega)];omega
theorem ltI{n N:Nat}(h:n<N):decide ((n:Int)< (N:Int))=true:=by simp;omega
theorem nlI(N:Nat):decide ((N:Int)< (N:Int))=false:=by simp
abbrev zA:Atom:=(YE0 #[],[])
abbrev zM:Term:=(YE0 #[],0,0,YE0 #[])
abbrev nul0:ByteArray:=YE0 #[]
theorem Yns{p:Nat->Bool}: ∀{k n:Nat},(∃m,n<=m/\m<n+k/\p m=true/\idxR p k n=(m:Int))\/(idxR p k n= -1/\ ∀m,n<=m->m<n+k->p m=false)
 |0,n=>.inr ⟨rfl,fun m h1 h2=>by omega⟩
 |k+1,n=>by
  cases hp:p n with
  |true=>exact .inl ⟨n,YEt _,by omega,hp,by unfold idxR;simp[YzV,hp]⟩
  |false=>
   have e:idxR p (k+1) n=idxR p k (n+1):=by unfold idxR;simp[YzV,hp]
   rw[e]
   rcases Yns (p:=p) (k:=k) (n:=n+1)with⟨m,h1,h2,h3,h4⟩| ⟨h1,h2⟩
   ·exact .inl ⟨m,by omega,by omega,h3,h4⟩
   ·refine .inr ⟨h1,fun m g1 g2=> ?_⟩
    by_cases e:m=n
    ·subst e;exact hp
    ·exact h2 m (by omega) (by omega)
theorem lexL(c:Int):q26 loO c=some (lt c):=YcQ c
theorem lexD(c:Int):q27 loO c=some (decide (48<=c)&&decide (c<=57)):=by
 unfold q27
 cases decide ((48:Int)<=c)<;>rfl
theorem Yzk(s:ByteArray)(hs:s.size<=24):YfB loO (s,(s.size:Int),0)=some (YzV (fR s) s.size 0 (.inr ())):=by
 have hm:maxEl=1073741824:=rfl
 refine YaA (fun n=>(s,(s.size:Int),(n:Int))) (fR s) s.size (.inr ()) rfl ?_ (fun n hn=> ?_)
 ·simp[YdR]
 ·simp only[YdR,ltI hn,cond_true,inc hn (show s.size<=maxEl by omega),lexL,lexD,YzO]
  rw[chkT _ (by omega),chkT _ (by omega)]
  unfold fR
  generalize YzN s n=c
  have e1:decide ((48:Int)<=c)= !decide (c<48):=by by_cases h:c<48<;>simp[h]<;>omega
  have e2:decide (c<=(57:Int))= !decide ((57:Int)<c):=by by_cases h:(57:Int)<c<;>simp[h]<;>omega
  rw[e1,e2]
  cases lt c<;>cases decide (c<48)<;>cases decide ((57:Int)<c)<;>rfl
theorem lexN(s:ByteArray):q28 loO s=some (YAz s):=by
 rw[<-Ygh]
 unfold q28 q103
 by_cases h1:s=YE0 #[]
 ·subst h1;rfl
 ·have h1':s.size≠0:=fun h=>h1 ((YDx s).1 h)
  have h0: ¬ (s.size:Int)=0:=by omega
  by_cases h2:(24:Int)< (s.size:Int)
  ·simp[h1,h2,h0]
  ·by_cases h3:s=YE0 #[110,117,108,108]
   ·subst h3
    have hs:(YE0 #[110,117,108,108]).size=4:=rfl
    simp only[hs,h1,h0,h2,decide_true,decide_false,cond_false,cond_true,YcQ,YzO]
    cases lt (YzN (YE0 #[110,117,108,108]) 0)<;>rfl
   ·simp only[h1,h2,h3,h0,decide_false,cond_false,lexL,YcQ,YzO]
    rw[chkT _ (by omega),chkT _ (by omega),Yzk s (by omega),Ynp s (by omega),YzO]
def YAr(t:Term):Bool:=bif !decide (t.1=nul0)then YAz t.1&& (decide (t.2.1=0)&& (decide (t.2.2.1=0)&& (decide (t.2.2.2=nul0)&&true)))else vB t.2
theorem YDJ(t:Term):q29 loO t.1 t.2.1 t.2.2.1 t.2.2.2=some (YAr t):=by
 unfold q29 YAr
 rw[lexN,Ynr,YzO,YzO]
 cases decide (t.1=nul0)<;>cases YAz t.1<;>rfl
theorem YDK(t:Term):q111 loO t.1 t.2.1 t.2.2.1 t.2.2.2=some (YAr t):=by
 unfold q111 YAr
 rw[Ygh,Yzj,YzO,YzO]
 cases decide (t.1=nul0)<;>cases YAz t.1<;>rfl
def badT(l:List Term):Bool:=anyN (fun m=> !YAr (l.getD m zM)) l.length 0
theorem YDy(nm:ByteArray)(l:List Term)(h:l.length<=maxEl):q112 loO nm l=some (!badT l):=by
 have:Yf2 loO (0,nm,l)=some (YzV (R:=Bool⊕Unit) (fun m=>bif !YAr (l.getD m zM)then some (.inl false)else none) l.length 0 (.inr ())):=by
  refine YaA (fun n=>((n:Int),nm,l)) _ l.length _ rfl ?_ (fun n hn=> ?_)
  ·simp[Yd8]
  ·simp only[Yd8,ltI hn,cond_true,inc hn h,YEU]
   rw[chkT _ (by omega),YDK,YzO]
   cases YAr (l.getD n zM)<;>rfl
 unfold q112 badT
 rw[this,YzO,Ygg]
 cases anyN (fun m=> !YAr (l.getD m zM)) l.length 0<;>rfl
def addV(out:List ByteArray)(v:ByteArray):List ByteArray:=bif !decide (v=nul0)&&decide (idxI out v<0)then out++[v]else out
def YAh(out:List ByteArray)(l:List Term):List ByteArray:=l.foldl (fun o t=>addV o t.1) out
def YzU(out:List ByteArray)(l:List Atom):List ByteArray:=l.foldl (fun o a=>YAh o a.2) out
theorem Yzl(out:List ByteArray)(v:ByteArray):(addV out v).length<=out.length+1:=by
 unfold addV
 cases(!decide (v=nul0)&&decide (idxI out v<0))<;>simp
theorem Yeh: ∀(l:List Term) (out:List ByteArray),(YAh out l).length<=out.length+l.length
 | [],out=>by simp[YAh]
 |t::l,out=>by
  have h1:=Yeh l (addV out t.1)
  have h2:=Yzl out t.1
  simp only[YAh,List.foldl_cons,YD9]at h1⊢
  omega
def sumT(l:List Atom):Nat:=(l.map fun a=>a.2.length).sum
theorem Yb4: ∀(l:List Atom) (out:List ByteArray),(YzU out l).length<=out.length+sumT l
 | [],out=>by simp[YzU,sumT]
 |a::l,out=>by
  have h1:=Yb4 l (YAh out a.2)
  have h2:=Yeh a.2 out
  simp only[YzU,sumT,List.foldl_cons,YDU,List.sum_cons]at h1⊢
  omega
theorem YcS{α β:Type}(f:β->α->β)(b:β){l:List α}{n:Nat}{d:α}(h:n<l.length):(l.take (n+1)).foldl f b=f ((l.take n).foldl f b) (l.getD n d):=by
 rw[Ybl (d:=d) h,List.foldl_append];rfl
theorem Yzm{l:List Nat}: ∀(n:Nat),(l.take n).sum<=l.sum:=by
 induction l with
 |nil=>intro n;simp
 |cons a r ih=>
  intro n
  cases n with
  |zero=>simp
  |succ n=>simp only[List.take_succ_cons,List.sum_cons];have:=ih n;omega
theorem Yzn(l:List Atom)(n:Nat):sumT (l.take n)<=sumT l:=by
 unfold sumT;rw[List.map_take];exact Yzm n
theorem YbF{l:List Atom}{n:Nat}(h:n<l.length):sumT (l.take n)+(l.getD n zA).2.length<=sumT l:=by
 have:=Yzn l (n+1)
 rw[Ybl (d:=zA) h]at this
 unfold sumT at this⊢
 simpa using this
theorem YDz(l:List Atom)(h:l.length<=maxEl)(h2:sumT l<=maxEl):q113 loO l=some (YzU [] l):=by
 have inner: ∀(i:Nat) (out:List ByteArray),i<l.length->out.length<=sumT (l.take i)->Yf3 loO (l,(i:Int),0,out)=some (l,(i:Int),YAh out (l.getD i zA).2):=by
  intro i out hi ho
  have hb:=YbF hi
  refine YaP (st:=fun n=>(l,(i:Int),(n:Int),YAh out ((l.getD i zA).2.take n))) (N:=(l.getD i zA).2.length) rfl ?_ (fun n hn=> ?_)
  ·simp only[Yd9,YEU,nlI,cond_false,YD8]
   rw[chkT _ (by omega)]
  ·have ht:=Yeh ((l.getD i zA).2.take n) out
   rw[List.length_take,Nat.min_eq_left (by omega)]at ht
   simp only[Yd9,YEU,ltI hn,cond_true,inc hn (show(l.getD i zA).2.length<=maxEl by omega)]
   rw[chkT _ (by omega),chkT _ (by omega),chkT _ ⟨by omega,Int.ofNat_lt.2 hn⟩,YcR _ _ (by omega),YzO]
   have e:YAh out ((l.getD i zA).2.take (n+1))=addV (YAh out ((l.getD i zA).2.take n)) ((l.getD i zA).2.getD n zM).1:=YcS (fun o (t:Term)=>addV o t.1) out (d:=zM) hn
   rw[e]
   rw[chkT _ (by rw[List.length_singleton];omega)]
   unfold addV
   cases decide (((l.getD i zA).2.getD n zM).1=nul0)<;>cases decide (idxI (YAh out ((l.getD i zA).2.take n)) ((l.getD i zA).2.getD n zM).1<0)<;>rfl
 have outer:Yf4 loO (l,0,[])=some (YzU [] l):=by
  refine YaP (st:=fun n=>(l,(n:Int),YzU [] (l.take n))) (N:=l.length) rfl ?_ (fun n hn=> ?_)
  ·simp only[Yea,nlI,cond_false,YD8]
  ·have hl:=Yb4 (l.take n) []
   simp only[YEi,YEx]at hl
   simp only[Yea,ltI hn,cond_true]
   rw[inner n _ hn hl,YzO]
   simp only[inc hn h]
   have e:YzU [] (l.take (n+1))=YAh (YzU [] (l.take n)) (l.getD n zA).2:=YcS (fun o (a:Atom)=>YAh o a.2) [] (d:=zA) hn
   rw[e]
 unfold q113
 rw[outer,YzO]
def inL(l:List ByteArray)(v:ByteArray):Bool:=l.any fun w=>decide (v=w)
theorem inL_iff{l:List ByteArray}{v:ByteArray}:inL l v=true↔v∈l:=by
 unfold inL;rw[List.any_eq_true]
 constructor
 ·rintro⟨w,h1,h2⟩;rw[of_decide_eq_true h2];exact h1
 ·intro h;exact⟨v,h,decide_eq_true rfl⟩
theorem YcT(l:List ByteArray)(v:ByteArray):decide (0<=idxI l v)=inL l v:=by
 unfold idxI
 rw[Yge,YER,anyN_iff,inL_iff]
 constructor
 ·rintro⟨m,_,h2,h3⟩
  rw[decide_eq_true_eq]at h3;rw[h3];exact Ybk (by omega)
 ·intro h
  obtain⟨m,hm,e⟩:=YEq.1 h
  exact⟨m,YEB _,by omega,by rw[decide_eq_true_eq,YEd,YDT hm];exact e.symm⟩
theorem Ygi(l:List ByteArray)(v:ByteArray):decide (idxI l v<0)= !inL l v:=by
 rw[<-YcT];by_cases h:0<=idxI l v<;>simp[h]<;>omega
theorem Yzo(out:List ByteArray)(w v:ByteArray):v∈addV out w↔v∈out\/(v≠nul0/\w=v):=by
 unfold addV
 rw[Ygi]
 by_cases h1:w=nul0
 ·subst h1;simp;intro h2 h3;exact absurd h3.symm h2
 ·by_cases h2:w∈out
  ·simp[h1,inL_iff.2 h2];intro _ h4;subst h4;exact h2
  ·have h3:inL out w=false:=by rw[<-Bool.not_eq_true,inL_iff];exact h2
   simp[h1,h3]
   constructor
   ·rintro(h|rfl)
    ·exact .inl h
    ·exact .inr ⟨h1,rfl⟩
   ·rintro(h| ⟨_,rfl⟩)
    ·exact .inl h
    ·exact .inr rfl
theorem Ynt: ∀(l:List Term) (out:List ByteArray) (v:ByteArray),v∈YAh out l↔v∈out\/(v≠nul0/\ ∃t∈l,t.1=v)
 | [],out,v=>by simp[YAh]
 |t::l,out,v=>by
  have:=Ynt l (addV out t.1) v
  simp only[YAh,List.foldl_cons]at this⊢
  rw[this,Yzo]
  simp only[YDY,exists_eq_or_imp]
  constructor
  ·rintro((h| ⟨h1,h2⟩)| ⟨h1,h2⟩)
   ·exact .inl h
   ·exact .inr ⟨h1,.inl h2⟩
   ·exact .inr ⟨h1,.inr h2⟩
  ·rintro(h| ⟨h1,h2|h2⟩)
   ·exact .inl (.inl h)
   ·exact .inl (.inr ⟨h1,h2⟩)
   ·exact .inr ⟨h1,h2⟩
theorem Yei: ∀(l:List Atom) (out:List ByteArray) (v:ByteArray),v∈YzU out l↔v∈out\/(v≠nul0/\ ∃a∈l,∃t∈a.2,t.1=v)
 | [],out,v=>by simp[YzU]
 |a::l,out,v=>by
  have:=Yei l (YAh out a.2) v
  simp only[YzU,List.foldl_cons]at this⊢
  rw[this,Ynt]
  simp only[YDY,exists_eq_or_imp]
  constructor
  ·rintro((h| ⟨h1,h2⟩)| ⟨h1,h2⟩)
   ·exact .inl h
   ·exact .inr ⟨h1,.inl h2⟩
   ·exact .inr ⟨h1,.inr h2⟩
  ·rintro(h| ⟨h1,h2|h2⟩)
   ·exact .inl (.inl h)
   ·exact .inl (.inr ⟨h1,h2⟩)
   ·exact .inr ⟨h1,h2⟩
def fHd(hd:List ByteArray)(at':List Atom)(n:Nat):Bool:=inL (YzU [] at') (hd.getD n nul0)&& !inL (hd.take n) (hd.getD n nul0)
def YBH(hd:List ByteArray)(at':List Atom):Bool:= !anyN (fun m=> !fHd hd at' m) hd.length 0
theorem YDL(l:List Term)(v:ByteArray)(h:l.length<=maxEl):q35 loO l v=some (anyN (fun m=>decide ((l.getD m zM).1=v)) l.length 0,v):=by
 have:YfC loO (l,(l.length:Int),0,v)=some (YzV (R:=(Int×ByteArray)⊕ByteArray) (fun m=>bif decide ((l.getD m zM).1=v)then some (.inl ((m:Int),v))else none) l.length 0 (.inr v)):=by
  refine YaA (fun n=>(l,(l.length:Int),(n:Int),v)) _ l.length _ rfl ?_ (fun n hn=> ?_)
  ·simp[YdS]
  ·simp only[YdS,ltI hn,cond_true,inc hn h,YEU,q33,YzO]
   rw[chkT _ (by omega)]
   cases decide ((l.getD n zM).1=v)<;>rfl
 unfold q35 q34
 rw[this,YzO]
 have k1:=Ygf (R:=(Int×ByteArray)⊕ByteArray) (p:=fun m=>decide ((l.getD m zM).1=v)) (fun m=>.inl ((m:Int),v)) (.inr v) (fun r=>match r with| .inl i=>decide (0<=i.1)| .inr _=>false) rfl (fun m=>by simp) l.length 0
 have k2: ∀k n,(match YzV (R:=(Int×ByteArray)⊕ByteArray) (fun m=>bif decide ((l.getD m zM).1=v)then some (.inl ((m:Int),v))else none) k n (.inr v)with| .inl i=>i.2| .inr b=>b)=v:=by
  intro k
  induction k with
  |zero=>intro n;rfl
  |succ k ih=>intro n;simp only[YzV];cases decide ((l.getD n zM).1=v)with
   |true=>rfl
   |false=>simpa using ih (n+1)
 have k2:=k2 l.length 0
 rw[<-k1]
 revert k2
 cases YzV (R:=(Int×ByteArray)⊕ByteArray) (fun m=>bif decide ((l.getD m zM).1=v)then some (.inl ((m:Int),v))else none) l.length 0 (.inr v)with
 |inl i=>intro k2;simp only at k2;subst k2;rfl
 |inr b=>intro k2;simp only at k2;subst k2;rfl
theorem YDM(l:List Atom)(v:ByteArray)(h:l.length<=maxEl)(h2:sumT l<=maxEl):q38 loO l v=some (anyN (fun m=>anyN (fun k=>decide (((l.getD m zA).2.getD k zM).1=v)) (l.getD m zA).2.length 0) l.length 0,v):=by
 have:YfD loO (l,(l.length:Int),0,v)=some (YzV (R:=(Int×ByteArray)⊕ByteArray) (fun m=>bif anyN (fun k=>decide (((l.getD m zA).2.getD k zM).1=v)) (l.getD m zA).2.length 0 then some (.inl ((m:Int),v))else none) l.length 0 (.inr v)):=by
  refine YaA (fun n=>(l,(l.length:Int),(n:Int),v)) _ l.length _ rfl ?_ (fun n hn=> ?_)
  ·simp[YdT]
  ·have:=YbF hn
   have hg:(l.getD n zA).2.length<=maxEl:=by omega
   simp only[YdT,ltI hn,cond_true,inc hn h,YEU,q36]
   rw[chkT _ (by omega),YDL _ _ hg,YzO,YzO]
   cases anyN (fun k=>decide (((l.getD n zA).2.getD k zM).1=v)) (l.getD n zA).2.length 0<;>rfl
 unfold q38 q37
 rw[this,YzO]
 have k1:=Ygf (R:=(Int×ByteArray)⊕ByteArray) (p:=fun m=>anyN (fun k=>decide (((l.getD m zA).2.getD k zM).1=v)) (l.getD m zA).2.length 0) (fun m=>.inl ((m:Int),v)) (.inr v) (fun r=>match r with| .inl i=>decide (0<=i.1)| .inr _=>false) rfl (fun m=>by simp) l.length 0
 have k2: ∀k n,(match YzV (R:=(Int×ByteArray)⊕ByteArray) (fun m=>bif anyN (fun k=>decide (((l.getD m zA).2.getD k zM).1=v)) (l.getD m zA).2.length 0 then some (.inl ((m:Int),v))else none) k n (.inr v)with| .inl i=>i.2| .inr b=>b)=v:=by
  intro k
  induction k with
  |zero=>intro n;rfl
  |succ k ih=>intro n;simp only[YzV];cases anyN (fun k=>decide (((l.getD n zA).2.getD k zM).1=v)) (l.getD n zA).2.length 0 with
   |true=>rfl
   |false=>simpa using ih (n+1)
 have k2:=k2 l.length 0
 rw[<-k1]
 revert k2
 cases YzV (R:=(Int×ByteArray)⊕ByteArray) (fun m=>bif anyN (fun k=>decide (((l.getD m zA).2.getD k zM).1=v)) (l.getD m zA).2.length 0 then some (.inl ((m:Int),v))else none) l.length 0 (.inr v)with
 |inl i=>intro k2;simp only at k2;subst k2;rfl
 |inr b=>intro k2;simp only at k2;subst k2;rfl
theorem YcU{α:Type}(p:α->Bool)(l:List α)(d:α):anyN (fun m=>p (l.getD m d)) l.length 0=l.any p:=by
 rw[YER,anyN_iff,List.any_eq_true]
 constructor
 ·rintro⟨m,_,h2,h3⟩;exact⟨_,Ybk (by omega),h3⟩
 ·rintro⟨x,hx,h3⟩
  obtain⟨m,hm,e⟩:=YEq.1 hx
  refine⟨m,YEB _,by omega,?_⟩
  rw[YEd,YDT hm,YEK,e];exact h3
theorem occ(l:List Atom)(v:ByteArray):(!decide (v=nul0)&&anyN (fun m=>anyN (fun k=>decide (((l.getD m zA).2.getD k zM).1=v)) (l.getD m zA).2.length 0) l.length 0)=inL (YzU [] l) v:=by
 have e1:anyN (fun m=>anyN (fun k=>decide (((l.getD m zA).2.getD k zM).1=v)) (l.getD m zA).2.length 0) l.length 0=l.any (fun a=>a.2.any fun t=>decide (t.1=v)):=by
  rw[<-YcU (fun a=>a.2.any fun t=>decide (t.1=v)) l zA]
  congr 1;funext m
  exact YcU (fun t=>decide (t.1=v)) (l.getD m zA).2 zM
 rw[e1,YER,inL_iff,Yei]
 simp
theorem YDN(hd:List ByteArray)(l:List Atom)(hh:hd.length<=maxEl)(h:l.length<=maxEl)(h2:sumT l<=maxEl):q39 loO hd l=some (YBH hd l):=by
 have:YfE loO (hd,(hd.length:Int),0,hd,l)=some (YzV (R:=Bool⊕Unit) (fun m=>bif !fHd hd l m then some (.inl false)else none) hd.length 0 (.inr ())):=by
  refine YaA (fun n=>(hd,(hd.length:Int),(n:Int),hd,l)) _ hd.length _ rfl ?_ (fun n hn=> ?_)
  ·simp[YdU]
  ·simp only[YdU,ltI hn,cond_true,inc hn hh,YEU,YEg]
   rw[chkT _ (by omega),chkT _ (by omega),Ynq _ _ (by simp;omega),YzO,YDM _ _ h h2,YzO]
   unfold fHd
   rw[<-occ,YcT]
   cases decide (hd.getD n nul0=nul0)<;>cases inL (hd.take n) (hd.getD n nul0)<;>cases anyN (fun m=>anyN (fun k=>decide (((l.getD m zA).2.getD k zM).1=hd.getD n nul0)) (l.getD m zA).2.length 0) l.length 0<;>rfl
 unfold q39 YBH
 rw[this,YzO,Ygg]
 cases anyN (fun m=> !fHd hd l m) hd.length 0<;>rfl
theorem YDO(hd:List ByteArray)(l:List Atom)(hh:hd.length<=maxEl)(h:l.length<=maxEl)(h2:sumT l<=maxEl):q114 loO hd l=some (YBH hd l):=by
 have hv:=Yb4 l []
 simp only[YEi,YEx]at hv
 have:Yf5 loO (YzU [] l,0,hd,l)=some (YzV (R:=Bool⊕Unit) (fun m=>bif !fHd hd l m then some (.inl false)else none) hd.length 0 (.inr ())):=by
  refine YaA (fun n=>(YzU [] l,(n:Int),hd,l)) _ hd.length _ rfl ?_ (fun n hn=> ?_)
  ·simp[Yeb]
  ·simp only[Yeb,ltI hn,cond_true,inc hn hh,YEU,YEg]
   rw[chkT _ (by omega),chkT _ (by omega),chkT _ (by omega),YcR _ _ (by omega),YzO,YcR _ _ (by simp;omega),YzO]
   unfold fHd
   rw[Ygi,YcT]
   cases inL (YzU [] l) (hd.getD n nul0)<;>cases inL (hd.take n) (hd.getD n nul0)<;>rfl
 unfold q114 YBH
 rw[YDz l h h2,YzO,this,YzO,Ygg]
 cases anyN (fun m=> !fHd hd l m) hd.length 0<;>rfl
def up{R':Type}(x:Option (Int⊕Unit)):Option (Int⊕R'):=match x with|some (.inl i)=>some (.inl i)|some (.inr _)=>none|none=>none
theorem Yzp{l:List Atom}{k:Nat}(h: ∀n,n<l.length->(l.getD n zA).2.length<=k):sumT l<=l.length*k:=by
 unfold sumT
 have: ∀a∈l,a.2.length<=k:=fun a ha=>by
  obtain⟨m,hm,e⟩:=YEq.1 ha
  have:=h m hm
  rwa[YEd,YDT hm,YEK,e]at this
 clear h
 induction l with
 |nil=>simp
 |cons a r ih=>
  have h1:=this a (YD0 ..)
  have h2:=ih (fun b hb=>this b (YD5 _ hb))
  simp only[YDU,List.sum_cons,YD9,YEz];omega
theorem Ynu(hd:List ByteArray)(l:List Atom): ∃b,q101 loO hd l=some b/\ (b=true->hd.length<=10/\l.length<=8/\sumT l<=160):=by
 have hm:maxEl=1073741824:=rfl
 unfold q101
 by_cases h:(10:Int)< (hd.length:Int)
 ·exact⟨false,by simp[h],fun h=>by cases h⟩
 ·by_cases h8:(8:Int)< (l.length:Int)
  ·exact⟨false,by simp[h,h8],fun h=>by cases h⟩
  ·simp only[h,h8,decide_false,cond_false]
   have:YfZ loO (l,(l.length:Int),0)=some (YzV (R:=Bool⊕Unit) (fun n=>bif decide ((20:Int)< ((l.getD n zA).2.length:Int))then some (.inl false)else bif decide ((3:Int)< (n:Int))&&decide ((1:Int)< ((l.getD n zA).2.length:Int))then some (.inl false)else none) l.length 0 (.inr ())):=by
    refine YaA (fun n=>(l,(l.length:Int),(n:Int))) _ l.length _ rfl ?_ (fun n hn=> ?_)
    ·simp[Yd5]
    ·simp only[Yd5,ltI hn,cond_true,inc hn (show l.length<=maxEl by omega),YEU]
     rw[chkT _ (by omega)]
     cases decide ((20:Int)< ((l.getD n zA).2.length:Int))<;>cases decide ((3:Int)< (n:Int))<;>cases decide ((1:Int)< ((l.getD n zA).2.length:Int))<;>rfl
   rw[this,YzO]
   rcases Yb3 (R:=Bool⊕Unit) (f:=fun n=>bif decide ((20:Int)< ((l.getD n zA).2.length:Int))then some (.inl false)else bif decide ((3:Int)< (n:Int))&&decide ((1:Int)< ((l.getD n zA).2.length:Int))then some (.inl false)else none) (r0:=.inr ()) l.length 0 with⟨m,r,_,_,h3,h4⟩| ⟨h1,hn⟩
   ·rw[h4]
    have:r= .inl false:=by
     revert h3
     cases decide ((20:Int)< ((l.getD m zA).2.length:Int))<;>cases decide ((3:Int)< (m:Int))<;>cases decide ((1:Int)< ((l.getD m zA).2.length:Int))<;>(intro h3;first| (injection h3 with h3;exact h3.symm)|cases h3)
    subst this
    exact⟨false,rfl,fun h=>by cases h⟩
   ·rw[h1]
    refine⟨true,rfl,fun _=>⟨by omega,by omega,?_⟩⟩
    have:=Yzp (l:=l) (k:=20) (fun n hl=>by
     have:=hn n (YEB _) (by omega)
     cases hc:decide ((20:Int)< ((l.getD n zA).2.length:Int))with
     |true=>rw[hc]at this;cases this
     |false=>rw[decide_eq_false_iff_not]at hc;omega)
    have:l.length*20<=8*20:=YEC _ (by omega)
    omega
end
end Go.Abs.G47
namespace Go.Abs.G47
open Go Go.Abs
noncomputable section
abbrev Asg(ν:Type):=ByteArray->Option ν
abbrev Ent(ν:Type):=List (Int×ByteArray×ν)
section
variable{ν:Type}[DecidableEq ν]
omit [DecidableEq ν] in
theorem Ynv(k k':ByteArray)(c:Int)(v:ν): ∀l:Ent ν,mfd eqS k' (mpt eqS c k v l)=bif eqS k' k then some v else mfd eqS k' l
 | []=>rfl
 |e::r=>by
  simp only[mpt]
  by_cases h:k=e.2.1
  ·have:eqS k e.2.1=true:=by simp[eqS,h]
   rw[this,cond_true]
   simp only[mfd,<-h]
   cases eqS k' k<;>rfl
  ·have:eqS k e.2.1=false:=by simp[eqS,h]
   rw[this,cond_false]
   simp only[mfd,Ynv k k' c v r]
   by_cases h1:k'=e.2.1
   ·have a1:eqS k' e.2.1=true:=by simp[eqS,h1]
    have a2:eqS k' k=false:=by simp only[eqS,decide_eq_false_iff_not];intro e';exact h (e'.symm.trans h1)
    rw[a1,a2];rfl
   ·have a1:eqS k' e.2.1=false:=by simp[eqS,h1]
    rw[a1];rfl
omit [DecidableEq ν] in
theorem Ynw{c:Int}{k:ByteArray}{v:ν}: ∀l:Ent ν,(mpt eqS c k v l).map (·.2.1)=(match mfd eqS k l with|some _=>l.map (·.2.1)|none=>l.map (·.2.1)++[k])
 | []=>rfl
 |e::r=>by
  simp only[mpt,mfd]
  cases h:eqS k e.2.1 with
  |true=>
   have:k=e.2.1:=by unfold eqS at h;simpa using h
   simp[this]
  |false=>
   simp only[cond_false,YDU,Ynw r]
   cases mfd eqS k r<;>rfl
def lk(l:Ent ν):Asg ν:=fun k=>mfd eqS k l
def upd(σ:Asg ν)(x:ByteArray)(u:ν):Asg ν:=fun k=>if k=x then some u else σ k
def del(σ:Asg ν)(x:ByteArray):Asg ν:=fun k=>if k=x then none else σ k
def KN(l:Ent ν):Prop:=(l.map (·.2.1)).Nodup
omit [DecidableEq ν] in
theorem Ygj(c:Int)(k:ByteArray)(v:ν)(l:Ent ν):lk (mpt eqS c k v l)=upd (lk l) k v:=by
 funext k'
 unfold lk upd
 rw[Ynv]
 by_cases h:k'=k<;>simp[eqS,h]
omit [DecidableEq ν] in
theorem mfd_none{k:ByteArray}: ∀{l:Ent ν},mfd eqS k l=none↔k∉l.map (·.2.1)
 | []=>by simp[mfd]
 |e::r=>by
  simp only[mfd,YDU,YDY,not_or]
  by_cases h:k=e.2.1
  ·simp[eqS,h]
  ·have:eqS k e.2.1=false:=by simp[eqS,h]
   rw[this,cond_false,mfd_none (l:=r)]
   simp[h]
omit [DecidableEq ν] in
theorem Ynx{c:Int}{k:ByteArray}{v:ν}{l:Ent ν}(h:KN l):KN (mpt eqS c k v l):=by
 unfold KN
 rw[Ynw]
 cases hm:mfd eqS k l with
 |some _=>exact h
 |none=>
  rw[List.nodup_append]
  exact⟨h,by simp,fun x hx y hy=>by rw[YD7]at hy;subst hy;intro e;subst e;exact mfd_none.1 hm hx⟩
omit [DecidableEq ν] in
theorem Yny{k x:ByteArray}: ∀{l:Ent ν},x∈ (mdl eqS k l).map (·.2.1)->x∈l.map (·.2.1)
 | [],h=>h
 |e::r,h=>by
  simp only[mdl]at h
  cases hk:eqS k e.2.1 with
  |true=>rw[hk,cond_true]at h;exact YD5 _ h
  |false=>
   rw[hk,cond_false,YDU,YDY]at h
   rw[YDU,YDY]
   exact h.imp_right Yny
omit [DecidableEq ν] in
theorem Ynz{k:ByteArray}: ∀{l:Ent ν},KN l->KN (mdl eqS k l)/\lk (mdl eqS k l)=del (lk l) k
 | [],h=>⟨h,by funext x;unfold lk del;simp[mdl,mfd]⟩
 |e::r,h=>by
  have h':e.2.1∉r.map (·.2.1)/\KN r:=by unfold KN at h⊢;rw[YDU,List.nodup_cons]at h;exact h
  obtain⟨i1,i2⟩:=Ynz (k:=k) h'.2
  simp only[mdl]
  by_cases hk:k=e.2.1
  ·have:eqS k e.2.1=true:=by simp[eqS,hk]
   rw[this,cond_true]
   refine⟨h'.2,?_⟩
   funext x
   unfold lk del
   by_cases hx:x=k
   ·rw[if_pos hx,hx,hk];exact mfd_none.2 h'.1
   ·rw[if_neg hx]
    have:eqS x e.2.1=false:=by simp[eqS,<-hk,hx]
    simp only[mfd,this,cond_false]
  ·have:eqS k e.2.1=false:=by simp[eqS,hk]
   rw[this,cond_false]
   refine⟨?_,?_⟩
   ·show(List.map (·.2.1) (e::mdl eqS k r)).Nodup
    rw[YDU,List.nodup_cons]
    exact⟨fun hm=>h'.1 (Yny hm),i1⟩
   ·funext x
    have i2:=congrFun i2 x
    unfold lk del at i2⊢
    simp only[mfd,i2]
    by_cases hx:x=k
    ·have:eqS x e.2.1=false:=by simp[eqS,hx,hk]
     rw[this];simp[hx]
    ·simp[hx]
def delG(l:Ent ν)(fresh:List ByteArray):Ent ν:=fresh.foldl (fun l k=>mdl eqS k l) l
omit [DecidableEq ν] in
theorem YnA: ∀(fresh:List ByteArray) {l:Ent ν},KN l->KN (delG l fresh)/\ ∀k,lk (delG l fresh) k=bif inL fresh k then none else lk l k
 | [],l,h=>⟨h,fun k=>rfl⟩
 |x::r,l,h=>by
  obtain⟨h1,h2⟩:=Ynz (k:=x) h
  obtain⟨i1,i2⟩:=YnA r h1
  refine⟨i1,fun k=> ?_⟩
  show lk (delG (mdl eqS x l) r) k=_
  rw[i2,h2]
  unfold del
  show _=bif decide (k=x)||inL r k then none else _
  by_cases hx:k=x<;>cases inL r k<;>simp[hx]
def tmM(σ:Asg ν)(x:ByteArray)(c u:ν):Option (Asg ν):=if x=nul0 then(if c=u then some σ else none)else
 match σ x with
 |some w=>if w=u then some σ else none
 |none=>some (upd σ x u)
def tsM:Asg ν->List (ByteArray×ν)->List ν->Option (Asg ν)
 |σ,[],_=>some σ
 |σ,_::_,[]=>none
 |σ,p::ps,u::us=>(tmM σ p.1 p.2 u).bind fun σ'=>tsM σ' ps us
def fitG:List (ByteArray×ν)->List ν->Int->Ent ν->List ByteArray->Bool×Int×Ent ν×List ByteArray
 | [],_,clk,l,fr=>(true,clk,l,fr)
 |_::_,[],clk,l,fr=>(false,clk,l,fr)
 |p::ps,u::us,clk,l,fr=>if p.1=nul0 then(if p.2=u then fitG ps us clk l fr else(false,clk,l,fr))else
  match mfd eqS p.1 l with
  |some w=>if w=u then fitG ps us clk l fr else(false,clk,l,fr)
  |none=>fitG ps us (mck eqS clk p.1 l) (mpt eqS clk p.1 u l) (fr++[p.1])
structure FitOk(σ0:Asg ν)(σ':Option (Asg ν))(r:Bool×Int×Ent ν×List ByteArray)(n:Nat):Prop where
 kn:KN r.2.2.1
 len:r.2.2.2.length<=n
 new: ∀k∈r.2.2.2,σ0 k=none
 old: ∀k,k∉r.2.2.2->lk r.2.2.1 k=σ0 k
 ok:r.1=σ'.isSome
 val: ∀σ1,σ'=some σ1->lk r.2.2.1=σ1
theorem Yej{σ0:Asg ν}: ∀(ps:List (ByteArray×ν)) (us:List ν) (clk:Int) (l:Ent ν) (fr:List ByteArray),KN l->(∀k∈fr,σ0 k=none)->(∀k,k∉fr->lk l k=σ0 k)->
  FitOk σ0 (tsM (lk l) ps us) (fitG ps us clk l fr) (fr.length+ps.length)
 | [],us,clk,l,fr,hk,hf,hl=>⟨hk,by simp[fitG],hf,hl,rfl,fun σ1 h=>by injection h⟩
 |p::ps,[],clk,l,fr,hk,hf,hl=>⟨hk,by simp[fitG],hf,hl,rfl,fun σ1 h=>by cases h⟩
 |p::ps,u::us,clk,l,fr,hk,hf,hl=>by
  have up: ∀{σ' r},FitOk σ0 σ' r (fr.length+ps.length)->FitOk σ0 σ' r (fr.length+(p::ps).length):=fun h=>⟨h.kn,by have:=h.len;simp only[YD9];omega,h.new,h.old,h.ok,h.val⟩
  have stop:FitOk σ0 none (false,clk,l,fr) (fr.length+(p::ps).length):=⟨hk,by simp,hf,hl,rfl,fun σ1 h=>by cases h⟩
  simp only[fitG,tsM,tmM]
  by_cases h0:p.1=nul0
  ·rw[if_pos h0,if_pos h0]
   by_cases hc:p.2=u
   ·rw[if_pos hc,if_pos hc];exact up (Yej ps us clk l fr hk hf hl)
   ·rw[if_neg hc,if_neg hc];exact stop
  ·rw[if_neg h0,if_neg h0]
   have e:lk l p.1=mfd eqS p.1 l:=rfl
   rw[e]
   cases hm:mfd eqS p.1 l with
   |some w=>
    simp only
    by_cases hc:w=u
    ·rw[if_pos hc,if_pos hc];exact up (Yej ps us clk l fr hk hf hl)
    ·rw[if_neg hc,if_neg hc];exact stop
   |none=>
    simp only[YEJ]
    have hp:p.1∉fr->σ0 p.1=none:=fun h=>by rw[<-hl _ h];exact hm
    have:=Yej (σ0:=σ0) ps us (mck eqS clk p.1 l) (mpt eqS clk p.1 u l) (fr++[p.1]) (Ynx hk) (fun k hk'=>by
     rcases YEk.1 hk' with h|h
     ·exact hf k h
     ·rw[YD7]at h;subst h
      by_cases hx:p.1∈fr
      ·exact hf _ hx
      ·exact hp hx) (fun k hk'=>by
     rw[YEk,YD7,not_or]at hk'
     rw[Ygj];unfold upd;rw[if_neg hk'.2];exact hl k hk'.1)
    rw[Ygj]at this
    exact⟨this.kn,by have:=this.len;simp only[List.length_append,YD9,YEi]at this⊢;omega,this.new,this.old,this.ok,this.val⟩
theorem fit0{ps:List (ByteArray×ν)}{us:List ν}(clk:Int){l:Ent ν}(hk:KN l):FitOk (lk l) (tsM (lk l) ps us) (fitG ps us clk l []) ps.length:=by
 have:=Yej (σ0:=lk l) ps us clk l [] hk (fun k h=>by cases h) (fun k _=>rfl)
 simpa using this
omit [DecidableEq ν] in
theorem YnB{σ0:Asg ν}{fr:List ByteArray}{l:Ent ν}(hk:KN l)(hn: ∀k∈fr,σ0 k=none)(ho: ∀k,k∉fr->lk l k=σ0 k):KN (delG l fr)/\lk (delG l fr)=σ0:=by
 obtain⟨h1,h2⟩:=YnA fr hk
 refine⟨h1,?_⟩
 funext k
 rw[h2]
 cases h:inL fr k with
 |true=>exact(hn k (inL_iff.1 h)).symm
 |false=>exact ho k fun hm=>by rw[inL_iff.2 hm]at h;cases h
def leA(σ τ:Asg ν):Prop:= ∀k v,σ k=some v->τ k=some v
omit [DecidableEq ν] in
theorem leA.refl(σ:Asg ν):leA σ σ:=fun _ _ h=>h
omit [DecidableEq ν] in
theorem leA.trans{σ τ ρ:Asg ν}(h:leA σ τ)(h':leA τ ρ):leA σ ρ:=fun k v e=>h' k v (h k v e)
def Img(σ:Asg ν):List (ByteArray×ν)->List ν->Prop
 | [],_=>True
 |_::_,[]=>False
 |p::ps,u::us=>(if p.1=nul0 then p.2=u else σ p.1=some u)/\Img σ ps us
omit [DecidableEq ν] in
theorem Img.mono{σ τ:Asg ν}(h:leA σ τ): ∀{ps us},Img σ ps us->Img τ ps us
 | [],_,_=>trivial
 |_::_,[],h'=>h'.elim
 |p::ps,u::us,h'=>by
  refine⟨?_,h'.2.mono h⟩
  have:=h'.1
  by_cases h0:p.1=nul0
  ·rw[if_pos h0]at this⊢;exact this
  ·rw[if_neg h0]at this⊢;exact h _ _ this
theorem Yzq{σ σ':Asg ν}{x:ByteArray}{c u:ν}(h:tmM σ x c u=some σ'):leA σ σ'/\if x=nul0 then c=u else σ' x=some u:=by
 unfold tmM at h
 by_cases h0:x=nul0
 ·rw[if_pos h0]at h⊢
  by_cases hc:c=u
  ·rw[if_pos hc]at h;injection h with h;subst h;exact⟨leA.refl _,hc⟩
  ·rw[if_neg hc]at h;cases h
 ·rw[if_neg h0]at h⊢
  cases hs:σ x with
  |some w=>
   rw[hs]at h;simp only at h
   by_cases hc:w=u
   ·rw[if_pos hc]at h;injection h with h;subst h;exact⟨leA.refl _,by rw[hs,hc]⟩
   ·rw[if_neg hc]at h;cases h
  |none=>
   rw[hs]at h;injection h with h;subst h
   refine⟨fun k v e=> ?_,by unfold upd;rw[if_pos rfl]⟩
   unfold upd
   by_cases hk:k=x
   ·subst hk;rw[hs]at e;cases e
   ·rw[if_neg hk];exact e
theorem YnC: ∀{ps:List (ByteArray×ν)} {us:List ν} {σ σ':Asg ν},tsM σ ps us=some σ'->leA σ σ'/\Img σ' ps us
 | [],us,σ,σ',h=>by injection h with h;subst h;exact⟨leA.refl _,trivial⟩
 |_::_,[],_,_,h=>by cases h
 |p::ps,u::us,σ,σ',h=>by
  simp only[tsM]at h
  cases h1:tmM σ p.1 p.2 u with
  |none=>rw[h1]at h;cases h
  |some σ1=>
   rw[h1]at h
   obtain⟨a1,a2⟩:=Yzq h1
   obtain⟨b1,b2⟩:=YnC (show tsM σ1 ps us=some σ' from h)
   refine⟨a1.trans b1,?_,b2⟩
   by_cases h0:p.1=nul0
   ·rw[if_pos h0]at a2⊢;exact a2
   ·rw[if_neg h0]at a2⊢;exact b1 _ _ a2
theorem YnD: ∀{ps:List (ByteArray×ν)} {us:List ν} {σ τ:Asg ν},leA σ τ->Img τ ps us-> ∃σ',tsM σ ps us=some σ'/\leA σ' τ
 | [],us,σ,τ,h,_=>⟨σ,rfl,h⟩
 |_::_,[],_,_,_,h=>h.elim
 |p::ps,u::us,σ,τ,h,h'=>by
  have hm: ∃σ1,tmM σ p.1 p.2 u=some σ1/\leA σ1 τ:=by
   have h1:=h'.1
   unfold tmM
   by_cases h0:p.1=nul0
   ·rw[if_pos h0]at h1⊢;rw[if_pos h1];exact⟨σ,rfl,h⟩
   ·rw[if_neg h0]at h1⊢
    cases hs:σ p.1 with
    |some w=>
     have:=h _ _ hs
     rw[h1]at this;injection this with this
     exact⟨σ,by simp[this],h⟩
    |none=>
     refine⟨_,rfl,fun k v e=> ?_⟩
     unfold upd at e
     by_cases hk:k=p.1
     ·rw[if_pos hk]at e;injection e with e;subst e;rw[hk];exact h1
     ·rw[if_neg hk]at e;exact h k v e
  obtain⟨σ1,e1,l1⟩:=hm
  obtain⟨σ',e2,l2⟩:=YnD l1 h'.2
  exact⟨σ',by simp only[tsM,e1];exact e2,l2⟩
end
end
end Go.Abs.G47
namespace Go.Abs.G47
open Go Go.Abs
noncomputable section
theorem YDA{A B:Type}{a:Option A}{f g:A->Option B}{y:B}(h:YEG a f=some y)(k: ∀z,f z=some y->g z=some y):YEG a g=some y:=by
 cases a with
 |none=>cases h
 |some z=>exact k z h
theorem YCt{A B:Type}{a a':Option A}{f g:A->Option B}{y:B}(h:YEG a f=some y)(ha: ∀z,a=some z->a'=some z)(k: ∀z,f z=some y->g z=some y):YEG a' g=some y:=by
 cases a with
 |none=>cases h
 |some z=>rw[ha z rfl];exact k z h
theorem chkm{B:Type}{p:Prop}[Decidable p]{a a':Option B}{y:B}(h:chk p a=some y)(k:a=some y->a'=some y):chk p a'=some y:=by
 by_cases hp:p
 ·rw[chkT _ hp]at*;exact k h
 ·simp[chk,hp]at h
theorem YBq{B:Type}{c:Bool}{a a' x x':Option B}{y:B}(h:(bif c then a else x)=some y)(k:a=some y->a'=some y)(k':x=some y->x'=some y):(bif c then a' else x')=some y:=by
 cases c with
 |true=>exact k h
 |false=>exact k' h
theorem YnE{S R:Type}{s s':S->Option (S⊕R)}(h: ∀x y,s x=some y->s' x=some y){x:S}{y:R}(hy:Yz7 s x=some y):Yz7 s' x=some y:=by
 obtain⟨n,hn⟩:=YcE hy
 refine YbW (n:=n) ?_
 clear hy
 induction n generalizing x with
 |zero=>cases hn
 |succ n ih=>
  simp only[YAw]at hn⊢
  cases hs:s x with
  |none=>rw[hs]at hn;cases hn
  |some z=>
   rw[hs]at hn
   rw[h x z hs]
   cases z with
   |inl a=>exact ih hn
   |inr b=>exact hn
theorem Yb5{α:Type}{l:List α}{n:Nat}{d:α}(h:n<l.length):l.drop n=l.getD n d::l.drop (n+1):=by
 rw[List.drop_eq_getElem_cons h,YEd,YDT h];rfl
theorem eqT(a b:Term):(decide (a.1=b.1)&& (decide (a.2.1=b.2.1)&& (decide (a.2.2.1=b.2.2.1)&& (decide (a.2.2.2=b.2.2.2)&&true))))=decide (a=b):=by
 obtain⟨a1,a2,a3,a4⟩:=a
 obtain⟨b1,b2,b3,b4⟩:=b
 rw[YER];simp
def wfB(hd:List ByteArray)(l:List Atom):Bool:=bif decide ((l.length:Int)<1)then false else bif decide ((6:Int)< (l.length:Int))then false else
 bif anyN (fun m=> !YAz (l.getD m zA).1||badT (l.getD m zA).2) l.length 0 then false else YBH hd l
theorem YC2(l:List Term)(h:l.length<=maxEl):q76 loO l=some (badT l):=by
 have:YfR loO (l,(l.length:Int),0)=some (YzV (R:=Int⊕Unit) (fun m=>bif !YAr (l.getD m zM)then some (.inl (m:Int))else none) l.length 0 (.inr ())):=by
  refine YaA (fun n=>(l,(l.length:Int),(n:Int))) _ l.length _ rfl ?_ (fun n hn=> ?_)
  ·simp[YdY]
  ·simp only[YdY,ltI hn,cond_true,inc hn h,YEU,q74]
   rw[chkT _ (by omega),YDJ,YzO,YzO]
   cases YAr (l.getD n zM)<;>rfl
 unfold q76 q75 badT
 rw[this,YzO,<-Yge]
 unfold idxR
 cases YzV (R:=Int⊕Unit) (fun m=>bif !YAr (l.getD m zM)then some (.inl (m:Int))else none) l.length 0 (.inr ())<;>rfl
def fW(l:List Atom)(n:Nat):Bool:= !YAz (l.getD n zA).1||badT (l.getD n zA).2
theorem tWf(hd:List ByteArray)(l:List Atom)(hh:hd.length<=maxEl)(h2:sumT l<=maxEl):q77 loO hd l=some (wfB hd l):=by
 have hm:maxEl=1073741824:=rfl
 unfold q77 wfB
 by_cases h1:(l.length:Int)<1
 ·simp[h1]
 ·by_cases h6:(6:Int)< (l.length:Int)
  ·simp[h1,h6]
  ·simp only[h1,h6,decide_false,cond_false]
   have:YfS loO (l,(l.length:Int),0,hd,l)=some (YzV (R:=Bool⊕ (List ByteArray×List Atom)) (fun m=>bif fW l m then some (.inl false)else none) l.length 0 (.inr (hd,l))):=by
    refine YaA (fun n=>(l,(l.length:Int),(n:Int),hd,l)) _ l.length _ rfl ?_ (fun n hn=> ?_)
    ·simp[YdZ]
    ·have:=YbF hn
     simp only[YdZ,ltI hn,cond_true,inc hn (show l.length<=maxEl by omega),YEU]
     have hx:(l.getD n zA).2.length<=maxEl:=by omega
     rw[chkT _ (by omega),lexN,YzO,YC2 _ hx,YzO]
     unfold fW
     cases YAz (l.getD n zA).1<;>cases badT (l.getD n zA).2<;>rfl
   rw[this,YzO]
   show _=some (bif anyN (fW l) l.length 0 then false else _)
   rcases Yb3 (f:=fun m=>bif fW l m then some (.inl false)else none) (r0:=(.inr (hd,l):Bool⊕ (List ByteArray×List Atom))) l.length 0 with⟨m,r,g1,g2,g3,g4⟩| ⟨g1,g2⟩
   ·rw[g4]
    have ha:anyN (fW l) l.length 0=true:=anyN_iff.2 ⟨m,g1,g2,by
     cases hf:fW l m with
     |true=>rfl
     |false=>rw[hf]at g3;cases g3⟩
    rw[ha]
    cases hf:fW l m with
    |true=>rw[hf]at g3;injection g3 with g3;subst g3;rfl
    |false=>rw[hf]at g3;cases g3
   ·rw[g1]
    have ha:anyN (fW l) l.length 0=false:=by
     cases ha:anyN (fW l) l.length 0 with
     |false=>rfl
     |true=>
      obtain⟨m,m1,m2,m3⟩:=anyN_iff.1 ha
      have:=g2 m m1 m2
      rw[m3]at this;cases this
    rw[ha]
    simp only[alt2,cond_false]
    rw[YDN hd l hh (by omega) h2,YzO]
theorem rWf(hd:List ByteArray)(l:List Atom)(hh:hd.length<=maxEl)(h2:sumT l<=maxEl):q139 loO hd l=some (wfB hd l):=by
 have hm:maxEl=1073741824:=rfl
 unfold q139 wfB
 by_cases h1:(l.length:Int)<1
 ·simp[h1]
 ·by_cases h6:(6:Int)< (l.length:Int)
  ·simp[h1,h6]
  ·simp only[h1,h6,decide_false,cond_false]
   have:Yf7 loO (0,hd,l)=some (YzV (R:=Bool⊕ (List ByteArray×List Atom)) (fun m=>bif fW l m then some (.inl false)else none) l.length 0 (.inr (hd,l))):=by
    refine YaA (fun n=>((n:Int),hd,l)) _ l.length _ rfl ?_ (fun n hn=> ?_)
    ·simp[Yec]
    ·have:=YbF hn
     simp only[Yec,ltI hn,cond_true,inc hn (show l.length<=maxEl by omega),YEU]
     have hx:(l.getD n zA).2.length<=maxEl:=by omega
     rw[chkT _ (by omega),chkT _ (by omega),Ygh,YzO,YDy _ _ hx,YzO]
     unfold fW
     cases YAz (l.getD n zA).1<;>cases badT (l.getD n zA).2<;>rfl
   rw[this,YzO]
   show _=some (bif anyN (fW l) l.length 0 then false else _)
   rcases Yb3 (f:=fun m=>bif fW l m then some (.inl false)else none) (r0:=(.inr (hd,l):Bool⊕ (List ByteArray×List Atom))) l.length 0 with⟨m,r,g1,g2,g3,g4⟩| ⟨g1,g2⟩
   ·rw[g4]
    have ha:anyN (fW l) l.length 0=true:=anyN_iff.2 ⟨m,g1,g2,by
     cases hf:fW l m with
     |true=>rfl
     |false=>rw[hf]at g3;cases g3⟩
    rw[ha]
    cases hf:fW l m with
    |true=>rw[hf]at g3;injection g3 with g3;subst g3;rfl
    |false=>rw[hf]at g3;cases g3
   ·rw[g1]
    have ha:anyN (fW l) l.length 0=false:=by
     cases ha:anyN (fW l) l.length 0 with
     |false=>rfl
     |true=>
      obtain⟨m,m1,m2,m3⟩:=anyN_iff.1 ha
      have:=g2 m m1 m2
      rw[m3]at this;cases this
    rw[ha]
    simp only[alt2,cond_false]
    rw[YDO hd l hh (by omega) h2,YzO]
abbrev pT(l:List Term):List (ByteArray×Term):=l.map fun t=>(t.1,t)
def atG(a b:Atom)(clk:Int)(l:Ent Term):Bool×Int×Ent Term×List ByteArray:=bif !decide (a.1=b.1)then(false,clk,l,[])else bif !decide ((a.2.length:Int)=(b.2.length:Int))then(false,clk,l,[])else fitG (pT a.2) b.2 clk l []
def atM(σ:Asg Term)(a b:Atom):Option (Asg Term):=bif !decide (a.1=b.1)then none else bif !decide ((a.2.length:Int)=(b.2.length:Int))then none else tsM σ (pT a.2) b.2
theorem Yzr(a b:Atom)(clk:Int){l:Ent Term}(hk:KN l):FitOk (lk l) (atM (lk l) a b) (atG a b clk l) a.2.length:=by
 have stop:FitOk (lk l) none (false,clk,l,[]) a.2.length:=⟨hk,by simp,fun _ h=>(List.not_mem_nil h).elim,fun _ _=>rfl,rfl,fun _ h=>nomatch h⟩
 unfold atM atG
 cases decide (a.1=b.1)with
 |false=>exact stop
 |true=>
  cases decide ((a.2.length:Int)=(b.2.length:Int))with
  |false=>exact stop
  |true=>
   have:=fit0 (ps:=pT a.2) (us:=b.2) clk hk
   rw[YD6]at this
   exact this
theorem Yzs(ts us:List Term)(b0:ByteArray)(m2 m3:Bool)(h:ts.length=us.length)(hm:ts.length<=maxEl): ∀(k n:Nat),n+k=ts.length-> ∀(clk:Int) (l:Ent Term) (fr:List ByteArray),fr.length+k<=maxEl->
  YfT loO (ts,(ts.length:Int),(n:Int),clk,l,m2,m3,b0,us,fr)=some (let r:=fitG ((pT ts).drop n) (us.drop n) clk l fr
   bif r.1 then .inr (r.2.1,r.2.2.1,m2,m3,r.2.2.2)else .inl (r.2.2.2,false,r.2.1,r.2.2.1,m2,m3)):=by
 have hM:maxEl=1073741824:=rfl
 intro k
 induction k with
 |zero=>
  intro n hn clk l fr hf
  show Yz7 _ _=_
  rw[Yax]
  have e:n=ts.length:=by omega
  subst e
  simp only[YcK,nlI,cond_false]
  rw[List.drop_of_length_le (by rw[YD6];omega)]
  rfl
 |succ k ih=>
  intro n hn clk l fr hf
  have hlt:n<ts.length:=by omega
  show Yz7 _ _=_
  have e1:(pT ts).drop n=((ts.getD n zM).1,ts.getD n zM)::(pT ts).drop (n+1):=by
   rw[Yb5 (d:=(zM.1,zM)) (by rw[YD6];omega)]
   simp[YEd,hlt]
  rw[e1,Yb5 (l:=us) (d:=zM) (by omega)]
  have key: ∀t u:Term,ts.getD n zM=t->us.getD n zM=u->Yz7 (YcK loO) (ts,(ts.length:Int),(n:Int),clk,l,m2,m3,b0,us,fr)=some (let r:=fitG ((t.1,t)::(pT ts).drop (n+1)) (u::us.drop (n+1)) clk l fr
   bif r.1 then .inr (r.2.1,r.2.2.1,m2,m3,r.2.2.2)else .inl (r.2.2.2,false,r.2.1,r.2.2.1,m2,m3)):=by
   intro t u ht hu'
   rw[Yax]
   simp only[YcK,ltI hlt,cond_true,YEU,Yd0,fitG,ht,hu']
   rw[chkT _ (by omega)]
   by_cases h0:t.1=nul0
   ·rw[if_pos h0]
    simp only[h0,decide_true,YEP,cond_false,YzO]
    rw[chkT _ (by omega)]
    have et:=eqT t u
    simp only[h0]at et
    rw[et]
    by_cases hu:t=u
    ·rw[if_pos hu]
     simp only[hu,decide_true,YEP,cond_false,YzO,alt2,inc hlt hm]
     exact ih (n+1) (by omega) clk l fr (by omega)
    ·rw[if_neg hu]
     simp only[hu,decide_false,YES,cond_true,YzO,alt2]
     rfl
   ·rw[if_neg h0]
    have e0:decide (t.1=nul0)=false:=decide_eq_false h0
    simp only[e0,YES,cond_true]
    unfold mhs mgt
    cases hf:mfd eqS t.1 l with
    |none=>
     simp only[YES,cond_true]
     rw[chkT _ (by omega),chkT _ (by rw[List.length_singleton];omega),YzO]
     simp only[alt2,inc hlt hm]
     exact ih (n+1) (by omega) _ _ _ (by rw[List.length_append,List.length_singleton];omega)
    |some w=>
     simp only[YEP,cond_false]
     rw[chkT _ (by omega),eqT]
     by_cases hu:w=u
     ·rw[if_pos hu]
      simp only[hu,decide_true,YEP,cond_false,YzO,alt2,inc hlt hm]
      exact ih (n+1) (by omega) clk l fr (by omega)
     ·rw[if_neg hu]
      simp only[hu,decide_false,YES,cond_true,YzO,alt2]
      rfl
  exact key _ _ rfl rfl
theorem tAt(a b:Atom)(clk:Int)(l:Ent Term)(m2 m3:Bool)(hm:a.2.length<=maxEl):q82 loO a.1 a.2 b.1 b.2 clk l m2 m3=some ((atG a b clk l).2.2.2,(atG a b clk l).1,(atG a b clk l).2.1,(atG a b clk l).2.2.1,m2,m3):=by
 unfold q82 atG
 by_cases h1:a.1=b.1
 ·by_cases h2:(a.2.length:Int)=(b.2.length:Int)
  ·simp only[h1,h2,decide_true,YEP,cond_false]
   have:=Yzs a.2 b.2 b.1 m2 m3 (by omega) hm a.2.length 0 (by omega) clk l [] (by simp;omega)
   simp only[YEg,h2]at this
   rw[show((0:Nat):Int)=0 from rfl]at this
   rw[this,YzO]
   cases(fitG (pT a.2) b.2 clk l []).1<;>rfl
  ·simp[h1,h2]
 ·simp[h1]
end
end Go.Abs.G47
namespace Go.Abs.G47
open Go Go.Abs
noncomputable section
def exM:List Atom->Asg Term->List Atom->Option (Asg Term)
 | [],σ,_=>some σ
 |a::r,σ,tg=>tg.findSome? fun b=>(atM σ a b).bind fun σ'=>exM r σ' tg
abbrev XRec:=List Atom×List Atom×Int×Ent Term×Bool×Bool->Option (Bool×Int×Ent Term×Bool×Bool)
theorem tDel(rec:XRec)(rest tg v16:List Atom)(v17 v18:Int)(fr:List ByteArray)(clk:Int)(l:Ent Term)(m2 m3:Bool)(h:fr.length<=maxEl):
  YbZ loO rec (rest,tg,v16,v17,v18,fr,(fr.length:Int),0,clk,l,m2,m3)=some (rest,tg,v16,v17,v18,clk,delG l fr,m2,m3):=by
 have:=YaP (step:=YcL loO rec) (s:=(rest,tg,v16,v17,v18,fr,(fr.length:Int),0,clk,l,m2,m3)) (r:=(rest,tg,v16,v17,v18,clk,delG l fr,m2,m3)) (N:=fr.length) (st:=fun n=>(rest,tg,v16,v17,v18,fr,(fr.length:Int),(n:Int),clk,delG l (fr.take n),m2,m3)) rfl
  (by simp only[YcL,nlI,cond_false,YD8])
  (fun n hn=>by
   simp only[YcL,ltI hn,cond_true,inc hn h,YEU]
   rw[chkT _ (by omega)]
   have e:delG l (fr.take (n+1))=mdl eqS (fr.getD n nul0) (delG l (fr.take n)):=YcS (fun l k=>mdl eqS k l) l (d:=nul0) hn
   rw[e])
 exact this
theorem Yzt(rec:XRec)(a:Atom)(r tg:List Atom)(hto:tg.length<=maxEl)(ha:a.2.length<=maxEl)(m2 m3:Bool)
  (hrec: ∀clk (l:Ent Term),KN l-> ∃clk' l',rec (r,tg,clk,l,m2,m3)=some ((exM r (lk l) tg).isSome,clk',l',m2,m3)/\KN l'/\lk l'=(exM r (lk l) tg).getD (lk l)) (σ:Asg Term):
  ∀(k n:Nat),n+k=tg.length-> ∀(clk:Int) (l:Ent Term),KN l->lk l=σ-> ∃clk' l',KN l'/\ (
   match(tg.drop n).findSome? (fun b=>(atM σ a b).bind fun σ'=>exM r σ' tg)with
   |some σ'=>Yb0 loO rec (a::r,tg,tg,(tg.length:Int),(n:Int),clk,l,m2,m3)=some (.inl (true,clk',l',m2,m3))/\lk l'=σ'
   |none=>Yb0 loO rec (a::r,tg,tg,(tg.length:Int),(n:Int),clk,l,m2,m3)=some (.inr (clk',l',m2,m3))/\lk l'=σ):=by
 have hM:maxEl=1073741824:=rfl
 intro k
 induction k with
 |zero=>
  intro n hn clk l hk hl
  refine⟨clk,l,hk,?_⟩
  rw[List.drop_of_length_le (by omega)]
  simp only[List.findSome?_nil]
  refine⟨?_,hl⟩
  show Yz7 _ _=_
  rw[Yax]
  have e:n=tg.length:=by omega
  subst e
  simp only[Ybh,nlI,cond_false]
 |succ k ih=>
  intro n hn clk l hk hl
  have hlt:n<tg.length:=by omega
  rw[Yb5 (d:=zA) hlt,List.findSome?_cons]
  have hA:=Yzr a (tg.getD n zA) clk hk
  have hT:=tAt a (tg.getD n zA) clk l m2 m3 ha
  rw[hl]at hA
  have step: ∀s',Ybh loO rec (a::r,tg,tg,(tg.length:Int),(n:Int),clk,l,m2,m3)=s'->Yb0 loO rec (a::r,tg,tg,(tg.length:Int),(n:Int),clk,l,m2,m3)=(match s' with|some (.inl s)=>Yb0 loO rec s|some (.inr x)=>some x|none=>none):=by
   intro s' hs;subst hs
   show Yz7 _ _=_
   rw[Yax]
   rcases Ybh loO rec (a::r,tg,tg,(tg.length:Int),(n:Int),clk,l,m2,m3)with _| (_|_)<;>rfl
  have nx:YE1 .i64 ((n:Int)+1)=((n+1:Nat):Int):=inc hlt hto
  have e0:(a::r).getD 0 zA=a:=rfl
  have e1:((a::r).take ((a::r).length:Int).toNat).drop 1=r:=by simp
  have es:Ybh loO rec (a::r,tg,tg,(tg.length:Int),(n:Int),clk,l,m2,m3)=YEG (q82 loO a.1 a.2 (tg.getD n zA).1 (tg.getD n zA).2 clk l m2 m3) fun y346=>bif y346.2.1 then(YEG (rec (r,tg,y346.2.2.1,y346.2.2.2.1,y346.2.2.2.2.1,y346.2.2.2.2.2)) fun y347=>bif y347.1 then(some (.inr (.inl (true,y347.2.1,y347.2.2.1,y347.2.2.2.1,y347.2.2.2.2))))else(YEG (YbZ loO rec (a::r,tg,tg,(tg.length:Int),(n:Int),y346.1,(y346.1.length:Int),(0:Int),y347.2.1,y347.2.2.1,y347.2.2.2.1,y347.2.2.2.2)) fun y348=>some (.inl (y348.1,y348.2.1,y348.2.2.1,y348.2.2.2.1,(YE1 .i64 (y348.2.2.2.2.1+(1:Int))),y348.2.2.2.2.2.1,y348.2.2.2.2.2.2.1,y348.2.2.2.2.2.2.2.1,y348.2.2.2.2.2.2.2.2))))else(YEG (YbZ loO rec (a::r,tg,tg,(tg.length:Int),(n:Int),y346.1,(y346.1.length:Int),(0:Int),y346.2.2.1,y346.2.2.2.1,y346.2.2.2.2.1,y346.2.2.2.2.2)) fun y349=>some (.inl (y349.1,y349.2.1,y349.2.2.1,y349.2.2.2.1,(YE1 .i64 (y349.2.2.2.2.1+(1:Int))),y349.2.2.2.2.2.1,y349.2.2.2.2.2.2.1,y349.2.2.2.2.2.2.2.1,y349.2.2.2.2.2.2.2.2))):=by
   simp only[Ybh,ltI hlt,cond_true,YEU]
   rw[chkT _ (by omega),chkT _ (by simp)]
   congr 1
   funext y346
   congr 1
   rw[chkT _ (by simp;omega)]
   simp
  rw[es,hT,YzO]at step
  simp only at step
  have hlen:(atG a (tg.getD n zA) clk l).2.2.2.length<=maxEl:=YEA hA.len ha
  rw[hA.ok]at step
  cases hat:atM σ a (tg.getD n zA)with
  |none=>
   rw[hat]at step
   simp only[Option.isSome_none,cond_false]at step
   rw[tDel _ _ _ _ _ _ _ _ _ _ _ hlen,YzO]at step
   simp only[nx]at step
   obtain⟨d1,d2⟩:=YnB hA.kn hA.new hA.old
   obtain⟨clk',l',k1,k2⟩:=ih (n+1) (by omega) (atG a (tg.getD n zA) clk l).2.1 _ d1 d2
   refine⟨clk',l',k1,?_⟩
   rw[step _ rfl]
   exact k2
  |some σ1=>
   rw[hat]at step
   simp only[Option.isSome_some,cond_true]at step
   obtain⟨c2,l2,r1,r2,r3⟩:=hrec (atG a (tg.getD n zA) clk l).2.1 _ hA.kn
   rw[r1,YzO,hA.val σ1 hat]at step
   rw[hA.val σ1 hat]at r3
   simp only[YEJ]
   cases hx:exM r σ1 tg with
   |some σ2=>
    rw[hx]at step r3
    exact⟨c2,l2,r2,step _ rfl,r3⟩
   |none=>
    rw[hx]at step r3
    simp only[Option.isSome_none,cond_false]at step
    rw[tDel _ _ _ _ _ _ _ _ _ _ _ hlen,YzO]at step
    simp only[nx]at step
    simp only[Option.getD_none]at r3
    obtain⟨d1,d2⟩:=YnB (σ0:=σ) r2 hA.new (by rw[r3,<-hA.val σ1 hat];exact hA.old)
    obtain⟨clk',l',k1,k2⟩:=ih (n+1) (by omega) c2 _ d1 d2
    refine⟨clk',l',k1,?_⟩
    rw[step _ rfl]
    exact k2
theorem Yzu(tg:List Atom)(hto:tg.length<=maxEl)(m2 m3:Bool)(j:Nat): ∀(rest:List Atom),(∀a∈rest,a.2.length<=maxEl)-> ∀(clk:Int) (l:Ent Term),KN l->
  ∃clk' l',YaV loO (rest.length+1+j) (rest,tg,clk,l,m2,m3)=some ((exM rest (lk l) tg).isSome,clk',l',m2,m3)/\KN l'/\lk l'=(exM rest (lk l) tg).getD (lk l):=by
 intro rest
 induction rest with
 |nil=>
  intro _ clk l hk
  refine⟨clk,l,?_,hk,rfl⟩
  have e:([]:List Atom).length+1+j=j+1:=by simp;omega
  rw[e];rfl
 |cons a r ih=>
  intro ha clk l hk
  have e:(a::r).length+1+j=(r.length+1+j)+1:=by simp;omega
  rw[e]
  obtain⟨clk',l',k1,k2⟩:=Yzt (YaV loO (r.length+1+j)) a r tg hto (ha a (YD0 ..)) m2 m3 (fun clk l hk=>ih (fun b hb=>ha b (YD5 _ hb)) clk l hk) (lk l) tg.length 0 (by omega) clk l hk rfl
  rw[YEg]at k2
  refine⟨clk',l',?_⟩
  show Yb1 loO (YaV loO (r.length+1+j)) (a::r) tg clk l m2 m3=_/\_
  have e0:decide (((a::r).length:Int)=0)=false:=by simp;omega
  unfold Yb1
  rw[e0,cond_false]
  simp only[exM]
  rw[show((0:Nat):Int)=0 from rfl]at k2
  cases hx:tg.findSome? (fun b=>(atM (lk l) a b).bind fun σ'=>exM r σ' tg)with
  |some σ'=>
   rw[hx]at k2
   simp only at k2
   rw[k2.1,YzO]
   exact⟨rfl,k1,k2.2⟩
  |none=>
   rw[hx]at k2
   simp only at k2
   rw[k2.1,YzO]
   exact⟨rfl,k1,k2.2⟩
theorem YnF: ∀n x y,YaV loO n x=some y->YaV loO (n+1) x=some y
 |0,_,_,h=>by cases h
 |n+1,x,y,h=>by
  have ih:=YnF n
  have h':Yb1 loO (YaV loO n) x.1 x.2.1 x.2.2.1 x.2.2.2.1 x.2.2.2.2.1 x.2.2.2.2.2=some y:=h
  show Yb1 loO (YaV loO (n+1)) x.1 x.2.1 x.2.2.1 x.2.2.2.1 x.2.2.2.2.1 x.2.2.2.2.2=some y
  unfold Yb1 at h'⊢
  refine YBq h' (fun h=>h) fun h=>YCt h (fun z hz=> ?_) fun _ h=>h
  refine YnE (fun s q hs=> ?_) hz
  obtain⟨s1,s2,s3,s4,s5,s6,s7,s8,s9⟩:=s
  simp only[Ybh]at hs⊢
  exact YBq hs (fun h=>chkm h fun h=>chkm h fun h=>YDA h fun _ h=>YBq h (fun h=>chkm h fun h=>YCt h (ih _) fun _ h=>YBq h (fun h=>h) fun h=>h) fun h=>h) fun h=>h
theorem tExt(rest tg:List Atom)(hto:tg.length<=maxEl)(hr: ∀a∈rest,a.2.length<=maxEl)(m2 m3:Bool)(clk:Int)(l:Ent Term)(hk:KN l):
  ∃clk' l',q83 loO rest tg clk l m2 m3=some ((exM rest (lk l) tg).isSome,clk',l',m2,m3)/\KN l'/\lk l'=(exM rest (lk l) tg).getD (lk l):=by
 obtain⟨clk',l',h1,h2⟩:=Yzu tg hto m2 m3 0 rest hr clk l hk
 exact⟨clk',l',Yfs YnF (n:=0) (by rw[YEx];exact h1),h2⟩
end
end Go.Abs.G47
namespace Go.Abs.G47
open Go Go.Abs
noncomputable section
def sg(a b:Int):Int:=bif decide (a<b)then-1 else bif decide (b<a)then 1 else 0
theorem Ygk(a b:Int):q124 loO a b=some (sg a b):=by
 unfold q124 sg
 by_cases h1:a<b<;>by_cases h2:b<a<;>simp[h1,h2]
theorem sg_zero{a b:Int}:sg a b=0↔a=b:=by
 unfold sg
 by_cases h1:a<b
 ·simp[h1];omega
 ·by_cases h2:b<a
  ·simp[h1,h2];omega
  ·simp[h1,h2];omega
def fS(a b:ByteArray)(n:Nat):Option (Int⊕ (ByteArray×ByteArray)):=bif !decide (YzN a n=YzN b n)then some (.inl (sg (YzN a n) (YzN b n)))else none
def cmpS(a b:ByteArray):Int:=match YzV (fS a b) (min a.size b.size) 0 (.inr (a,b))with
 | .inl i=>i
 | .inr _=>sg a.size b.size
theorem Yzv(a b:ByteArray)(ha:a.size<=maxEl)(hb:b.size<=maxEl):q125 loO a b=some (cmpS a b):=by
 have hm:maxEl=1073741824:=rfl
 have hL:Yf6 loO (a,b,0)=some (YzV (fS a b) (min a.size b.size) 0 (.inr (a,b))):=by
  refine YaA (fun n=>(a,b,(n:Int))) _ (min a.size b.size) _ rfl ?_ (fun n hn=> ?_)
  ·rcases Nat.le_total a.size b.size with h|h
   ·rw[Nat.min_eq_left h];simp[YcM]
   ·rw[Nat.min_eq_right h]
    have e:decide ((b.size:Int)< (b.size:Int))=false:=by simp
    simp only[YcM,e,cond_false]
    cases decide ((b.size:Int)< (a.size:Int))<;>rfl
  ·have e1:decide ((n:Int)< (a.size:Int))=true:=by simp;omega
   have e1':decide ((n:Int)< (b.size:Int))=true:=by simp;omega
   have e2:YE1 .i64 ((n:Int)+1)=((n+1:Nat):Int):=by rw[wr6 (by omega) (by omega)];omega
   have r1:=Ynn a n
   have r2:=Ynn b n
   simp only[YcM,e1,e1',cond_true,e2,Ygk,YzO,wr6 (show-9223372036854775808<=YzN a n by omega) (by omega),wr6 (show-9223372036854775808<=YzN b n by omega) (by omega)]
   rw[chkT _ (by omega),chkT _ (by omega),chkT _ (by omega),chkT _ (by omega)]
   unfold fS
   cases decide (YzN a n=YzN b n)<;>rfl
 unfold q125 cmpS
 rw[hL,YzO]
 rcases Yb3 (f:=fS a b) (r0:=.inr (a,b)) (min a.size b.size) 0 with⟨m,r,h1,h2,h3,h4⟩| ⟨h1,h2⟩
 ·rw[h4]
  unfold fS at h3
  cases hd:decide (YzN a m=YzN b m)with
  |true=>rw[hd]at h3;cases h3
  |false=>rw[hd]at h3;injection h3 with h3;subst h3;rfl
 ·rw[h1];simp only[alt2,Ygk,YzO]
theorem Yzw{a b:ByteArray}:cmpS a b=0↔a=b:=by
 unfold cmpS
 rcases Yb3 (f:=fS a b) (r0:=.inr (a,b)) (min a.size b.size) 0 with⟨m,r,h1,h2,h3,h4⟩| ⟨h1,h2⟩
 ·rw[h4]
  unfold fS at h3
  by_cases hd:YzN a m=YzN b m
  ·simp[hd]at h3
  ·simp[hd]at h3
   subst h3
   simp only
   rw[sg_zero]
   exact⟨fun h=>absurd h hd,fun h=>by subst h;exact absurd rfl hd⟩
 ·rw[h1]
  simp only[sg_zero]
  constructor
  ·intro h
   have hs:a.size=b.size:=by omega
   refine Yzh hs (fun n hn=> ?_)
   have:=h2 n (by omega) (by omega)
   unfold fS at this
   by_cases hd:YzN a n=YzN b n
   ·exact hd
   ·simp[hd]at this
  ·intro h;rw[h]
def cmpV(v w:Int×Int×ByteArray):Int:=bif !decide (sg v.1 w.1=0)then sg v.1 w.1 else bif !decide (sg v.2.1 w.2.1=0)then sg v.2.1 w.2.1 else cmpS v.2.2 w.2.2
theorem Yzx(v w:Int×Int×ByteArray)(hv:v.2.2.size<=maxEl)(hw:w.2.2.size<=maxEl):q126 loO v.1 v.2.1 v.2.2 w.1 w.2.1 w.2.2=some (cmpV v w):=by
 unfold q126 cmpV
 simp only[Ygk,YzO,Yzv _ _ hv hw]
 cases decide (sg v.1 w.1=0)<;>cases decide (sg v.2.1 w.2.1=0)<;>rfl
theorem Yzy{v w:Int×Int×ByteArray}:cmpV v w=0↔v=w:=by
 obtain⟨a,b,c⟩:=v
 obtain⟨a',b',c'⟩:=w
 unfold cmpV
 by_cases h1:sg a a'=0
 ·by_cases h2:sg b b'=0
  ·simp only[h1,h2,decide_true,YEP,cond_false,Yzw]
   rw[sg_zero]at h1 h2
   simp[h1,h2]
  ·simp only[h1,h2,decide_true,decide_false,YEP,YES,cond_false,cond_true]
   refine⟨fun h=>h.elim,fun h=> ?_⟩
   injection h with _ h;injection h with h _
   exact h2 (sg_zero.2 h)
 ·simp only[h1,decide_false,YES,cond_true]
  refine⟨fun h=>h.elim,fun h=> ?_⟩
  injection h with h _
  exact h1 (sg_zero.2 h)
end
end Go.Abs.G47
namespace Go.Abs.G47
open Go Go.Abs
noncomputable section
def SzT(l:List Term):Prop:= ∀t∈l,t.2.2.2.size<=maxEl
theorem YCa(a b:Term)(ha:a.2.2.2.size<=maxEl)(hb:b.2.2.2.size<=maxEl):q127 loO a.1 a.2.1 a.2.2.1 a.2.2.2 b.1 b.2.1 b.2.2.1 b.2.2.2=some (decide (a=b)):=by
 unfold q127
 obtain⟨a0,a1⟩:=a
 obtain⟨b0,b1⟩:=b
 by_cases h:a0=b0
 ·simp only[h,decide_true,cond_true]
  rw[Yzx a1 b1 ha hb,YzO]
  have:decide (cmpV a1 b1=0)=decide (a1=b1):=by rw[decide_eq_decide];exact Yzy
  rw[this];simp
 ·simp[h]
theorem YnG{p:Nat->Bool}: ∀(k n:Nat),idxR p (k+1) n=bif decide (0<=idxR p k n)then idxR p k n else bif p (n+k)then((n+k:Nat):Int)else-1
 |0,n=>by
  unfold idxR
  cases hp:p n<;>simp[YzV,hp]
 |k+1,n=>by
  have e: ∀j,idxR p (j+1) n=bif p n then(n:Int)else idxR p j (n+1):=fun j=>by
   unfold idxR
   cases hp:p n<;>simp[YzV,hp]
  rw[e (k+1),e k]
  cases hp:p n with
  |true=>simp
  |false=>
   simp only[cond_false]
   rw[YnG k (n+1),show n+1+k=n+(k+1) by omega]
theorem Yzz{p q:Nat->Bool}(k n:Nat)(h: ∀m,n<=m->m<n+k->p m=q m):idxR p k n=idxR q k n:=by
 unfold idxR
 rw[Ygd k n (fun m h1 h2=>by rw[h m h1 h2])]
theorem YnH{α:Type}{a b:List α}{n:Nat}{d:α}(h:n<a.length):(a++b).getD n d=a.getD n d:=by
 simp[YEd,YDV h]
theorem YnI{α:Type}{a:List α}{x d:α}:(a++[x]).getD a.length d=x:=by
 simp[YEd]
theorem YzA(N:List ByteArray)(x k:ByteArray):idxI (N++[x]) k=bif decide (0<=idxI N k)then idxI N k else bif decide (k=x)then(N.length:Int)else-1:=by
 unfold idxI
 rw[List.length_append,List.length_singleton,YnG]
 have e:idxR (fun m=>decide (k=(N++[x]).getD m nul0)) N.length 0=idxR (fun m=>decide (k=N.getD m nul0)) N.length 0:=Yzz _ _ fun m _ h=>by rw[YnH (by omega)]
 rw[e]
 simp only[YEx]
 rw[YnI]
theorem YcV(N:List ByteArray)(k:ByteArray):(∃m:Nat,idxI N k=(m:Int)/\m<N.length/\N.getD m nul0=k)\/(idxI N k= -1/\k∉N):=by
 rcases Yns (p:=fun m=>decide (k=N.getD m nul0)) (k:=N.length) (n:=0)with⟨m,_,h2,h3,h4⟩| ⟨h1,h2⟩
 ·exact .inl ⟨m,h4,by omega,(of_decide_eq_true h3).symm⟩
 ·refine .inr ⟨h1,fun hm=> ?_⟩
  have:=YcT N k
  rw[inL_iff.2 hm]at this
  have h1:idxI N k= -1:=h1
  rw[h1]at this;simp at this
def Yz2(N:List ByteArray)(T:List Term):Asg Term:=fun k=>bif decide (0<=idxI N k)then some (T.getD (idxI N k).toNat zM)else none
theorem YnJ{N:List ByteArray}{T:List Term}(hl:N.length=T.length){x:ByteArray}(u:Term)(hx:idxI N x<0):Yz2 (N++[x]) (T++[u])=upd (Yz2 N T) x u:=by
 funext k
 unfold Yz2 upd
 rw[YzA]
 rcases YcV N k with⟨m,h1,h2,h3⟩| ⟨h1,h2⟩
 ·have hk:k≠x:=fun e=>by rw[<-e,h1]at hx;omega
  rw[if_neg hk,h1]
  have e0:decide ((0:Int)<=(m:Int))=true:=by simp
  simp only[e0,cond_true,YEU,h1]
  rw[YnH (by omega)]
 ·rw[h1]
  by_cases hk:k=x
  ·rw[if_pos hk]
   have e0:decide ((0:Int)<= -1)=false:=rfl
   have e1:decide ((0:Int)<=(N.length:Int))=true:=by simp
   simp only[e0,hk,decide_true,cond_false,cond_true,e1,YEU]
   rw[hl,YnI]
  ·rw[if_neg hk]
   have e0:decide ((0:Int)<= -1)=false:=rfl
   simp only[e0,hk,decide_false,cond_false,h1]
structure GB(N:List ByteArray)(T:List Term):Prop where
 len:N.length=T.length
 sz:SzT T
theorem Ygl{T:List Term}(h:SzT T)(n:Nat):(T.getD n zM).2.2.2.size<=maxEl:=by
 by_cases hn:n<T.length
 ·exact h _ (Ybk hn)
 ·rw[YEd,YEc (by omega)];exact YEB _
theorem rTm{N:List ByteArray}{T:List Term}(g:GB N T)(t u:Term)(hN:N.length+1<=maxEl)(ht:t.2.2.2.size<=maxEl)(hu:u.2.2.2.size<=maxEl):
  ∃N' T',q128 loO N T t.1 t.2.1 t.2.2.1 t.2.2.2 u.1 u.2.1 u.2.2.1 u.2.2.2=some (N',T',(tmM (Yz2 N T) t.1 t u).isSome)/\GB N' T'/\N'.length<=N.length+1/\ ∀σ',tmM (Yz2 N T) t.1 t u=some σ'->Yz2 N' T'=σ':=by
 unfold q128 tmM
 by_cases h0:t.1=nul0
 ·refine⟨N,T,?_,g,by omega,?_⟩
  ·rw[decide_eq_true h0,cond_true,YCa t u ht hu,YzO,if_pos h0]
   by_cases h:t=u<;>simp[h]
  ·intro σ' h
   rw[if_pos h0]at h
   by_cases hc:t=u
   ·rw[if_pos hc]at h;injection h
   ·rw[if_neg hc]at h;cases h
 ·rw[if_neg h0,decide_eq_false h0,cond_false,YcR _ _ (by omega),YzO]
  rcases YcV N t.1 with⟨m,h1,h2,h3⟩| ⟨h1,h2⟩
  ·have e0:decide ((0:Int)<=(m:Int))=true:=by simp
   have eb:Yz2 N T t.1=some (T.getD m zM):=by unfold Yz2;rw[h1,e0];simp
   rw[h1,e0,cond_true,eb]
   have:=g.len
   refine⟨N,T,?_,g,by omega,?_⟩
   ·rw[chkT _ (by omega)]
    simp only[YEU]
    rw[YCa (T.getD m zM) u (Ygl g.sz m) hu,YzO]
    by_cases h:T.getD m zM=u
    ·rw[if_pos h,decide_eq_true h];rfl
    ·rw[if_neg h,decide_eq_false h];rfl
   ·intro σ' h
    simp only at h
    by_cases hc:T.getD m zM=u
    ·rw[if_pos hc]at h;injection h
    ·rw[if_neg hc]at h;cases h
  ·have e0:decide ((0:Int)<= -1)=false:=rfl
   have eb:Yz2 N T t.1=none:=by unfold Yz2;rw[h1];rfl
   rw[h1,e0,cond_false,eb]
   have:=g.len
   refine⟨N++[t.1],T++[u],?_,⟨by simp[g.len],fun v hv=> ?_⟩,by simp,?_⟩
   ·rw[chkT _ (by omega),chkT _ (by simpa using hN),chkT _ (by omega),chkT _ (by simp;omega)]
    rfl
   ·rcases YEk.1 hv with h|h
    ·exact g.sz v h
    ·rw[YD7]at h;rw[h];exact hu
   ·intro σ' h
    injection h with h;subst h
    exact YnJ g.len u (by omega)
theorem YzB(a0:ByteArray)(ts us:List Term)(v0:List ByteArray)(v1:List Term)(h:ts.length=us.length)(hm:us.length<=maxEl)(ht:SzT ts)(hu:SzT us): ∀(k n:Nat),n+k=us.length-> ∀(N:List ByteArray) (T:List Term),GB N T->N.length+k<=maxEl->
  ∃N' T',YcO loO (us,true,(n:Int),N,T,a0,ts,v0,v1)=some ((tsM (Yz2 N T) ((pT ts).drop n) (us.drop n)).isSome,N',T',v0,v1)/\GB N' T'/\N'.length<=N.length+k/\ ∀σ',tsM (Yz2 N T) ((pT ts).drop n) (us.drop n)=some σ'->Yz2 N' T'=σ':=by
 have hM:maxEl=1073741824:=rfl
 intro k
 induction k with
 |zero=>
  intro n hn N T g hN
  have e:n=us.length:=by omega
  subst e
  refine⟨N,T,?_,g,by omega,?_⟩
  ·show Yz7 _ _=_
   rw[Yax]
   simp only[YcN,nlI,cond_false]
   rw[List.drop_of_length_le (l:=pT ts) (by rw[YD6];omega)]
   rfl
  ·rw[List.drop_of_length_le (l:=pT ts) (by rw[YD6];omega)]
   intro σ' h;injection h
 |succ k ih=>
  intro n hn N T g hN
  have hlt:n<us.length:=by omega
  have e1:(pT ts).drop n=((ts.getD n zM).1,ts.getD n zM)::(pT ts).drop (n+1):=by
   rw[Yb5 (d:=(zM.1,zM)) (by rw[YD6];omega)]
   have:n<ts.length:=by omega
   simp[YEd,this]
  obtain⟨N1,T1,r1,r2,r3,r4⟩:=rTm g (ts.getD n zM) (us.getD n zM) (by omega) (Ygl ht n) (Ygl hu n)
  have hs:YcO loO (us,true,(n:Int),N,T,a0,ts,v0,v1)=YcO loO (us,(tmM (Yz2 N T) (ts.getD n zM).1 (ts.getD n zM) (us.getD n zM)).isSome,((n+1:Nat):Int),N1,T1,a0,ts,v0,v1):=by
   show Yz7 _ _=Yz7 _ _
   rw[Yax]
   simp only[YcN,ltI hlt,cond_true,YEU,inc hlt hm]
   rw[chkT _ (by omega),chkT _ (by omega),r1,YzO]
  rw[e1,Yb5 (l:=us) (d:=zM) hlt,hs]
  simp only[tsM]
  cases hx:tmM (Yz2 N T) (ts.getD n zM).1 (ts.getD n zM) (us.getD n zM)with
  |none=>
   refine⟨N1,T1,?_,r2,by omega,fun σ' h=>by cases h⟩
   show Yz7 _ _=_
   rw[Yax]
   simp only[YcN,Option.isSome_none,cond_false]
   cases decide (((n+1:Nat):Int)< (us.length:Int))<;>rfl
  |some σ1=>
   have e:=r4 σ1 hx
   obtain⟨N',T',q1,q2,q3,q4⟩:=ih (n+1) (by omega) N1 T1 r2 (by omega)
   rw[e]at q1 q4
   exact⟨N',T',q1,q2,by omega,q4⟩
def tsL(σ:Asg Term)(ts us:List Term):Option (Asg Term):=bif !decide ((ts.length:Int)=(us.length:Int))then none else tsM σ (pT ts) us
theorem rAt{N:List ByteArray}{T:List Term}(g:GB N T)(a0:ByteArray)(ts us:List Term)(ht:SzT ts)(hu:SzT us)(hN:N.length+ts.length<=maxEl):
  ∃N' T',q129 loO N T a0 ts us=some (N',T',(tsL (Yz2 N T) ts us).isSome)/\GB N' T'/\N'.length<=N.length+ts.length/\ ∀σ',tsL (Yz2 N T) ts us=some σ'->Yz2 N' T'=σ':=by
 unfold q129 tsL
 by_cases h:(ts.length:Int)=(us.length:Int)
 ·simp only[h,decide_true,YEP,cond_false]
  obtain⟨N',T',q1,q2,q3,q4⟩:=YzB a0 ts us [] [] (by omega) (by omega) ht hu us.length 0 (by omega) N T g (by omega)
  rw[YEg,YEg,show((0:Nat):Int)=0 from rfl]at q1
  rw[YEg,YEg]at q4
  exact⟨N',T',by rw[q1];rfl,q2,by omega,q4⟩
 ·have e:decide ((ts.length:Int)=(us.length:Int))=false:=decide_eq_false h
  simp only[e,YES,cond_true]
  exact⟨N,T,rfl,g,by omega,fun σ' h=>by cases h⟩
abbrev YRec:=List ByteArray×List Term×List Atom×List Atom->Option (List ByteArray×List Term×Bool)
theorem YzC(rec:YRec)(a:Atom)(r tg:List Atom)(htg:tg.length<=maxEl)(ha:SzT a.2)(hb: ∀b∈tg,SzT b.2)(v0:List ByteArray)(v1:List Term){N:List ByteArray}{T:List Term}(g:GB N T)(hN:N.length+(a.2.length+sumT r)<=maxEl)
  (hrec: ∀N T,GB N T->N.length+sumT r<=maxEl-> ∃N' T',rec (N,T,r,tg)=some (N',T',(exM r (Yz2 N T) tg).isSome)):
  ∀(k n:Nat),n+k=tg.length-> ∃N' T',YcP loO rec (a::r,tg,(n:Int),N,T,v0,v1)=some (
   match(tg.drop n).findSome? (fun b=>(atM (Yz2 N T) a b).bind fun σ'=>exM r σ' tg)with
   |some σ'=>.inl (true,N',T')
   |none=>.inr (N,T,v0,v1)):=by
 have hM:maxEl=1073741824:=rfl
 intro k
 induction k with
 |zero=>
  intro n hn
  have e:n=tg.length:=by omega
  subst e
  refine⟨N,T,?_⟩
  rw[List.drop_of_length_le (by omega)]
  show Yz7 _ _=_
  rw[Yax]
  simp only[Ybi,nlI,cond_false]
  rfl
 |succ k ih=>
  intro n hn
  have hlt:n<tg.length:=by omega
  obtain⟨N2,T2,ih⟩:=ih (n+1) (by omega)
  rw[Yb5 (d:=zA) hlt,List.findSome?_cons]
  have nx:YE1 .i64 ((n:Int)+1)=((n+1:Nat):Int):=inc hlt htg
  have step:YcP loO rec (a::r,tg,(n:Int),N,T,v0,v1)=(match Ybi loO rec (a::r,tg,(n:Int),N,T,v0,v1)with|some (.inl s)=>YcP loO rec s|some (.inr x)=>some x|none=>none):=by
   show Yz7 _ _=_
   rw[Yax]
   rcases Ybi loO rec (a::r,tg,(n:Int),N,T,v0,v1)with _| (_|_)<;>rfl
  have e0:(a::r).getD 0 (YE0 #[],[])=a:=rfl
  have e1:((a::r).take (a::r).length).drop 1=r:=by simp
  have es:Ybi loO rec (a::r,tg,(n:Int),N,T,v0,v1)=bif !decide (a.1=(tg.getD n zA).1)then some (.inl (a::r,tg,((n+1:Nat):Int),N,T,v0,v1))else YEG (q129 loO N T a.1 a.2 (tg.getD n zA).2) fun y569=>bif y569.2.2 then(YEG (rec (y569.1,y569.2.1,r,tg)) fun y570=>bif y570.2.2 then(some (.inr (.inl (true,y570.1,y570.2.1))))else(some (.inl (a::r,tg,((n+1:Nat):Int),N,T,v0,v1))))else(some (.inl (a::r,tg,((n+1:Nat):Int),N,T,v0,v1))):=by
   simp only[Ybi,ltI hlt,cond_true,YEU,e0,e1,nx]
   have hc:decide ((tg.getD n zA).1=a.1)=decide (a.1=(tg.getD n zA).1):=by rw[decide_eq_decide];exact eq_comm
   rw[chkT _ (by omega),chkT _ (by simp),hc]
   congr 1
   rw[chkT _ (by simp),chkT _ (by omega)]
   congr 1
   funext y569
   congr 1
   rw[chkT _ (by simp;omega)]
  rw[step,es]
  unfold atM
  by_cases hn':a.1=(tg.getD n zA).1
  ·rw[decide_eq_true hn']
   simp only[YEP,cond_false]
   obtain⟨N1,T1,r1,r2,r3,r4⟩:=rAt g a.1 a.2 (tg.getD n zA).2 ha (hb _ (Ybk hlt)) (by omega)
   have ei:(bif !decide ((a.2.length:Int)=((tg.getD n zA).2.length:Int))then none else tsM (Yz2 N T) (pT a.2) (tg.getD n zA).2)=tsL (Yz2 N T) a.2 (tg.getD n zA).2:=rfl
   rw[ei,r1,YzO]
   cases hx:tsL (Yz2 N T) a.2 (tg.getD n zA).2 with
   |none=>
    simp only[Option.isSome_none,cond_false,YEM]
    exact⟨N2,T2,ih⟩
   |some σ1=>
    simp only[Option.isSome_some,cond_true,YEJ]
    obtain⟨N3,T3,q⟩:=hrec N1 T1 r2 (by omega)
    rw[q,YzO,r4 σ1 hx]
    cases exM r σ1 tg with
    |none=>exact⟨N2,T2,ih⟩
    |some σ2=>exact⟨N3,T3,rfl⟩
  ·rw[decide_eq_false hn']
   simp only[YES,cond_true,YEM]
   exact⟨N2,T2,ih⟩
theorem YzD(tg:List Atom)(htg:tg.length<=maxEl)(hb: ∀b∈tg,SzT b.2)(j:Nat): ∀(rest:List Atom),(∀a∈rest,SzT a.2)-> ∀(N:List ByteArray) (T:List Term),GB N T->N.length+sumT rest<=maxEl->
  ∃N' T',YaW loO (rest.length+1+j) (N,T,rest,tg)=some (N',T',(exM rest (Yz2 N T) tg).isSome):=by
 intro rest
 induction rest with
 |nil=>
  intro _ N T g _
  refine⟨N,T,?_⟩
  have e:([]:List Atom).length+1+j=j+1:=by simp;omega
  rw[e];rfl
 |cons a r ih=>
  intro ha N T g hN
  have e:(a::r).length+1+j=(r.length+1+j)+1:=by simp;omega
  have es:sumT (a::r)=a.2.length+sumT r:=rfl
  rw[e]
  obtain⟨N',T',k2⟩:=YzC (YaW loO (r.length+1+j)) a r tg htg (ha a (YD0 ..)) hb [] [] g (by omega) (fun N T g hN=>ih (fun b hb=>ha b (YD5 _ hb)) N T g hN) tg.length 0 (by omega)
  rw[YEg,show((0:Nat):Int)=0 from rfl]at k2
  show∃N' T',Yb2 loO (YaW loO (r.length+1+j)) N T (a::r) tg=_
  have e0:decide (((a::r).length:Int)=0)=false:=by simp;omega
  unfold Yb2
  rw[e0,cond_false,k2,YzO]
  simp only[exM]
  cases tg.findSome? (fun b=>(atM (Yz2 N T) a b).bind fun σ'=>exM r σ' tg)with
  |some σ'=>exact⟨N',T',rfl⟩
  |none=>exact⟨N,T,rfl⟩
theorem YnK: ∀n x y,YaW loO n x=some y->YaW loO (n+1) x=some y
 |0,_,_,h=>by cases h
 |n+1,x,y,h=>by
  have ih:=YnK n
  have h':Yb2 loO (YaW loO n) x.1 x.2.1 x.2.2.1 x.2.2.2=some y:=h
  show Yb2 loO (YaW loO (n+1)) x.1 x.2.1 x.2.2.1 x.2.2.2=some y
  unfold Yb2 at h'⊢
  refine YBq h' (fun h=>h) fun h=>YCt h (fun z hz=> ?_) fun _ h=>h
  refine YnE (fun s q hs=> ?_) hz
  obtain⟨s1,s2,s3,s4,s5,s6,s7⟩:=s
  simp only[Ybi]at hs⊢
  exact YBq hs (fun h=>chkm h fun h=>chkm h fun h=>YBq h (fun h=>h) fun h=>chkm h fun h=>chkm h fun h=>YDA h fun _ h=>YBq h (fun h=>chkm h fun h=>YCt h (ih _) fun _ h=>h) fun h=>h) fun h=>h
theorem rExt(rest tg:List Atom)(htg:tg.length<=maxEl)(ha: ∀a∈rest,SzT a.2)(hb: ∀b∈tg,SzT b.2){N:List ByteArray}{T:List Term}(g:GB N T)(hN:N.length+sumT rest<=maxEl):
  ∃N' T',q141 loO N T rest tg=some (N',T',(exM rest (Yz2 N T) tg).isSome):=by
 obtain⟨N',T',h⟩:=YzD tg htg hb 0 rest ha N T g hN
 exact⟨N',T',Yfs YnK (n:=0) (by rw[YEx];exact h)⟩
end
end Go.Abs.G47
namespace Go.Abs.G47
open Go Go.Abs
noncomputable section
theorem YDP(l:List Atom)(h:l.length<=maxEl)(h2:sumT l<=maxEl):q84 loO l=some (YzU [] l):=by
 have inner: ∀(i:Nat) (out:List ByteArray),i<l.length->out.length<=sumT (l.take i)->YfV loO (l,(l.length:Int),(i:Int),(l.getD i zA).2,((l.getD i zA).2.length:Int),0,out)=some (l,(l.length:Int),(i:Int),YAh out (l.getD i zA).2):=by
  intro i out hi ho
  have hb:=YbF hi
  refine YaP (st:=fun n=>(l,(l.length:Int),(i:Int),(l.getD i zA).2,((l.getD i zA).2.length:Int),(n:Int),YAh out ((l.getD i zA).2.take n))) (N:=(l.getD i zA).2.length) rfl ?_ (fun n hn=> ?_)
  ·simp only[Yd1,nlI,cond_false,YD8]
  ·have ht:=Yeh ((l.getD i zA).2.take n) out
   rw[List.length_take,Nat.min_eq_left (by omega)]at ht
   simp only[Yd1,YEU,ltI hn,cond_true,inc hn (show(l.getD i zA).2.length<=maxEl by omega)]
   rw[chkT _ (by omega),Ynq _ _ (by omega),YzO]
   have e:YAh out ((l.getD i zA).2.take (n+1))=addV (YAh out ((l.getD i zA).2.take n)) ((l.getD i zA).2.getD n zM).1:=YcS (fun o (t:Term)=>addV o t.1) out (d:=zM) hn
   rw[e]
   rw[chkT _ (by rw[List.length_singleton];omega)]
   unfold addV
   rw[Ygi,YcT]
   cases decide (((l.getD i zA).2.getD n zM).1=nul0)<;>cases inL (YAh out ((l.getD i zA).2.take n)) ((l.getD i zA).2.getD n zM).1<;>rfl
 have outer:YfW loO (l,(l.length:Int),0,[])=some (YzU [] l):=by
  refine YaP (st:=fun n=>(l,(l.length:Int),(n:Int),YzU [] (l.take n))) (N:=l.length) rfl ?_ (fun n hn=> ?_)
  ·simp only[Yd2,nlI,cond_false,YD8]
  ·have hl:=Yb4 (l.take n) []
   simp only[YEi,YEx]at hl
   simp only[Yd2,ltI hn,cond_true,YEU]
   rw[chkT _ (by omega),inner n _ hn hl,YzO]
   simp only[inc hn h]
   have e:YzU [] (l.take (n+1))=YAh (YzU [] (l.take n)) (l.getD n zA).2:=YcS (fun o (a:Atom)=>YAh o a.2) [] (d:=zA) hn
   rw[e]
 unfold q84
 rw[outer,YzO]
def vT(v:ByteArray):Term:=(v,0,0,nul0)
def hdS(hd tg:List ByteArray):Nat->Int×Ent Term
 |0=>(0,[])
 |n+1=>(mck eqS (hdS hd tg n).1 (hd.getD n nul0) (hdS hd tg n).2,mpt eqS (hdS hd tg n).1 (hd.getD n nul0) (vT (tg.getD n nul0)) (hdS hd tg n).2)
def hdA(hd tg:List ByteArray):Nat->Asg Term
 |0=>fun _=>none
 |n+1=>upd (hdA hd tg n) (hd.getD n nul0) (vT (tg.getD n nul0))
theorem YnL(hd tg:List ByteArray): ∀n,KN (hdS hd tg n).2/\lk (hdS hd tg n).2=hdA hd tg n
 |0=>⟨List.nodup_nil,by funext k;rfl⟩
 |n+1=>by
  obtain⟨h1,h2⟩:=YnL hd tg n
  refine⟨Ynx h1,?_⟩
  show lk (mpt eqS _ _ _ _)=upd _ _ _
  rw[Ygj,h2]
def hmM(fh:List ByteArray)(fa:List Atom)(th:List ByteArray)(ta:List Atom):Option (Asg Term):=
 bif !wfB fh fa then none else bif !wfB th ta then none else bif !decide ((fh.length:Int)=(th.length:Int))then none else exM fa (hdA fh th fh.length) ta
def imgs(fa:List Atom)(σ:Asg Term):List Term:=(YzU [] fa).map fun v=>(σ v).getD zM
theorem YnM{hd:List ByteArray}{l:List Atom}(h:wfB hd l=true):l.length<=6:=by
 unfold wfB at h
 by_cases h1:(l.length:Int)<1
 ·simp[h1]at h
 ·by_cases h6:(6:Int)< (l.length:Int)
  ·simp[h1,h6]at h
  ·omega
theorem tHom(fh:List ByteArray)(fa:List Atom)(th:List ByteArray)(ta:List Atom)(h1:fh.length<=maxEl)(h2:sumT fa<=maxEl)(h3:th.length<=maxEl)(h4:sumT ta<=maxEl):
  q85 loO fh fa th ta=some (match hmM fh fa th ta with|some σ=>(imgs fa σ,true)|none=>([],false)):=by
 have hm:maxEl=1073741824:=rfl
 unfold q85 hmM
 rw[tWf fh fa h1 h2,YzO]
 cases hw:wfB fh fa with
 |false=>rfl
 |true=>
  rw[tWf th ta h3 h4,YzO]
  cases hw':wfB th ta with
  |false=>rfl
  |true=>
   simp only[YEP,cond_false]
   by_cases hl:(fh.length:Int)=(th.length:Int)
   ·simp only[hl,decide_true,YEP,cond_false]
    have e14:YfX loO (fh,(fh.length:Int),0,fh,fa,th,ta,0,[],false,false)=some (fh,fa,th,ta,(hdS fh th fh.length).1,(hdS fh th fh.length).2,false,false):=by
     refine YaP (st:=fun n=>(fh,(fh.length:Int),(n:Int),fh,fa,th,ta,(hdS fh th n).1,(hdS fh th n).2,false,false)) (N:=fh.length) rfl ?_ (fun n hn=> ?_)
     ·simp only[Yd3,nlI,cond_false]
     ·simp only[Yd3,ltI hn,cond_true,inc hn h1,YEU]
      rw[chkT _ (by omega),chkT _ (by omega)]
      rfl
    rw[hl]at e14
    rw[e14,YzO]
    simp only
    obtain⟨k1,k2⟩:=YnL fh th fh.length
    have hf:=YnM hw
    have hal: ∀a∈fa,a.2.length<=maxEl:=fun a ha=>by
     obtain⟨m,hm',e⟩:=YEq.1 ha
     have:=YbF (l:=fa) hm'
     rw[YEd,YDT hm',YEK,e]at this
     omega
    obtain⟨clk',l',r1,r2,r3⟩:=tExt fa ta (by have:=YnM hw';omega) hal false false (hdS fh th fh.length).1 (hdS fh th fh.length).2 k1
    rw[r1,YzO]
    rw[k2]at r3
    rw[k2]
    cases hx:exM fa (hdA fh th fh.length) ta with
    |none=>rfl
    |some σ=>
     rw[hx]at r3
     simp only[YEK]at r3
     simp only[Option.isSome_some,YEP,cond_false]
     rw[YDP fa (by omega) h2,YzO]
     have hvl:=Yb4 fa []
     simp only[YEi,YEx]at hvl
     have e3:YfY loO (YzU [] fa,((YzU [] fa).length:Int),0,clk',l',false,false,[])=some (imgs fa σ):=by
      refine YaP (st:=fun n=>(YzU [] fa,((YzU [] fa).length:Int),(n:Int),clk',l',false,false,((YzU [] fa).take n).map fun v=>(σ v).getD zM)) (N:=(YzU [] fa).length) rfl ?_ (fun n hn=> ?_)
      ·simp only[Yd4,nlI,cond_false,YD8]
       rfl
      ·simp only[Yd4,ltI hn,cond_true,inc hn (show(YzU [] fa).length<=maxEl by omega),YEU]
       rw[chkT _ (by omega),chkT _ (by simp;omega),Ybl (d:=nul0) hn,List.map_append]
       have e:mgt eqS ((YzU [] fa).getD n nul0) l' zM=(σ ((YzU [] fa).getD n nul0)).getD zM:=by
        rw[<-r3]
        unfold mgt lk
        cases mfd eqS ((YzU [] fa).getD n nul0) l'<;>rfl
       rw[e]
       rfl
     rw[e3,YzO]
   ·simp only[hl,decide_false,YES,cond_true]
def atOk(τ:Asg Term)(a b:Atom):Prop:=a.1=b.1/\a.2.length=b.2.length/\Img τ (pT a.2) b.2
theorem YzE{σ σ':Asg Term}{a b:Atom}(h:atM σ a b=some σ'):leA σ σ'/\atOk σ' a b:=by
 unfold atM at h
 by_cases h1:a.1=b.1
 ·by_cases h2:(a.2.length:Int)=(b.2.length:Int)
  ·simp only[h1,h2,decide_true,YEP,cond_false]at h
   obtain⟨k1,k2⟩:=YnC h
   exact⟨k1,h1,by omega,k2⟩
  ·simp[h1,h2]at h
 ·simp[h1]at h
theorem YnN: ∀{rest:List Atom} {σ σ':Asg Term} {tg:List Atom},exM rest σ tg=some σ'->leA σ σ'/\ ∀a∈rest,∃b∈tg,atOk σ' a b
 | [],σ,σ',tg,h=>by injection h with h;subst h;exact⟨leA.refl _,fun a ha=>nomatch ha⟩
 |a::r,σ,σ',tg,h=>by
  simp only[exM]at h
  obtain⟨b,hb,h⟩:=List.exists_of_findSome?_eq_some h
  cases h1:atM σ a b with
  |none=>rw[h1]at h;cases h
  |some σ1=>
   rw[h1]at h
   obtain⟨k1,k2,k3,k4⟩:=YzE h1
   obtain⟨i1,i2⟩:=YnN (show exM r σ1 tg=some σ' from h)
   refine⟨k1.trans i1,fun c hc=> ?_⟩
   rcases YDY.1 hc with rfl|hc
   ·exact⟨b,hb,k2,k3,k4.mono i1⟩
   ·exact i2 c hc
end
end Go.Abs.G47
namespace Go.Abs.G47
open Go Go.Abs
noncomputable section
theorem YzF{v:Int×Int×ByteArray}(h:vB v=true):v.2.2.size<=200:=by
 obtain⟨a,b,c⟩:=v
 unfold vB q6 at h
 by_cases h0:a=0<;>by_cases h1:a=1<;>by_cases h2:a=2<;>by_cases h3:a=3<;>by_cases h4:b=0<;>by_cases h5:1<=b<;>simp[h0,h1,h2,h3,h4,h5]at h<;>first| (subst h;exact YEB _)| (simp only;omega)|omega
theorem YzG{t:Term}(h:YAr t=true):t.2.2.2.size<=200:=by
 unfold YAr at h
 by_cases h0:t.1=nul0
 ·simp only[h0,decide_true,YEP,cond_false]at h
  exact YzF h
 ·simp only[h0,decide_false,YES,cond_true,YEO,decide_eq_true_eq]at h
  rw[h.2.2.2.1];exact YEB _
theorem YzH{l:List Term}(h:badT l=false): ∀t∈l,YAr t=true:=fun t ht=>by
 unfold badT at h
 rw[YcU (fun t=> !YAr t) l zM]at h
 have:=(List.any_eq_false.1 h) t ht
 simpa using this
structure Wf(hd:List ByteArray)(l:List Atom):Prop where
 len:l.length<=6
 ne:l≠ []
 nm: ∀a∈l,YAz a.1=true
 tm: ∀a∈l,∀t∈a.2,YAr t=true
 hd: ∀n,n<hd.length->hd.getD n nul0∈YzU [] l/\hd.getD n nul0∉hd.take n
theorem wf_iff{hd:List ByteArray}{l:List Atom}:wfB hd l=true↔Wf hd l:=by
 unfold wfB YBH
 rw[show(fun m=> !YAz (l.getD m zA).1||badT (l.getD m zA).2)=fun m=>(fun a:Atom=> !YAz a.1||badT a.2) (l.getD m zA)from rfl,YcU (fun a:Atom=> !YAz a.1||badT a.2) l zA]
 have ebad: ∀t:List Term,badT t=false↔ ∀x∈t,YAr x=true:=fun t=>⟨YzH,fun h=>by
  unfold badT;rw[YcU (fun t=> !YAr t) t zM,List.any_eq_false];intro x hx;simp[h x hx]⟩
 have eh:(!anyN (fun m=> !fHd hd l m) hd.length 0)=true↔ ∀n,n<hd.length->hd.getD n nul0∈YzU [] l/\hd.getD n nul0∉hd.take n:=by
  rw[Bool.not_eq_true',<-Bool.not_eq_true,anyN_iff]
  constructor
  ·intro h n hn
   have:fHd hd l n=true:=by
    cases hf:fHd hd l n with
    |true=>rfl
    |false=>exact absurd ⟨n,YEB _,by omega,by rw[hf];rfl⟩ h
   unfold fHd at this
   rw[YEO,inL_iff,Bool.not_eq_true',<-Bool.not_eq_true,inL_iff]at this
   exact this
  ·rintro h ⟨m,_,h2,h3⟩
   have:=h m (by omega)
   unfold fHd at h3
   rw[inL_iff.2 this.1]at h3
   cases hi:inL (hd.take m) (hd.getD m nul0)with
   |true=>exact this.2 (inL_iff.1 hi)
   |false=>rw[hi]at h3;cases h3
 by_cases h1:(l.length:Int)<1
 ·simp only[h1,decide_true,cond_true]
  refine⟨fun h=>(by cases h),fun h=> ?_⟩
  have:l=[]:=YD2.1 (by omega)
  exact absurd this h.ne
 ·by_cases h6:(6:Int)< (l.length:Int)
  ·simp only[h1,h6,decide_false,decide_true,cond_true,cond_false]
   exact⟨fun h=>(by cases h),fun h=>by have:=h.len;omega⟩
  ·simp only[h1,h6,decide_false,cond_false]
   cases ha:l.any (fun a:Atom=> !YAz a.1||badT a.2)with
   |true=>
    simp only[cond_true]
    refine⟨fun h=>(by cases h),fun h=> ?_⟩
    rw[List.any_eq_true]at ha
    obtain⟨a,h2,h3⟩:=ha
    rw[h.nm a h2,(ebad a.2).2 (h.tm a h2)]at h3;cases h3
   |false=>
    simp only[cond_false]
    rw[eh]
    rw[List.any_eq_false]at ha
    constructor
    ·intro h
     refine⟨by omega,fun e=>by subst e;simp at h1,fun a hx=> ?_,fun a hx=> ?_,h⟩
     ·have:=ha a hx;simp only[YEQ,not_or,Bool.not_eq_true',Bool.not_eq_false]at this;exact this.1
     ·have:=ha a hx;simp only[YEQ,not_or,Bool.not_eq_true]at this;exact(ebad _).1 this.2
    ·intro h;exact h.hd
theorem Wf.sz{hd:List ByteArray}{l:List Atom}(h:Wf hd l): ∀a∈l,SzT a.2:=fun a ha t ht=>by
 have:=YzG (h.tm a ha t ht)
 have:maxEl=1073741824:=rfl
 omega
theorem YzI(l:List ByteArray):SzT (l.map vT):=fun t ht=>by
 obtain⟨v,_,rfl⟩:=YEa.1 ht;exact YEB _
theorem YnO{fh th:List ByteArray}(hl:fh.length=th.length)(hd: ∀n,n<fh.length->fh.getD n nul0∉fh.take n): ∀n,n<=fh.length->Yz2 (fh.take n) ((th.take n).map vT)=hdA fh th n
 |0,_=>by funext k;unfold Yz2 hdA;rfl
 |n+1,h=>by
  rw[Ybl (d:=nul0) (by omega),Ybl (l:=th) (d:=nul0) (by omega),List.map_append]
  rw[YDU,YDW,YnJ (by simp;omega),YnO hl hd n (by omega)]
  ·rfl
  ·rcases YcV (fh.take n) (fh.getD n nul0)with⟨m,h1,h2,h3⟩| ⟨h1,h2⟩
   ·exact absurd (h3▸Ybk h2) (hd n (by omega))
   ·omega
theorem YnP{fh th:List ByteArray}(hd: ∀n,n<fh.length->fh.getD n nul0∉fh.take n){i:Nat}: ∀n,n<=fh.length->i<n->hdA fh th n (fh.getD i nul0)=some (vT (th.getD i nul0))
 |0,_,h=>by omega
 |n+1,h,hi=>by
  unfold hdA upd
  by_cases e:i=n
  ·subst e;rw[if_pos rfl]
  ·rw[if_neg,YnP hd n (by omega) (by omega)]
   intro e'
   refine hd n (by omega) (e'▸ ?_)
   rw[List.mem_take_iff_getElem]
   exact⟨i,by omega,by rw[YEd,YDT (by omega)];rfl⟩
theorem YDB(fh:List ByteArray)(fa:List Atom)(th:List ByteArray)(ta:List Atom)(h1:fh.length<=maxEl):q140 loO fh fa th ta=some (bif !decide ((fh.length:Int)=(th.length:Int))then([],[],false)else(fh,th.map vT,true)):=by
 unfold q140
 by_cases hl:(fh.length:Int)=(th.length:Int)
 ·simp only[hl,decide_true,YEP,cond_false]
  have e3:Yf8 loO (0,fh,fa,th,ta,[],[],[],[])=some ([],[],fh,th.map vT):=by
   refine YaP (st:=fun n=>((n:Int),fh,fa,th,ta,[],[],fh.take n,(th.take n).map vT)) (N:=fh.length) rfl ?_ (fun n hn=> ?_)
   ·simp only[Yed,nlI,cond_false,YD8]
    rw[List.take_of_length_le (l:=th) (by omega)]
   ·simp only[Yed,ltI hn,cond_true,inc hn h1,YEU]
    rw[chkT _ (by omega),chkT _ (by simp;omega),chkT _ (by omega),chkT _ (by simp;omega),Ybl (d:=nul0) hn,Ybl (l:=th) (d:=nul0) (by omega),List.map_append]
    rfl
  rw[e3,YzO]
 ·simp only[hl,decide_false,YES,cond_true]
theorem rEx(fh:List ByteArray)(fa:List Atom)(th:List ByteArray)(ta:List Atom)(h1:fh.length<=maxEl)(h2:fh.length+sumT fa<=maxEl)(h3:th.length<=maxEl)(h4:sumT ta<=maxEl):q142 loO fh fa th ta=some (hmM fh fa th ta).isSome:=by
 have hm:maxEl=1073741824:=rfl
 unfold q142 hmM
 rw[rWf fh fa h1 (by omega),YzO]
 cases hw:wfB fh fa with
 |false=>rfl
 |true=>
  rw[rWf th ta h3 h4,YzO]
  cases hw':wfB th ta with
  |false=>rfl
  |true=>
   simp only[YEP,cond_false]
   rw[YDB fh fa th ta h1,YzO]
   by_cases hl:(fh.length:Int)=(th.length:Int)
   ·simp only[hl,decide_true,YEP,cond_false]
    have w:=wf_iff.1 hw
    have w':=wf_iff.1 hw'
    have hl':fh.length=th.length:=by omega
    obtain⟨N,T,e⟩:=rExt (N:=fh) (T:=th.map vT) fa ta (by have:=w'.len;omega) w.sz w'.sz ⟨by simp[hl'],YzI th⟩ h2
    rw[e,YzO]
    have eb:=YnO hl' (fun n hn=>(w.hd n hn).2) fh.length (YEt _)
    rw[YD8,hl',YD8,<-hl']at eb
    rw[eb]
   ·simp only[hl,decide_false,YES,cond_true]
    rfl
theorem YzJ{N:List ByteArray}{f:ByteArray->Term}(k:ByteArray):Yz2 N (N.map f) k=bif inL N k then some (f k)else none:=by
 unfold Yz2
 rcases YcV N k with⟨m,h1,h2,h3⟩| ⟨h1,h2⟩
 ·have e0:decide ((0:Int)<=(m:Int))=true:=by simp
  have e1:inL N k=true:=inL_iff.2 (h3▸Ybk h2)
  rw[h1,e0,e1,cond_true,cond_true,YEU]
  have e2:N[m]?=some k:=by
   rw[YEd,YDT h2]at h3
   rw[YDT h2];exact congrArg some h3
  rw[YEd,YDS,e2];rfl
 ·have e1:inL N k=false:=by
   cases h:inL N k with
   |false=>rfl
   |true=>exact absurd (inL_iff.1 h) h2
  rw[h1,e1];rfl
theorem YnQ{τ:Asg Term}: ∀{ps:List (ByteArray×Term)} {us:List Term},Img τ ps us-> ∀p∈ps,p.1≠nul0-> ∃u∈us,τ p.1=some u
 | [],_,_,p,hp,_=>nomatch hp
 |_::_,[],h,_,_,_=>h.elim
 |q::ps,u::us,h,p,hp,h0=>by
  rcases YDY.1 hp with rfl|hp
  ·have:=h.1;rw[if_neg h0]at this;exact⟨u,YD0 ..,this⟩
  ·obtain⟨v,hv,e⟩:=YnQ h.2 p hp h0
   exact⟨v,YD5 _ hv,e⟩
theorem YnR{σ τ:Asg Term}: ∀{ps:List (ByteArray×Term)} {us:List Term},(∀p∈ps,p.1≠nul0->σ p.1=τ p.1)->Img σ ps us->Img τ ps us
 | [],_,_,_=>trivial
 |_::_,[],_,h=>h.elim
 |q::ps,u::us,hc,h=>by
  refine⟨?_,YnR (fun p hp=>hc p (YD5 _ hp)) h.2⟩
  have h1:=h.1
  by_cases h0:q.1=nul0
  ·rw[if_pos h0]at h1⊢;exact h1
  ·rw[if_neg h0]at h1⊢;rw[<-hc q (YD0 ..) h0];exact h1
theorem YzK{l:List Atom}{a:Atom}{t:Term}(ha:a∈l)(ht:t∈a.2)(h0:t.1≠nul0):t.1∈YzU [] l:=
 (Yei l [] t.1).2 (.inr ⟨h0,a,ha,t,ht,rfl⟩)
theorem YnS{fa ta:List Atom}{σ:Asg Term}(h: ∀a∈fa,∃b∈ta,atOk σ a b){k:ByteArray}(hk:k∈YzU [] fa): ∃b∈ta,∃u∈b.2,σ k=some u:=by
 rcases(Yei fa [] k).1 hk with hk| ⟨h0,a,ha,t,ht,rfl⟩
 ·cases hk
 ·obtain⟨b,hb,_,_,h3⟩:=h a ha
  obtain⟨u,hu,e⟩:=YnQ h3 (t.1,t) (List.mem_map_of_mem ht) h0
  exact⟨b,hb,u,hu,e⟩
theorem YnT{fa ta:List Atom}{σ:Asg Term}(h: ∀a∈fa,∃b∈ta,atOk σ a b){k:ByteArray}(hk:k∈YzU [] fa):Yz2 (YzU [] fa) (imgs fa σ) k=σ k:=by
 unfold imgs
 rw[YzJ,inL_iff.2 hk,cond_true]
 obtain⟨b,_,u,_,e⟩:=YnS h hk
 rw[e];rfl
theorem rGet{N:List ByteArray}{T:List Term}(hl:N.length=T.length)(k:ByteArray)(hN:N.length<=maxEl):q131 loO N T k=some ((Yz2 N T k).getD zM):=by
 unfold q131 Yz2
 rw[YcR _ _ hN,YzO]
 rcases YcV N k with⟨m,h1,h2,h3⟩| ⟨h1,h2⟩
 ·have e0:decide ((0:Int)<=(m:Int))=true:=by simp
  have e1:decide ((m:Int)<0)=false:=by simp
  rw[h1,e0,e1,cond_false,cond_true,chkT _ (by omega)]
  rfl
 ·rw[h1];rfl
theorem rIs(fh:List ByteArray)(fa:List Atom)(th:List ByteArray)(ta:List Atom)(h1:fh.length<=maxEl)(h2:2*sumT fa<=maxEl){σ:Asg Term}(hh:hmM fh fa th ta=some σ):q143 loO fh fa th ta (imgs fa σ)=some true:=by
 have hm:maxEl=1073741824:=rfl
 unfold hmM at hh
 cases hw:wfB fh fa with
 |false=>rw[hw]at hh;cases hh
 |true=>
  cases hw':wfB th ta with
  |false=>rw[hw,hw']at hh;cases hh
  |true=>
   rw[hw,hw']at hh
   by_cases hl:(fh.length:Int)=(th.length:Int)
   ·simp only[hl,decide_true,YEP,cond_false]at hh
    have w:=wf_iff.1 hw
    have w':=wf_iff.1 hw'
    obtain⟨g1,g2⟩:=YnN hh
    have hvl:=Yb4 fa []
    simp only[YEi,YEx]at hvl
    have il:(YzU [] fa).length=(imgs fa σ).length:=by unfold imgs;simp
    have gb:GB (YzU [] fa) (imgs fa σ):=by
     refine⟨il,fun t ht=> ?_⟩
     obtain⟨k,hk,rfl⟩:=YEa.1 ht
     obtain⟨b,hb,u,hu,e⟩:=YnS g2 hk
     rw[e];exact w'.sz b hb u hu
    unfold q143
    rw[YDz fa (by have:=w.len;omega) (by omega),YzO]
    have e1:decide (((imgs fa σ).length:Int)=((YzU [] fa).length:Int))=true:=by rw[il];simp
    simp only[e1,hl,decide_true,YEP,cond_false]
    have e20:Yf9 loO (0,fh,fa,th,ta,YzU [] fa,imgs fa σ)=some (.inr (fh,fa,th,ta,YzU [] fa,imgs fa σ)):=by
     refine YaP (st:=fun n=>((n:Int),fh,fa,th,ta,YzU [] fa,imgs fa σ)) (N:=fh.length) rfl ?_ (fun n hn=> ?_)
     ·simp only[Yee,nlI,cond_false]
     ·simp only[Yee,ltI hn,cond_true,inc hn h1,YEU]
      rw[chkT _ (by omega),rGet il _ (by omega),YzO,chkT _ (by omega),YnT g2 (w.hd n hn).1,g1 _ _ (YnP (fun n hn=>(w.hd n hn).2) fh.length (YEt _) hn)]
      have:=YCa (vT (th.getD n nul0)) (vT (th.getD n nul0)) (YEB _) (YEB _)
      rw[decide_eq_true rfl]at this
      simp only[YEK]
      rw[show q127 loO (vT (th.getD n nul0)).1 (vT (th.getD n nul0)).2.1 (vT (th.getD n nul0)).2.2.1 (vT (th.getD n nul0)).2.2.2 (th.getD n nul0) 0 0 nul0=some true from this]
      rfl
    rw[e20,YzO,Yno]
    have e3:Ygb loO (0,fh,fa,th,ta,YzU [] fa,imgs fa σ)=some (.inr ()):=by
     refine YaP (st:=fun n=>((n:Int),fh,fa,th,ta,YzU [] fa,imgs fa σ)) (N:=fa.length) rfl ?_ (fun n hn=> ?_)
     ·simp only[Yeg,nlI,cond_false]
     ·have hb:=Ybk (l:=fa) (d:=zA) hn
      have hlen:=YbF hn
      have e8:Yga loO ((n:Int),false,0,fh,fa,th,ta,YzU [] fa,imgs fa σ)=some ((n:Int),ta.any (fun b=>decide (b.1=(fa.getD n zA).1)&& (tsL (Yz2 (YzU [] fa) (imgs fa σ)) (fa.getD n zA).2 b.2).isSome),fh,fa,th,ta,YzU [] fa,imgs fa σ):=by
       refine YaP (st:=fun k=>((n:Int),(ta.take k).any (fun b=>decide (b.1=(fa.getD n zA).1)&& (tsL (Yz2 (YzU [] fa) (imgs fa σ)) (fa.getD n zA).2 b.2).isSome),(k:Int),fh,fa,th,ta,YzU [] fa,imgs fa σ)) (N:=ta.length) rfl ?_ (fun k hk=> ?_)
       ·simp only[Yef,nlI,cond_false,YD8]
       ·simp only[Yef,ltI hk,cond_true,inc hk (show ta.length<=maxEl by have:=w'.len;omega),YEU]
        rw[chkT _ (by omega),chkT _ (by omega),chkT _ (by omega),chkT _ (by omega),Ybl (d:=zA) hk,List.any_append]
        obtain⟨N',T',r1,_⟩:=rAt gb (fa.getD n zA).1 (fa.getD n zA).2 (ta.getD k zA).2 (w.sz _ hb) (w'.sz _ (Ybk hk)) (by omega)
        rw[r1,YzO]
        simp only[List.any_cons,List.any_nil,Bool.or_false]
        cases decide ((ta.getD k zA).1=(fa.getD n zA).1)<;>cases(ta.take k).any (fun b=>decide (b.1=(fa.getD n zA).1)&& (tsL (Yz2 (YzU [] fa) (imgs fa σ)) (fa.getD n zA).2 b.2).isSome)<;>simp
      have ea:ta.any (fun b=>decide (b.1=(fa.getD n zA).1)&& (tsL (Yz2 (YzU [] fa) (imgs fa σ)) (fa.getD n zA).2 b.2).isSome)=true:=by
       rw[List.any_eq_true]
       obtain⟨b,hb',k1,k2,k3⟩:=g2 _ hb
       refine⟨b,hb',?_⟩
       rw[YEO]
       refine⟨decide_eq_true k1.symm,?_⟩
       unfold tsL
       simp only[k2,decide_true,YEP,cond_false]
       obtain⟨σ',e,_⟩:=YnD (leA.refl (Yz2 (YzU [] fa) (imgs fa σ))) (YnR (fun p hp h0=>by
        obtain⟨t,ht,rfl⟩:=YEa.1 hp
        exact(YnT g2 (YzK hb ht h0)).symm) k3)
       rw[e];rfl
      simp only[Yeg,ltI hn,cond_true]
      rw[e8,YzO,ea]
      simp only[YEP,cond_false,inc hn (show fa.length<=maxEl by have:=w.len;omega)]
    rw[e3,YzO,Yno]
   ·simp only[hl,decide_false,YEP,YES,cond_true,cond_false]at hh;cases hh
theorem hom_law(fh:List ByteArray)(fa:List Atom)(th:List ByteArray)(ta:List Atom):q144 loO fh fa th ta=some true:=by
 have hm:maxEl=1073741824:=rfl
 unfold q144
 rw[aw,YzO]
 obtain⟨b,e,hb⟩:=Ynu fh fa
 obtain⟨c,e',hc⟩:=Ynu th ta
 simp only[YEP,cond_false]
 rw[e,YzO,YzO]
 cases b with
 |false=>rfl
 |true=>
  rw[e',YzO]
  cases c with
  |false=>rfl
  |true=>
   obtain⟨b1,b2,b3⟩:=hb rfl
   obtain⟨c1,c2,c3⟩:=hc rfl
   simp only[YEP,cond_false]
   rw[tHom fh fa th ta (by omega) (by omega) (by omega) (by omega),YzO,rEx fh fa th ta (by omega) (by omega) (by omega) (by omega),YzO]
   cases hx:hmM fh fa th ta with
   |none=>rfl
   |some σ=>
    simp only[Option.isSome_some,YEP,cond_false,cond_true]
    rw[rIs fh fa th ta (by omega) (by omega) hx,YzO]
end
end Go.Abs.G47
