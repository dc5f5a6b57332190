/- Helpers of the plain laws: loops as states by number, tables, short words. No condition. -/
import Derived.Test.YtlmcnindhfbkhaaGreatDoorB
import Derived.Test.YtlmcnindhfbkhaaGreatDoorG1
set_option linter.unusedVariables false
set_option linter.unusedSimpArgs false
set_option linter.unusedSectionVars false
open List renaming getElem?_eq_getElem → YD7, map_cons → YD8, getElem?_append_left → YD9, map_nil → YEa, mem_cons → YEd, length_eq_zero_iff → YEf, mem_cons_self → YEg, take_length → YEj, length_map → YEk, mem_singleton → YEl, length_cons → YEm, mem_cons_of_mem → YEn, getElem?_eq_none → YEp, mem_map → YEr, getD_eq_getElem?_getD → YEs, drop_zero → YEt, mem_append → YEw, nil_append → YEy, length_nil → YEA, mem_iff_getElem → YEE, map_append → YEF
open Nat renaming le_refl → YEI, ble → YEL, zero_add → YEM, add_mul → YEO, le_trans → YEP, zero_le → YEQ, mul_le_mul_right → YER
open Option renaming bind → YEV, bind_some → YEY, getD_some → YEZ, bind_none → YE1
open Bool renaming and_eq_true → YE3, not_true → YE4, or_eq_true → YE5, eq_iff_iff → YE6, not_false → YE7
open Int renaming toNat_natCast → YE9
open ByteArray renaming mk → YFf
open Go.IntKind renaming wrap → YFg
namespace Go.Abs
theorem wr6{n:Int}(h0: -9223372036854775808<=n)(h1:n<9223372036854775808):YFg .i64 n=n:=by
 have e:(2:Int)^IntKind.bits .i64=18446744073709551616:=rfl
 have e':(2:Int)^(IntKind.bits .i64-1)=9223372036854775808:=rfl
 have s:IntKind.signed .i64=true:=rfl
 simp only[YFg,e,e',s,Bool.true_and,ge_iff_le,decide_eq_true_eq]
 split<;>omega
theorem chkT{β:Type}{p:Prop}[Decidable p](x:Option β)(h:p):chk p x=x:=by simp[chk,h]
theorem YzU{α β:Type}(a:α)(f:α->Option β):YEV (some a) f=f a:=rfl
theorem Yns{S R:Type}{step:S->Option (S⊕R)}(st:Nat->S)(N:Nat)(r:R)(he:step (st N)=some (.inr r))(hs: ∀n,n<N->step (st n)=some (.inl (st (n+1)))): ∀k n,n+k=N->Yz7 step (st n)=some r
 |0,n,h=>by rw[Yaj];simp only[Nat.add_zero]at h;subst h;rw[he]
 |k+1,n,h=>by rw[Yaj,hs n (by omega)];exact Yns st N r he hs k (n+1) (by omega)
theorem YaK{S R:Type}{step:S->Option (S⊕R)}{st:Nat->S}{N:Nat}{r:R}{s:S}(hst:s=st 0)(he:step (st N)=some (.inr r))(hs: ∀n,n<N->step (st n)=some (.inl (st (n+1)))):Yz7 step s=some r:=by
 subst hst;exact Yns st N r he hs N 0 (by omega)
def bl(s:ByteArray):List UInt8:=s.data.toList
theorem Yze(a b:ByteArray)(i j:Nat):(YzT a i=YzT b j)↔a.data.getD i 0=b.data.getD j 0:=by
 simp only[YzT,YE9]
 constructor
 ·intro h
  have:(a.data.getD i 0).toNat=(b.data.getD j 0).toNat:=by omega
  exact UInt8.toNat_inj.1 this
 ·intro h;rw[h]
end Go.Abs
namespace Go.Abs.G47
open Go Go.Abs
set_option maxRecDepth 100000
abbrev Vals:=List (Int×Int×ByteArray)
abbrev Rws:=List (Int×Vals)
abbrev Tabl:=ByteArray×List ByteArray×Rws
abbrev Term:=ByteArray×Int×Int×ByteArray
abbrev Atom:=ByteArray×List Term
theorem Yzk{clk:Int}{ents:List (Int×ByteArray×Vals)}{m2:Bool}
  {y} (hd:(ents.map (·.1)).Nodup) (hl:ents.length<=maxEl)
  (hy:YbX loO (ents.map (·.2.1),clk,clk,[],false,clk,ents,m2)=some y):
  YdZ loO ([],clk,ents,m2)=some y:=by
 show rngF YdY (YcK loO) (YbX loO) ([],clk,clk,[],false,clk,ents,m2)=some y
 refine Yq9 (Yzf (p:=YdY) (t:=YcK loO) (r:=YbX loO) (fun sn=>(sn.map (kAt (YFf #[]) ents),clk,clk,sn,false,clk,ents,m2)) (B:=ents.map (·.1)) (c:=clk) hd (fun sn=>rfl) (fun sn b hb hn hsd hsB=> ?_) (fun sn hp=> ?_))
 ·obtain⟨e,he⟩:=Yzi hb
  have hlen:sn.length<ents.length:=by
   have h1:(sn++[b]).Nodup:=by
    rw[List.nodup_append]
    exact⟨hsd,by simp,fun x hx y hy=>by rw[YEl]at hy;subst hy;intro e;subst e;exact hn hx⟩
   have:=List.Nodup.length_le_of_subset h1 (l₂:=ents.map (·.1)) (fun a ha=>by
    rcases YEw.1 ha with ha|ha
    ·exact hsB a ha
    ·rw[YEl]at ha;subst ha;exact hb)
   simp at this;omega
  simp only[YcK,addI,List.getLast?_append,List.getLast?_singleton,Option.some_or,YEY,he,chk,decide_true,cond_true,YEk,List.length_singleton]
  have:decide (sn.length+1<=maxEl)=true:=by simp;omega
  simp only[this,cond_true,YEF,YD8,YEa,kAt,he]
 ·have hperm:(sn.map (kAt (YFf #[]) ents)).Perm (ents.map (·.2.1)):=by
   rw[<-Yzj (d:=YFf #[]) hd];exact hp.map _
  rw[<-hy]
  show YEV (q65 loO (sn.map (kAt (YFf #[]) ents))) _=YEV (q65 loO (ents.map (·.2.1))) _
  have e1:q65 loO (sn.map (kAt (YFf #[]) ents))=q65 loO (ents.map (·.2.1)):=Yzh hperm
  rw[e1]
  have e2:=hperm.length_eq
  congr 1
  funext y152
  rw[e2]
def nodB:List Int->Bool
 | []=>true
 |a::r=> !(r.any fun b=>decide (b=a))&&nodB r
theorem Ynt: ∀{l:List Int},nodB l=true->l.Nodup
 | [],_=>List.nodup_nil
 |a::r,h=>by
  simp only[nodB,YE3,Bool.not_eq_true',List.any_eq_false,decide_eq_true_eq]at h
  exact List.nodup_cons.2 ⟨fun hm=>h.1 a hm rfl,Ynt h.2⟩
def j18C(lo:Lo):(List ByteArray×Int×List (Int×ByteArray×Vals)×Bool)->Option (List Vals×Int):=fun x=>match x with
 | (keys,clk,ents,m2)=>bif keys.isEmpty&& (nodB (ents.map (·.1))&&YEL ents.length maxEl)then YbX lo (ents.map (·.2.1),clk,clk,[],false,clk,ents,m2)else none
theorem Yzl{x y}(h:j18C loO x=some y):YdZ loO x=some y:=by
 obtain⟨keys,clk,ents,m2⟩:=x
 unfold j18C at h
 obtain⟨e,hk⟩:=Yab h
 simp only[YE3,List.isEmpty_iff]at e
 obtain⟨rfl,e1,e2⟩:=e
 exact Yzk (Ynt e1) (by simpa using e2) hk
def YCA(lo:Lo)(db:List Tabl)(q0:List ByteArray)(q1:List Atom):Option (List Vals×Int):=
 YEV (q40 lo db q0 q1) fun y105=>bif(!decide (y105=(0:Int)))then(some ([],y105))else(YEV (q41 lo db q0 q1) fun y108=>YEV (q50 lo (0:Int) y108.1 y108.2.1 y108.2.2.1 y108.2.2.2.1 y108.2.2.2.2.1 y108.2.2.2.2.2.1 y108.2.2.2.2.2.2.1 y108.2.2.2.2.2.2.2 (0:Int) [] false) fun y163=>chk (y163.2.2.2.1.length=y108.2.2.1.length) (bif(!y163.1)then(some ([],(3:Int)))else(YEV (j18C lo ([],y163.2.2.2.2.2.2.2.2.1,y163.2.2.2.2.2.2.2.2.2.1,y163.2.2.2.2.2.2.2.2.2.2.1)) fun y228=>some (y228.1,y228.2))))
theorem Ygo{α β:Type}{a:Option α}{f g:α->Option β}{y:β}(h: ∀z,f z=some y->g z=some y):YEV a f=some y->YEV a g=some y:=by
 cases a with
 |none=>intro h;cases h
 |some z=>exact h z
theorem Ynu{β:Type}{b:Bool}{x x' z:Option β}{y:β}(h:x=some y->x'=some y):(bif b then z else x)=some y->(bif b then z else x')=some y:=by
 cases b with
 |true=>exact id
 |false=>exact h
theorem Yzm{β:Type}{p:Prop}[Decidable p]{x x':Option β}{y:β}(h:x=some y->x'=some y):chk p x=some y->chk p x'=some y:=by
 unfold chk
 cases decide p with
 |true=>exact h
 |false=>exact id
theorem Yzn{db q0 q1 y}:YCA loO db q0 q1=some y->q66 loO db q0 q1=some y:=by
 unfold YCA q66
 refine Ygo fun _=>Ynu (Ygo fun _=>Ygo fun z=>Yzm (Ynu ?_))
 intro h
 cases hj:j18C loO ([],z.2.2.2.2.2.2.2.2.1,z.2.2.2.2.2.2.2.2.2.1,z.2.2.2.2.2.2.2.2.2.2.1)with
 |none=>rw[hj]at h;cases h
 |some q=>rw[hj]at h;rw[Yzl hj];exact h
noncomputable def R2:Int×Vals:=(q1 (loM 400) 1 [1,2]).getD (0,[])
noncomputable def R3:Int×Vals:=(q1 (loM 400) 2 [1,3]).getD (0,[])
noncomputable def R4:Int×Vals:=(q1 (loM 400) 3 [2,3]).getD (0,[])
noncomputable def R5:Int×Vals:=(q1 (loM 400) 1 [3]).getD (0,[])
noncomputable def T6:Term:=(q2 (loM 400) (YFf #[120])).getD (YFf #[],0,0,YFf #[])
noncomputable def T7:Term:=(q2 (loM 400) (YFf #[121])).getD (YFf #[],0,0,YFf #[])
noncomputable def EA:List Vals×Int:=(YCA (loM 400) [((YFf #[114]),[(YFf #[97]),(YFf #[98])],[R2,R3,R4]),((YFf #[115]),[(YFf #[99])],[R5])] ([(YFf #[120])]) ([((YFf #[114]),[T6,T7]),((YFf #[115]),[T7])])).getD ([],0)
theorem aw:q99 loO=some true:=by
 have e2:q1 loO 1 [1,2]=some R2:=(congrArg (fun l=>q1 l 1 [1,2]) (Ybj 400)).symm.trans (by kernel_rfl)
 have e3:q1 loO 2 [1,3]=some R3:=(congrArg (fun l=>q1 l 2 [1,3]) (Ybj 400)).symm.trans (by kernel_rfl)
 have e4:q1 loO 3 [2,3]=some R4:=(congrArg (fun l=>q1 l 3 [2,3]) (Ybj 400)).symm.trans (by kernel_rfl)
 have e5:q1 loO 1 [3]=some R5:=(congrArg (fun l=>q1 l 1 [3]) (Ybj 400)).symm.trans (by kernel_rfl)
 have e6:q2 loO (YFf #[120])=some T6:=(congrArg (fun l=>q2 l (YFf #[120])) (Ybj 400)).symm.trans (by kernel_rfl)
 have e7:q2 loO (YFf #[121])=some T7:=(congrArg (fun l=>q2 l (YFf #[121])) (Ybj 400)).symm.trans (by kernel_rfl)
 have eA:q66 loO [((YFf #[114]),[(YFf #[97]),(YFf #[98])],[R2,R3,R4]),((YFf #[115]),[(YFf #[99])],[R5])] ([(YFf #[120])]) ([((YFf #[114]),[T6,T7]),((YFf #[115]),[T7])])=some EA:=
  Yzn ((congrArg (fun l=>YCA l [((YFf #[114]),[(YFf #[97]),(YFf #[98])],[R2,R3,R4]),((YFf #[115]),[(YFf #[99])],[R5])] ([(YFf #[120])]) ([((YFf #[114]),[T6,T7]),((YFf #[115]),[T7])])) (Ybj 400)).symm.trans (by kernel_rfl))
 unfold q99
 rw[e2,YzU,e3,YzU,e4,YzU,e5,YzU,e6,YzU,e7,YzU,YzU,eA,YzU,<-Ybj 400]
 show(_:Option Bool)=some true
 kernel_rfl
end Go.Abs.G47
namespace Go.Abs
def Yz0{R:Type}(f:Nat->Option R):Nat->Nat->R->R
 |0,_,r0=>r0
 |k+1,n,r0=>match f n with
  |some r=>r
  |none=>Yz0 f k (n+1) r0
theorem Ygp{R:Type}{f g:Nat->Option R}{r0:R}: ∀(k n:Nat),(∀m,n<=m->m<n+k->f m=g m)->Yz0 f k n r0=Yz0 g k n r0
 |0,n,h=>rfl
 |k+1,n,h=>by
  simp only[Yz0]
  rw[h n (YEI _) (by omega),Ygp k (n+1) (fun m h1 h2=>h m (by omega) (by omega))]
theorem YaA{S R:Type}{step:S->Option (S⊕R)}(st:Nat->S)(f:Nat->Option R)(N:Nat)(r0:R){s:S}(hst:s=st 0)(he:step (st N)=some (.inr r0))
  (hs: ∀n,n<N->step (st n)=some (match f n with|some r=>.inr r|none=>.inl (st (n+1)))):Yz7 step s=some (Yz0 f N 0 r0):=by
 subst hst
 have: ∀k n,n+k=N->Yz7 step (st n)=some (Yz0 f k n r0):=by
  intro k
  induction k with
  |zero=>intro n h;rw[Yaj];simp only[Nat.add_zero]at h;subst h;rw[he];rfl
  |succ k ih=>
   intro n h
   rw[Yaj,hs n (by omega)]
   simp only[Yz0]
   cases f n with
   |some r=>rfl
   |none=>exact ih (n+1) (by omega)
 exact this N 0 (by omega)
def anyN(p:Nat->Bool):Nat->Nat->Bool
 |0,_=>false
 |k+1,n=>p n||anyN p k (n+1)
def idxR(p:Nat->Bool)(k n:Nat):Int:=match Yz0 (R:=Int⊕Unit) (fun m=>bif p m then some (.inl (m:Int))else none) k n (.inr ())with
 | .inl i=>i
 | .inr _=> -1
theorem Ygq(p:Nat->Bool): ∀k n,decide (0<=idxR p k n)=anyN p k n
 |0,n=>rfl
 |k+1,n=>by
  have:=Ygq p k (n+1)
  unfold idxR at this⊢
  simp only[Yz0,anyN]
  by_cases hp:p n=true
  ·simp[hp]
  ·simp only[Bool.not_eq_true]at hp;simpa[hp]using this
theorem Yb4{R:Type}{f:Nat->Option R}{r0:R}: ∀(k n:Nat),(∃m r,n<=m/\m<n+k/\f m=some r/\Yz0 f k n r0=r)\/(Yz0 f k n r0=r0/\ ∀m,n<=m->m<n+k->f m=none)
 |0,n=>.inr ⟨rfl,fun m h1 h2=>by omega⟩
 |k+1,n=>by
  simp only[Yz0]
  cases hf:f n with
  |some r=>exact .inl ⟨n,r,YEI _,by omega,hf,rfl⟩
  |none=>
   rcases Yb4 (f:=f) (r0:=r0) k (n+1)with⟨m,r,h1,h2,h3,h4⟩| ⟨h1,h2⟩
   ·exact .inl ⟨m,r,by omega,by omega,h3,h4⟩
   ·refine .inr ⟨h1,fun m g1 g2=> ?_⟩
    by_cases e:m=n
    ·subst e;exact hf
    ·exact h2 m (by omega) (by omega)
theorem Ynv(s:ByteArray)(i:Int):0<=YzT s i/\YzT s i<256:=by
 unfold YzT
 have:=(s.data.getD i.toNat 0).toNat_lt
 omega
theorem Yb5{α:Type}{l:List α}{n:Nat}{d:α}(h:n<l.length):l.getD n d∈l:=by
 rw[YEs,YD7 h];exact List.getElem_mem h
theorem Yzo{a b:ByteArray}(hs:a.size=b.size)(h: ∀n:Nat,n<a.size->YzT a n=YzT b n):a=b:=by
 have:a.data=b.data:=by
  apply Array.ext hs
  intro i h1 h2
  have:=h i h1
  rw[Yze]at this
  unfold Array.getD at this
  rw[dif_pos h1,dif_pos h2]at this
  exact this
 cases a;cases b;simp_all
theorem anyN_iff{p:Nat->Bool}: ∀{k n:Nat},anyN p k n=true↔ ∃m,n<=m/\m<n+k/\p m=true
 |0,n=>⟨fun h=>(by cases h),fun⟨m,h1,h2,_⟩=>(by omega)⟩
 |k+1,n=>by
  simp only[anyN,YE5,anyN_iff (k:=k) (n:=n+1)]
  constructor
  ·rintro(h| ⟨m,h1,h2,h3⟩)
   ·exact⟨n,YEI _,by omega,h⟩
   ·exact⟨m,by omega,by omega,h3⟩
  ·rintro⟨m,h1,h2,h3⟩
   by_cases e:m=n
   ·subst e;exact .inl h3
   ·exact .inr ⟨m,by omega,by omega,h3⟩
theorem Ygr{R:Type}{p:Nat->Bool}(hit:Nat->R)(r0:R)(T:R->Bool)(h0:T r0=false)(h1: ∀m,T (hit m)=true): ∀k n,T (Yz0 (fun m=>bif p m then some (hit m)else none) k n r0)=anyN p k n
 |0,n=>h0
 |k+1,n=>by
  simp only[Yz0,anyN]
  cases hp:p n with
  |true=>simp[h1]
  |false=>simpa using Ygr hit r0 T h0 h1 k (n+1)
theorem Ygs{p:Nat->Bool}(b:Bool)(k n:Nat):Yz0 (R:=Bool⊕Unit) (fun m=>bif p m then some (.inl b)else none) k n (.inr ())=bif anyN p k n then .inl b else .inr ():=by
 induction k generalizing n with
 |zero=>rfl
 |succ k ih=>
  simp only[Yz0,anyN]
  cases p n with
  |true=>rfl
  |false=>simpa using ih (n+1)
theorem Ybk{α:Type}{l:List α}{n:Nat}{d:α}(h:n<l.length):l.take (n+1)=l.take n++[l.getD n d]:=by
 rw[<-List.take_append_getElem h,YEs,YD7 h];rfl
end Go.Abs
namespace Go.Abs.G47
open Go Go.Abs
noncomputable section
theorem Ygt{A B C:Type}(b:B)(f:A->Option C)(g:B->Option C):alt2 (.inr b:A⊕B) f g=g b:=rfl
def lt(c:Int):Bool:=decide (97<=c)&&decide (c<=122)||decide (65<=c)&&decide (c<=90)||decide (c=95)
theorem YcT(c:Int):q102 loO c=some (lt c):=by
 unfold q102 lt
 by_cases h1:(97:Int)<=c<;>by_cases h2:c<=(122:Int)<;>by_cases h3:(65:Int)<=c<;>by_cases h4:c<=(90:Int)<;>simp[h1,h2,h3,h4]
def fN(s:ByteArray)(n:Nat):Option (Bool⊕Unit):=
 bif lt (YzT s n)then none else bif decide (n=0)then some (.inl false)else bif decide (YzT s n<48)then some (.inl false)else bif decide ((57:Int)<YzT s n)then some (.inl false)else none
def nul:ByteArray:=YFf #[110,117,108,108]
def YAF(s:ByteArray):Bool:=
 bif decide (s=YFf #[])then false else bif decide ((24:Int)< (s.size:Int))then false else bif decide (s=nul)then false else
  match Yz0 (fN s) s.size 0 (.inr ())with| .inl b=>b| .inr _=>true
def fR(s:ByteArray)(n:Nat):Option (Bool⊕Unit):=
 bif lt (YzT s n)then none else bif decide (YzT s n<48)then some (.inl false)else bif decide ((57:Int)<YzT s n)then some (.inl false)else none
theorem Ynw(s:ByteArray)(hs:s.size<=24):Ygc loO (s,0)=some (Yz0 (fR s) s.size 0 (.inr ())):=by
 refine YaA (fun n=>(s,(n:Int))) (fR s) s.size (.inr ()) rfl ?_ (fun n hn=> ?_)
 ·simp[Yeb]
 ·have e1:decide ((n:Int)< (s.size:Int))=true:=by simp;omega
  have e2:YFg .i64 ((n:Int)+1)=((n+1:Nat):Int):=by rw[wr6 (by omega) (by omega)];omega
  simp only[Yeb,e1,cond_true,e2,YcT,YzU]
  rw[chkT _ (by omega)]
  unfold fR
  generalize YzT s n=c
  have h0:(0:Int)<=(n:Int)/\ (n:Int)< (s.size:Int):=by omega
  cases lt c<;>by_cases h7:c<48<;>by_cases h8:(57:Int)<c<;>simp[h7,h8,chkT,h0]
theorem YDK(s:ByteArray):s.size=0↔s=YFf #[]:=by
 constructor
 ·intro h
  have:s.data= #[]:=Array.eq_empty_of_size_eq_zero h
  cases s;simp_all
 ·intro h;subst h;rfl
theorem Ygu(s:ByteArray):q103 loO s=some (YAF s):=by
 unfold q103 YAF nul
 by_cases h1:s=YFf #[]
 ·subst h1;rfl
 ·have h1':s.size≠0:=fun h=>h1 ((YDK s).1 h)
  by_cases h2:(24:Int)< (s.size:Int)
  ·have: ¬ (s.size:Int)=0:=by omega
   simp[h1,h2,this]
  ·have h0: ¬ (s.size:Int)=0:=by omega
   simp only[h1,h2,h0,decide_false,cond_false,YcT,YzU]
   rw[chkT _ (by omega)]
   have hz:YzT s 0=YzT s ((0:Nat):Int):=rfl
   have hsz:s.size=(s.size-1)+1:=by omega
   cases hl:lt (YzT s 0)with
   |false=>
    have:Yz0 (fN s) s.size 0 (.inr ())= .inl false:=by
     rw[hsz];simp only[Yz0,fN,<-hz,hl];rfl
    rw[this]
    by_cases h3:s=YFf #[110,117,108,108]<;>simp[h3]
   |true=>
    have:Yz0 (fN s) s.size 0 (.inr ())=Yz0 (fR s) s.size 0 (.inr ()):=Ygp _ _ (fun m _ _=>by
     unfold fN fR
     by_cases hm:m=0
     ·subst hm;rw[<-hz,hl];rfl
     ·simp[hm])
    rw[this,Ynw s (by omega)]
    by_cases h3:s=YFf #[110,117,108,108]
    ·simp[h3]
    ·simp only[h3,decide_false,cond_false,YE4,YzU]
     cases Yz0 (fR s) s.size 0 (.inr ())<;>rfl
def idxI(l:List ByteArray)(v:ByteArray):Int:=idxR (fun m=>decide (v=l.getD m (YFf #[]))) l.length 0
theorem Yzp(l:List ByteArray)(v:ByteArray)(hl:l.length<=maxEl):q4 loO l v=some (idxI l v):=by
 have hm:maxEl=1073741824:=rfl
 have:YfJ loO (l,v,(l.length:Int),0)=some (Yz0 (R:=Int⊕Unit) (fun m=>bif decide (v=l.getD m (YFf #[]))then some (.inl (m:Int))else none) l.length 0 (.inr ())):=by
  refine YaA (fun n=>(l,v,(l.length:Int),(n:Int))) _ l.length (Sum.inr ()) rfl ?_ (fun n hn=> ?_)
  ·simp[YdT]
  ·have e1:decide ((n:Int)< (l.length:Int))=true:=by simp;omega
   have e2:YFg .i64 ((n:Int)+1)=((n+1:Nat):Int):=by rw[wr6 (by omega) (by omega)];omega
   simp only[YdT,e1,cond_true,e2,YE9]
   rw[chkT _ (by omega)]
   cases decide (v=l.getD n (YFf #[]))<;>rfl
 unfold q4 idxI idxR
 rw[this,YzU]
 cases Yz0 (R:=Int⊕Unit) (fun m=>bif decide (v=l.getD m (YFf #[]))then some (.inl (m:Int))else none) l.length 0 (.inr ())<;>rfl
theorem Ynx(l:List ByteArray)(v:ByteArray)(hl:l.length<=maxEl):q5 loO l v=some (decide (0<=idxI l v)):=by
 unfold q5;rw[Yzp l v hl];rfl
theorem Yen(l:List ByteArray)(v:ByteArray)(hl:l.length<=maxEl):q104 loO l v=some (idxI l v):=by
 have hm:maxEl=1073741824:=rfl
 have:Ygd loO (l,v,0)=some (Yz0 (R:=Int⊕Unit) (fun m=>bif decide (v=l.getD m (YFf #[]))then some (.inl (m:Int))else none) l.length 0 (.inr ())):=by
  refine YaA (fun n=>(l,v,(n:Int))) _ l.length (Sum.inr ()) rfl ?_ (fun n hn=> ?_)
  ·simp[Yec]
  ·have e1:decide ((n:Int)< (l.length:Int))=true:=by simp;omega
   have e2:YFg .i64 ((n:Int)+1)=((n+1:Nat):Int):=by rw[wr6 (by omega) (by omega)];omega
   have e3:decide (l.getD n (YFf #[])=v)=decide (v=l.getD n (YFf #[])):=by simp only[eq_comm]
   simp only[Yec,e1,cond_true,e2,YE9,e3]
   rw[chkT _ (by omega)]
   cases decide (v=l.getD n (YFf #[]))<;>rfl
 unfold q104 idxI idxR
 rw[this,YzU]
 cases Yz0 (R:=Int⊕Unit) (fun m=>bif decide (v=l.getD m (YFf #[]))then some (.inl (m:Int))else none) l.length 0 (.inr ())<;>rfl
def vB(v:Int×Int×ByteArray):Bool:=(q6 loO v.1 v.2.1 v.2.2).getD false
theorem Yny(a b:Int)(c:ByteArray):q6 loO a b c=some (vB (a,b,c)):=by
 unfold vB q6
 by_cases h0:a=0<;>by_cases h1:a=1<;>by_cases h2:a=2<;>by_cases h3:a=3<;>by_cases h4:b=0<;>by_cases h5:1<=b<;>simp[h0,h1,h2,h3,h4,h5]
theorem Yzq(a b:Int)(c:ByteArray):q106 loO a b c=some (vB (a,b,c)):=Yny a b c
end
end Go.Abs.G47
namespace Go.Abs.G47
open Go Go.Abs
noncomputable section
theorem inc{n N:Nat}(h:n<N)(hN:N<=maxEl):YFg .i64 ((n:Int)+1)=((n+1:Nat):Int):=by
 have hm:maxEl=1073741824:=rfl
 rw[wr6 (by omega) (by omega)];omega
theorem ltI{n N:Nat}(h:n<N):decide ((n:Int)< (N:Int))=true:=by simp;omega
theorem nlI(N:Nat):decide ((N:Int)< (N:Int))=false:=by simp
abbrev zA:Atom:=(YFf #[],[])
abbrev zM:Term:=(YFf #[],0,0,YFf #[])
abbrev nul0:ByteArray:=YFf #[]
theorem Ynz{p:Nat->Bool}: ∀{k n:Nat},(∃m,n<=m/\m<n+k/\p m=true/\idxR p k n=(m:Int))\/(idxR p k n= -1/\ ∀m,n<=m->m<n+k->p m=false)
 |0,n=>.inr ⟨rfl,fun m h1 h2=>by omega⟩
 |k+1,n=>by
  cases hp:p n with
  |true=>exact .inl ⟨n,YEI _,by omega,hp,by unfold idxR;simp[Yz0,hp]⟩
  |false=>
   have e:idxR p (k+1) n=idxR p k (n+1):=by unfold idxR;simp[Yz0,hp]
   rw[e]
   rcases Ynz (p:=p) (k:=k) (n:=n+1)with⟨m,h1,h2,h3,h4⟩| ⟨h1,h2⟩
   ·exact .inl ⟨m,by omega,by omega,h3,h4⟩
   ·refine .inr ⟨h1,fun m g1 g2=> ?_⟩
    by_cases e:m=n
    ·subst e;exact hp
    ·exact h2 m (by omega) (by omega)
theorem lexL(c:Int):q26 loO c=some (lt c):=YcT c
theorem lexD(c:Int):q27 loO c=some (decide (48<=c)&&decide (c<=57)):=by
 unfold q27
 cases decide ((48:Int)<=c)<;>rfl
theorem Yzr(s:ByteArray)(hs:s.size<=24):YfK loO (s,(s.size:Int),0)=some (Yz0 (fR s) s.size 0 (.inr ())):=by
 have hm:maxEl=1073741824:=rfl
 refine YaA (fun n=>(s,(s.size:Int),(n:Int))) (fR s) s.size (.inr ()) rfl ?_ (fun n hn=> ?_)
 ·simp[YdU]
 ·simp only[YdU,ltI hn,cond_true,inc hn (show s.size<=maxEl by omega),lexL,lexD,YzU]
  rw[chkT _ (by omega),chkT _ (by omega)]
  unfold fR
  generalize YzT s n=c
  have e1:decide ((48:Int)<=c)= !decide (c<48):=by by_cases h:c<48<;>simp[h]<;>omega
  have e2:decide (c<=(57:Int))= !decide ((57:Int)<c):=by by_cases h:(57:Int)<c<;>simp[h]<;>omega
  rw[e1,e2]
  cases lt c<;>cases decide (c<48)<;>cases decide ((57:Int)<c)<;>rfl
theorem lexN(s:ByteArray):q28 loO s=some (YAF s):=by
 rw[<-Ygu]
 unfold q28 q103
 by_cases h1:s=YFf #[]
 ·subst h1;rfl
 ·have h1':s.size≠0:=fun h=>h1 ((YDK s).1 h)
  have h0: ¬ (s.size:Int)=0:=by omega
  by_cases h2:(24:Int)< (s.size:Int)
  ·simp[h1,h2,h0]
  ·by_cases h3:s=YFf #[110,117,108,108]
   ·subst h3
    have hs:(YFf #[110,117,108,108]).size=4:=rfl
    simp only[hs,h1,h0,h2,decide_true,decide_false,cond_false,cond_true,YcT,YzU]
    cases lt (YzT (YFf #[110,117,108,108]) 0)<;>rfl
   ·simp only[h1,h2,h3,h0,decide_false,cond_false,lexL,YcT,YzU]
    rw[chkT _ (by omega),chkT _ (by omega),Yzr s (by omega),Ynw s (by omega),YzU]
def YAx(t:Term):Bool:=bif !decide (t.1=nul0)then YAF t.1&& (decide (t.2.1=0)&& (decide (t.2.2.1=0)&& (decide (t.2.2.2=nul0)&&true)))else vB t.2
theorem YDW(t:Term):q29 loO t.1 t.2.1 t.2.2.1 t.2.2.2=some (YAx t):=by
 unfold q29 YAx
 rw[lexN,Yny,YzU,YzU]
 cases decide (t.1=nul0)<;>cases YAF t.1<;>rfl
theorem YDX(t:Term):q111 loO t.1 t.2.1 t.2.2.1 t.2.2.2=some (YAx t):=by
 unfold q111 YAx
 rw[Ygu,Yzq,YzU,YzU]
 cases decide (t.1=nul0)<;>cases YAF t.1<;>rfl
def badT(l:List Term):Bool:=anyN (fun m=> !YAx (l.getD m zM)) l.length 0
theorem YDL(nm:ByteArray)(l:List Term)(h:l.length<=maxEl):q112 loO nm l=some (!badT l):=by
 have:Yge loO (0,nm,l)=some (Yz0 (R:=Bool⊕Unit) (fun m=>bif !YAx (l.getD m zM)then some (.inl false)else none) l.length 0 (.inr ())):=by
  refine YaA (fun n=>((n:Int),nm,l)) _ l.length _ rfl ?_ (fun n hn=> ?_)
  ·simp[Yed]
  ·simp only[Yed,ltI hn,cond_true,inc hn h,YE9]
   rw[chkT _ (by omega),YDX,YzU]
   cases YAx (l.getD n zM)<;>rfl
 unfold q112 badT
 rw[this,YzU,Ygs]
 cases anyN (fun m=> !YAx (l.getD m zM)) l.length 0<;>rfl
def addV(out:List ByteArray)(v:ByteArray):List ByteArray:=bif !decide (v=nul0)&&decide (idxI out v<0)then out++[v]else out
def YAn(out:List ByteArray)(l:List Term):List ByteArray:=l.foldl (fun o t=>addV o t.1) out
def YAb(out:List ByteArray)(l:List Atom):List ByteArray:=l.foldl (fun o a=>YAn o a.2) out
theorem Yzs(out:List ByteArray)(v:ByteArray):(addV out v).length<=out.length+1:=by
 unfold addV
 cases(!decide (v=nul0)&&decide (idxI out v<0))<;>simp
theorem Yeo: ∀(l:List Term) (out:List ByteArray),(YAn out l).length<=out.length+l.length
 | [],out=>by simp[YAn]
 |t::l,out=>by
  have h1:=Yeo l (addV out t.1)
  have h2:=Yzs out t.1
  simp only[YAn,List.foldl_cons,YEm]at h1⊢
  omega
def sumT(l:List Atom):Nat:=(l.map fun a=>a.2.length).sum
theorem YcU: ∀(l:List Atom) (out:List ByteArray),(YAb out l).length<=out.length+sumT l
 | [],out=>by simp[YAb,sumT]
 |a::l,out=>by
  have h1:=YcU l (YAn out a.2)
  have h2:=Yeo a.2 out
  simp only[YAb,sumT,List.foldl_cons,YD8,List.sum_cons]at h1⊢
  omega
theorem YcV{α β:Type}(f:β->α->β)(b:β){l:List α}{n:Nat}{d:α}(h:n<l.length):(l.take (n+1)).foldl f b=f ((l.take n).foldl f b) (l.getD n d):=by
 rw[Ybk (d:=d) h,List.foldl_append];rfl
theorem Yzt{l:List Nat}: ∀(n:Nat),(l.take n).sum<=l.sum:=by
 induction l with
 |nil=>intro n;simp
 |cons a r ih=>
  intro n
  cases n with
  |zero=>simp
  |succ n=>simp only[List.take_succ_cons,List.sum_cons];have:=ih n;omega
theorem Yzu(l:List Atom)(n:Nat):sumT (l.take n)<=sumT l:=by
 unfold sumT;rw[List.map_take];exact Yzt n
theorem Ybl{l:List Atom}{n:Nat}(h:n<l.length):sumT (l.take n)+(l.getD n zA).2.length<=sumT l:=by
 have:=Yzu l (n+1)
 rw[Ybk (d:=zA) h]at this
 unfold sumT at this⊢
 simpa using this
theorem YDY(l:List Atom)(h:l.length<=maxEl)(h2:sumT l<=maxEl):q113 loO l=some (YAb [] l):=by
 have inner: ∀(i:Nat) (out:List ByteArray),i<l.length->out.length<=sumT (l.take i)->Ygf loO (l,(i:Int),0,out)=some (l,(i:Int),YAn out (l.getD i zA).2):=by
  intro i out hi ho
  have hb:=Ybl hi
  refine YaK (st:=fun n=>(l,(i:Int),(n:Int),YAn out ((l.getD i zA).2.take n))) (N:=(l.getD i zA).2.length) rfl ?_ (fun n hn=> ?_)
  ·simp only[Yee,YE9,nlI,cond_false,YEj]
   rw[chkT _ (by omega)]
  ·have ht:=Yeo ((l.getD i zA).2.take n) out
   rw[List.length_take,Nat.min_eq_left (by omega)]at ht
   simp only[Yee,YE9,ltI hn,cond_true,inc hn (show(l.getD i zA).2.length<=maxEl by omega)]
   rw[chkT _ (by omega),chkT _ (by omega),chkT _ ⟨by omega,Int.ofNat_lt.2 hn⟩,Yen _ _ (by omega),YzU]
   have e:YAn out ((l.getD i zA).2.take (n+1))=addV (YAn out ((l.getD i zA).2.take n)) ((l.getD i zA).2.getD n zM).1:=YcV (fun o (t:Term)=>addV o t.1) out (d:=zM) hn
   rw[e]
   rw[chkT _ (by rw[List.length_singleton];omega)]
   unfold addV
   cases decide (((l.getD i zA).2.getD n zM).1=nul0)<;>cases decide (idxI (YAn out ((l.getD i zA).2.take n)) ((l.getD i zA).2.getD n zM).1<0)<;>rfl
 have outer:Ygg loO (l,0,[])=some (YAb [] l):=by
  refine YaK (st:=fun n=>(l,(n:Int),YAb [] (l.take n))) (N:=l.length) rfl ?_ (fun n hn=> ?_)
  ·simp only[Yef,nlI,cond_false,YEj]
  ·have hl:=YcU (l.take n) []
   simp only[YEA,YEM]at hl
   simp only[Yef,ltI hn,cond_true]
   rw[inner n _ hn hl,YzU]
   simp only[inc hn h]
   have e:YAb [] (l.take (n+1))=YAn (YAb [] (l.take n)) (l.getD n zA).2:=YcV (fun o (a:Atom)=>YAn o a.2) [] (d:=zA) hn
   rw[e]
 unfold q113
 rw[outer,YzU]
def inL(l:List ByteArray)(v:ByteArray):Bool:=l.any fun w=>decide (v=w)
theorem inL_iff{l:List ByteArray}{v:ByteArray}:inL l v=true↔v∈l:=by
 unfold inL;rw[List.any_eq_true]
 constructor
 ·rintro⟨w,h1,h2⟩;rw[of_decide_eq_true h2];exact h1
 ·intro h;exact⟨v,h,decide_eq_true rfl⟩
theorem YcW(l:List ByteArray)(v:ByteArray):decide (0<=idxI l v)=inL l v:=by
 unfold idxI
 rw[Ygq,YE6,anyN_iff,inL_iff]
 constructor
 ·rintro⟨m,_,h2,h3⟩
  rw[decide_eq_true_eq]at h3;rw[h3];exact Yb5 (by omega)
 ·intro h
  obtain⟨m,hm,e⟩:=YEE.1 h
  exact⟨m,YEQ _,by omega,by rw[decide_eq_true_eq,YEs,YD7 hm];exact e.symm⟩
theorem Ygv(l:List ByteArray)(v:ByteArray):decide (idxI l v<0)= !inL l v:=by
 rw[<-YcW];by_cases h:0<=idxI l v<;>simp[h]<;>omega
theorem Yzv(out:List ByteArray)(w v:ByteArray):v∈addV out w↔v∈out\/(v≠nul0/\w=v):=by
 unfold addV
 rw[Ygv]
 by_cases h1:w=nul0
 ·subst h1;simp;intro h2 h3;exact absurd h3.symm h2
 ·by_cases h2:w∈out
  ·simp[h1,inL_iff.2 h2];intro _ h4;subst h4;exact h2
  ·have h3:inL out w=false:=by rw[<-Bool.not_eq_true,inL_iff];exact h2
   simp[h1,h3]
   constructor
   ·rintro(h|rfl)
    ·exact .inl h
    ·exact .inr ⟨h1,rfl⟩
   ·rintro(h| ⟨_,rfl⟩)
    ·exact .inl h
    ·exact .inr rfl
theorem YnA: ∀(l:List Term) (out:List ByteArray) (v:ByteArray),v∈YAn out l↔v∈out\/(v≠nul0/\ ∃t∈l,t.1=v)
 | [],out,v=>by simp[YAn]
 |t::l,out,v=>by
  have:=YnA l (addV out t.1) v
  simp only[YAn,List.foldl_cons]at this⊢
  rw[this,Yzv]
  simp only[YEd,exists_eq_or_imp]
  constructor
  ·rintro((h| ⟨h1,h2⟩)| ⟨h1,h2⟩)
   ·exact .inl h
   ·exact .inr ⟨h1,.inl h2⟩
   ·exact .inr ⟨h1,.inr h2⟩
  ·rintro(h| ⟨h1,h2|h2⟩)
   ·exact .inl (.inl h)
   ·exact .inl (.inr ⟨h1,h2⟩)
   ·exact .inr ⟨h1,h2⟩
theorem YnB: ∀(l:List Atom) (out:List ByteArray) (v:ByteArray),v∈YAb out l↔v∈out\/(v≠nul0/\ ∃a∈l,∃t∈a.2,t.1=v)
 | [],out,v=>by simp[YAb]
 |a::l,out,v=>by
  have:=YnB l (YAn out a.2) v
  simp only[YAb,List.foldl_cons]at this⊢
  rw[this,YnA]
  simp only[YEd,exists_eq_or_imp]
  constructor
  ·rintro((h| ⟨h1,h2⟩)| ⟨h1,h2⟩)
   ·exact .inl h
   ·exact .inr ⟨h1,.inl h2⟩
   ·exact .inr ⟨h1,.inr h2⟩
  ·rintro(h| ⟨h1,h2|h2⟩)
   ·exact .inl (.inl h)
   ·exact .inl (.inr ⟨h1,h2⟩)
   ·exact .inr ⟨h1,h2⟩
def fHd(hd:List ByteArray)(at':List Atom)(n:Nat):Bool:=inL (YAb [] at') (hd.getD n nul0)&& !inL (hd.take n) (hd.getD n nul0)
def YBN(hd:List ByteArray)(at':List Atom):Bool:= !anyN (fun m=> !fHd hd at' m) hd.length 0
theorem YDZ(l:List Term)(v:ByteArray)(h:l.length<=maxEl):q35 loO l v=some (anyN (fun m=>decide ((l.getD m zM).1=v)) l.length 0,v):=by
 have:YfL loO (l,(l.length:Int),0,v)=some (Yz0 (R:=(Int×ByteArray)⊕ByteArray) (fun m=>bif decide ((l.getD m zM).1=v)then some (.inl ((m:Int),v))else none) l.length 0 (.inr v)):=by
  refine YaA (fun n=>(l,(l.length:Int),(n:Int),v)) _ l.length _ rfl ?_ (fun n hn=> ?_)
  ·simp[YdV]
  ·simp only[YdV,ltI hn,cond_true,inc hn h,YE9,q33,YzU]
   rw[chkT _ (by omega)]
   cases decide ((l.getD n zM).1=v)<;>rfl
 unfold q35 q34
 rw[this,YzU]
 have k1:=Ygr (R:=(Int×ByteArray)⊕ByteArray) (p:=fun m=>decide ((l.getD m zM).1=v)) (fun m=>.inl ((m:Int),v)) (.inr v) (fun r=>match r with| .inl i=>decide (0<=i.1)| .inr _=>false) rfl (fun m=>by simp) l.length 0
 have k2: ∀k n,(match Yz0 (R:=(Int×ByteArray)⊕ByteArray) (fun m=>bif decide ((l.getD m zM).1=v)then some (.inl ((m:Int),v))else none) k n (.inr v)with| .inl i=>i.2| .inr b=>b)=v:=by
  intro k
  induction k with
  |zero=>intro n;rfl
  |succ k ih=>intro n;simp only[Yz0];cases decide ((l.getD n zM).1=v)with
   |true=>rfl
   |false=>simpa using ih (n+1)
 have k2:=k2 l.length 0
 rw[<-k1]
 revert k2
 cases Yz0 (R:=(Int×ByteArray)⊕ByteArray) (fun m=>bif decide ((l.getD m zM).1=v)then some (.inl ((m:Int),v))else none) l.length 0 (.inr v)with
 |inl i=>intro k2;simp only at k2;subst k2;rfl
 |inr b=>intro k2;simp only at k2;subst k2;rfl
theorem YD0(l:List Atom)(v:ByteArray)(h:l.length<=maxEl)(h2:sumT l<=maxEl):q38 loO l v=some (anyN (fun m=>anyN (fun k=>decide (((l.getD m zA).2.getD k zM).1=v)) (l.getD m zA).2.length 0) l.length 0,v):=by
 have:YfM loO (l,(l.length:Int),0,v)=some (Yz0 (R:=(Int×ByteArray)⊕ByteArray) (fun m=>bif anyN (fun k=>decide (((l.getD m zA).2.getD k zM).1=v)) (l.getD m zA).2.length 0 then some (.inl ((m:Int),v))else none) l.length 0 (.inr v)):=by
  refine YaA (fun n=>(l,(l.length:Int),(n:Int),v)) _ l.length _ rfl ?_ (fun n hn=> ?_)
  ·simp[YdW]
  ·have:=Ybl hn
   have hg:(l.getD n zA).2.length<=maxEl:=by omega
   simp only[YdW,ltI hn,cond_true,inc hn h,YE9,q36]
   rw[chkT _ (by omega),YDZ _ _ hg,YzU,YzU]
   cases anyN (fun k=>decide (((l.getD n zA).2.getD k zM).1=v)) (l.getD n zA).2.length 0<;>rfl
 unfold q38 q37
 rw[this,YzU]
 have k1:=Ygr (R:=(Int×ByteArray)⊕ByteArray) (p:=fun m=>anyN (fun k=>decide (((l.getD m zA).2.getD k zM).1=v)) (l.getD m zA).2.length 0) (fun m=>.inl ((m:Int),v)) (.inr v) (fun r=>match r with| .inl i=>decide (0<=i.1)| .inr _=>false) rfl (fun m=>by simp) l.length 0
 have k2: ∀k n,(match Yz0 (R:=(Int×ByteArray)⊕ByteArray) (fun m=>bif anyN (fun k=>decide (((l.getD m zA).2.getD k zM).1=v)) (l.getD m zA).2.length 0 then some (.inl ((m:Int),v))else none) k n (.inr v)with| .inl i=>i.2| .inr b=>b)=v:=by
  intro k
  induction k with
  |zero=>intro n;rfl
  |succ k ih=>intro n;simp only[Yz0];cases anyN (fun k=>decide (((l.getD n zA).2.getD k zM).1=v)) (l.getD n zA).2.length 0 with
   |true=>rfl
   |false=>simpa using ih (n+1)
 have k2:=k2 l.length 0
 rw[<-k1]
 revert k2
 cases Yz0 (R:=(Int×ByteArray)⊕ByteArray) (fun m=>bif anyN (fun k=>decide (((l.getD m zA).2.getD k zM).1=v)) (l.getD m zA).2.length 0 then some (.inl ((m:Int),v))else none) l.length 0 (.inr v)with
 |inl i=>intro k2;simp only at k2;subst k2;rfl
 |inr b=>intro k2;simp only at k2;subst k2;rfl
theorem YcX{α:Type}(p:α->Bool)(l:List α)(d:α):anyN (fun m=>p (l.getD m d)) l.length 0=l.any p:=by
 rw[YE6,anyN_iff,List.any_eq_true]
 constructor
 ·rintro⟨m,_,h2,h3⟩;exact⟨_,Yb5 (by omega),h3⟩
 ·rintro⟨x,hx,h3⟩
  obtain⟨m,hm,e⟩:=YEE.1 hx
  refine⟨m,YEQ _,by omega,?_⟩
  rw[YEs,YD7 hm,YEZ,e];exact h3
theorem occ(l:List Atom)(v:ByteArray):(!decide (v=nul0)&&anyN (fun m=>anyN (fun k=>decide (((l.getD m zA).2.getD k zM).1=v)) (l.getD m zA).2.length 0) l.length 0)=inL (YAb [] l) v:=by
 have e1:anyN (fun m=>anyN (fun k=>decide (((l.getD m zA).2.getD k zM).1=v)) (l.getD m zA).2.length 0) l.length 0=l.any (fun a=>a.2.any fun t=>decide (t.1=v)):=by
  rw[<-YcX (fun a=>a.2.any fun t=>decide (t.1=v)) l zA]
  congr 1;funext m
  exact YcX (fun t=>decide (t.1=v)) (l.getD m zA).2 zM
 rw[e1,YE6,inL_iff,YnB]
 simp
theorem YD1(hd:List ByteArray)(l:List Atom)(hh:hd.length<=maxEl)(h:l.length<=maxEl)(h2:sumT l<=maxEl):q39 loO hd l=some (YBN hd l):=by
 have:YfN loO (hd,(hd.length:Int),0,hd,l)=some (Yz0 (R:=Bool⊕Unit) (fun m=>bif !fHd hd l m then some (.inl false)else none) hd.length 0 (.inr ())):=by
  refine YaA (fun n=>(hd,(hd.length:Int),(n:Int),hd,l)) _ hd.length _ rfl ?_ (fun n hn=> ?_)
  ·simp[YdX]
  ·simp only[YdX,ltI hn,cond_true,inc hn hh,YE9,YEt]
   rw[chkT _ (by omega),chkT _ (by omega),Ynx _ _ (by simp;omega),YzU,YD0 _ _ h h2,YzU]
   unfold fHd
   rw[<-occ,YcW]
   cases decide (hd.getD n nul0=nul0)<;>cases inL (hd.take n) (hd.getD n nul0)<;>cases anyN (fun m=>anyN (fun k=>decide (((l.getD m zA).2.getD k zM).1=hd.getD n nul0)) (l.getD m zA).2.length 0) l.length 0<;>rfl
 unfold q39 YBN
 rw[this,YzU,Ygs]
 cases anyN (fun m=> !fHd hd l m) hd.length 0<;>rfl
theorem YD2(hd:List ByteArray)(l:List Atom)(hh:hd.length<=maxEl)(h:l.length<=maxEl)(h2:sumT l<=maxEl):q114 loO hd l=some (YBN hd l):=by
 have hv:=YcU l []
 simp only[YEA,YEM]at hv
 have:Ygh loO (YAb [] l,0,hd,l)=some (Yz0 (R:=Bool⊕Unit) (fun m=>bif !fHd hd l m then some (.inl false)else none) hd.length 0 (.inr ())):=by
  refine YaA (fun n=>(YAb [] l,(n:Int),hd,l)) _ hd.length _ rfl ?_ (fun n hn=> ?_)
  ·simp[Yeg]
  ·simp only[Yeg,ltI hn,cond_true,inc hn hh,YE9,YEt]
   rw[chkT _ (by omega),chkT _ (by omega),chkT _ (by omega),Yen _ _ (by omega),YzU,Yen _ _ (by simp;omega),YzU]
   unfold fHd
   rw[Ygv,YcW]
   cases inL (YAb [] l) (hd.getD n nul0)<;>cases inL (hd.take n) (hd.getD n nul0)<;>rfl
 unfold q114 YBN
 rw[YDY l h h2,YzU,this,YzU,Ygs]
 cases anyN (fun m=> !fHd hd l m) hd.length 0<;>rfl
def up{R':Type}(x:Option (Int⊕Unit)):Option (Int⊕R'):=match x with|some (.inl i)=>some (.inl i)|some (.inr _)=>none|none=>none
theorem Yzw{l:List Atom}{k:Nat}(h: ∀n,n<l.length->(l.getD n zA).2.length<=k):sumT l<=l.length*k:=by
 unfold sumT
 have: ∀a∈l,a.2.length<=k:=fun a ha=>by
  obtain⟨m,hm,e⟩:=YEE.1 ha
  have:=h m hm
  rwa[YEs,YD7 hm,YEZ,e]at this
 clear h
 induction l with
 |nil=>simp
 |cons a r ih=>
  have h1:=this a (YEg ..)
  have h2:=ih (fun b hb=>this b (YEn _ hb))
  simp only[YD8,List.sum_cons,YEm,YEO];omega
theorem Yzx(hd:List ByteArray)(l:List Atom): ∃b,q101 loO hd l=some b/\ (b=true->hd.length<=10/\l.length<=8/\sumT l<=160):=by
 have hm:maxEl=1073741824:=rfl
 unfold q101
 by_cases h:(10:Int)< (hd.length:Int)
 ·exact⟨false,by simp[h],fun h=>by cases h⟩
 ·by_cases h8:(8:Int)< (l.length:Int)
  ·exact⟨false,by simp[h,h8],fun h=>by cases h⟩
  ·simp only[h,h8,decide_false,cond_false]
   have:Ygb loO (l,(l.length:Int),0)=some (Yz0 (R:=Bool⊕Unit) (fun n=>bif decide ((20:Int)< ((l.getD n zA).2.length:Int))then some (.inl false)else bif decide ((3:Int)< (n:Int))&&decide ((1:Int)< ((l.getD n zA).2.length:Int))then some (.inl false)else none) l.length 0 (.inr ())):=by
    refine YaA (fun n=>(l,(l.length:Int),(n:Int))) _ l.length _ rfl ?_ (fun n hn=> ?_)
    ·simp[Yea]
    ·simp only[Yea,ltI hn,cond_true,inc hn (show l.length<=maxEl by omega),YE9]
     rw[chkT _ (by omega)]
     cases decide ((20:Int)< ((l.getD n zA).2.length:Int))<;>cases decide ((3:Int)< (n:Int))<;>cases decide ((1:Int)< ((l.getD n zA).2.length:Int))<;>rfl
   rw[this,YzU]
   rcases Yb4 (R:=Bool⊕Unit) (f:=fun n=>bif decide ((20:Int)< ((l.getD n zA).2.length:Int))then some (.inl false)else bif decide ((3:Int)< (n:Int))&&decide ((1:Int)< ((l.getD n zA).2.length:Int))then some (.inl false)else none) (r0:=.inr ()) l.length 0 with⟨m,r,_,_,h3,h4⟩| ⟨h1,hn⟩
   ·rw[h4]
    have:r= .inl false:=by
     revert h3
     cases decide ((20:Int)< ((l.getD m zA).2.length:Int))<;>cases decide ((3:Int)< (m:Int))<;>cases decide ((1:Int)< ((l.getD m zA).2.length:Int))<;>(intro h3;first| (injection h3 with h3;exact h3.symm)|cases h3)
    subst this
    exact⟨false,rfl,fun h=>by cases h⟩
   ·rw[h1]
    refine⟨true,rfl,fun _=>⟨by omega,by omega,?_⟩⟩
    have:=Yzw (l:=l) (k:=20) (fun n hl=>by
     have:=hn n (YEQ _) (by omega)
     cases hc:decide ((20:Int)< ((l.getD n zA).2.length:Int))with
     |true=>rw[hc]at this;cases this
     |false=>rw[decide_eq_false_iff_not]at hc;omega)
    have:l.length*20<=8*20:=YER _ (by omega)
    omega
end
end Go.Abs.G47
namespace Go.Abs.G47
open Go Go.Abs
noncomputable section
abbrev Asg(ν:Type):=ByteArray->Option ν
abbrev Ent(ν:Type):=List (Int×ByteArray×ν)
section
variable{ν:Type}[DecidableEq ν]
omit [DecidableEq ν] in
theorem YnC(k k':ByteArray)(c:Int)(v:ν): ∀l:Ent ν,mfd eqS k' (mpt eqS c k v l)=bif eqS k' k then some v else mfd eqS k' l
 | []=>rfl
 |e::r=>by
  simp only[mpt]
  by_cases h:k=e.2.1
  ·have:eqS k e.2.1=true:=by simp[eqS,h]
   rw[this,cond_true]
   simp only[mfd,<-h]
   cases eqS k' k<;>rfl
  ·have:eqS k e.2.1=false:=by simp[eqS,h]
   rw[this,cond_false]
   simp only[mfd,YnC k k' c v r]
   by_cases h1:k'=e.2.1
   ·have a1:eqS k' e.2.1=true:=by simp[eqS,h1]
    have a2:eqS k' k=false:=by simp only[eqS,decide_eq_false_iff_not];intro e';exact h (e'.symm.trans h1)
    rw[a1,a2];rfl
   ·have a1:eqS k' e.2.1=false:=by simp[eqS,h1]
    rw[a1];rfl
omit [DecidableEq ν] in
theorem YnD{c:Int}{k:ByteArray}{v:ν}: ∀l:Ent ν,(mpt eqS c k v l).map (·.2.1)=(match mfd eqS k l with|some _=>l.map (·.2.1)|none=>l.map (·.2.1)++[k])
 | []=>rfl
 |e::r=>by
  simp only[mpt,mfd]
  cases h:eqS k e.2.1 with
  |true=>
   have:k=e.2.1:=by unfold eqS at h;simpa using h
   simp[this]
  |false=>
   simp only[cond_false,YD8,YnD r]
   cases mfd eqS k r<;>rfl
def lk(l:Ent ν):Asg ν:=fun k=>mfd eqS k l
def upd(σ:Asg ν)(x:ByteArray)(u:ν):Asg ν:=fun k=>if k=x then some u else σ k
def del(σ:Asg ν)(x:ByteArray):Asg ν:=fun k=>if k=x then none else σ k
def KN(l:Ent ν):Prop:=(l.map (·.2.1)).Nodup
omit [DecidableEq ν] in
theorem Ygw(c:Int)(k:ByteArray)(v:ν)(l:Ent ν):lk (mpt eqS c k v l)=upd (lk l) k v:=by
 funext k'
 unfold lk upd
 rw[YnC]
 by_cases h:k'=k<;>simp[eqS,h]
omit [DecidableEq ν] in
theorem mfd_none{k:ByteArray}: ∀{l:Ent ν},mfd eqS k l=none↔k∉l.map (·.2.1)
 | []=>by simp[mfd]
 |e::r=>by
  simp only[mfd,YD8,YEd,not_or]
  by_cases h:k=e.2.1
  ·simp[eqS,h]
  ·have:eqS k e.2.1=false:=by simp[eqS,h]
   rw[this,cond_false,mfd_none (l:=r)]
   simp[h]
omit [DecidableEq ν] in
theorem YnE{c:Int}{k:ByteArray}{v:ν}{l:Ent ν}(h:KN l):KN (mpt eqS c k v l):=by
 unfold KN
 rw[YnD]
 cases hm:mfd eqS k l with
 |some _=>exact h
 |none=>
  rw[List.nodup_append]
  exact⟨h,by simp,fun x hx y hy=>by rw[YEl]at hy;subst hy;intro e;subst e;exact mfd_none.1 hm hx⟩
omit [DecidableEq ν] in
theorem YnF{k x:ByteArray}: ∀{l:Ent ν},x∈ (mdl eqS k l).map (·.2.1)->x∈l.map (·.2.1)
 | [],h=>h
 |e::r,h=>by
  simp only[mdl]at h
  cases hk:eqS k e.2.1 with
  |true=>rw[hk,cond_true]at h;exact YEn _ h
  |false=>
   rw[hk,cond_false,YD8,YEd]at h
   rw[YD8,YEd]
   exact h.imp_right YnF
omit [DecidableEq ν] in
theorem YnG{k:ByteArray}: ∀{l:Ent ν},KN l->KN (mdl eqS k l)/\lk (mdl eqS k l)=del (lk l) k
 | [],h=>⟨h,by funext x;unfold lk del;simp[mdl,mfd]⟩
 |e::r,h=>by
  have h':e.2.1∉r.map (·.2.1)/\KN r:=by unfold KN at h⊢;rw[YD8,List.nodup_cons]at h;exact h
  obtain⟨i1,i2⟩:=YnG (k:=k) h'.2
  simp only[mdl]
  by_cases hk:k=e.2.1
  ·have:eqS k e.2.1=true:=by simp[eqS,hk]
   rw[this,cond_true]
   refine⟨h'.2,?_⟩
   funext x
   unfold lk del
   by_cases hx:x=k
   ·rw[if_pos hx,hx,hk];exact mfd_none.2 h'.1
   ·rw[if_neg hx]
    have:eqS x e.2.1=false:=by simp[eqS,<-hk,hx]
    simp only[mfd,this,cond_false]
  ·have:eqS k e.2.1=false:=by simp[eqS,hk]
   rw[this,cond_false]
   refine⟨?_,?_⟩
   ·show(List.map (·.2.1) (e::mdl eqS k r)).Nodup
    rw[YD8,List.nodup_cons]
    exact⟨fun hm=>h'.1 (YnF hm),i1⟩
   ·funext x
    have i2:=congrFun i2 x
    unfold lk del at i2⊢
    simp only[mfd,i2]
    by_cases hx:x=k
    ·have:eqS x e.2.1=false:=by simp[eqS,hx,hk]
     rw[this];simp[hx]
    ·simp[hx]
def delG(l:Ent ν)(fresh:List ByteArray):Ent ν:=fresh.foldl (fun l k=>mdl eqS k l) l
omit [DecidableEq ν] in
theorem YnH: ∀(fresh:List ByteArray) {l:Ent ν},KN l->KN (delG l fresh)/\ ∀k,lk (delG l fresh) k=bif inL fresh k then none else lk l k
 | [],l,h=>⟨h,fun k=>rfl⟩
 |x::r,l,h=>by
  obtain⟨h1,h2⟩:=YnG (k:=x) h
  obtain⟨i1,i2⟩:=YnH r h1
  refine⟨i1,fun k=> ?_⟩
  show lk (delG (mdl eqS x l) r) k=_
  rw[i2,h2]
  unfold del
  show _=bif decide (k=x)||inL r k then none else _
  by_cases hx:k=x<;>cases inL r k<;>simp[hx]
def tmM(σ:Asg ν)(x:ByteArray)(c u:ν):Option (Asg ν):=if x=nul0 then(if c=u then some σ else none)else
 match σ x with
 |some w=>if w=u then some σ else none
 |none=>some (upd σ x u)
def tsM:Asg ν->List (ByteArray×ν)->List ν->Option (Asg ν)
 |σ,[],_=>some σ
 |σ,_::_,[]=>none
 |σ,p::ps,u::us=>(tmM σ p.1 p.2 u).bind fun σ'=>tsM σ' ps us
def fitG:List (ByteArray×ν)->List ν->Int->Ent ν->List ByteArray->Bool×Int×Ent ν×List ByteArray
 | [],_,clk,l,fr=>(true,clk,l,fr)
 |_::_,[],clk,l,fr=>(false,clk,l,fr)
 |p::ps,u::us,clk,l,fr=>if p.1=nul0 then(if p.2=u then fitG ps us clk l fr else(false,clk,l,fr))else
  match mfd eqS p.1 l with
  |some w=>if w=u then fitG ps us clk l fr else(false,clk,l,fr)
  |none=>fitG ps us (mck eqS clk p.1 l) (mpt eqS clk p.1 u l) (fr++[p.1])
structure FitOk(σ0:Asg ν)(σ':Option (Asg ν))(r:Bool×Int×Ent ν×List ByteArray)(n:Nat):Prop where
 kn:KN r.2.2.1
 len:r.2.2.2.length<=n
 new: ∀k∈r.2.2.2,σ0 k=none
 old: ∀k,k∉r.2.2.2->lk r.2.2.1 k=σ0 k
 ok:r.1=σ'.isSome
 val: ∀σ1,σ'=some σ1->lk r.2.2.1=σ1
theorem Yep{σ0:Asg ν}: ∀(ps:List (ByteArray×ν)) (us:List ν) (clk:Int) (l:Ent ν) (fr:List ByteArray),KN l->(∀k∈fr,σ0 k=none)->(∀k,k∉fr->lk l k=σ0 k)->
  FitOk σ0 (tsM (lk l) ps us) (fitG ps us clk l fr) (fr.length+ps.length)
 | [],us,clk,l,fr,hk,hf,hl=>⟨hk,by simp[fitG],hf,hl,rfl,fun σ1 h=>by injection h⟩
 |p::ps,[],clk,l,fr,hk,hf,hl=>⟨hk,by simp[fitG],hf,hl,rfl,fun σ1 h=>by cases h⟩
 |p::ps,u::us,clk,l,fr,hk,hf,hl=>by
  have up: ∀{σ' r},FitOk σ0 σ' r (fr.length+ps.length)->FitOk σ0 σ' r (fr.length+(p::ps).length):=fun h=>⟨h.kn,by have:=h.len;simp only[YEm];omega,h.new,h.old,h.ok,h.val⟩
  have stop:FitOk σ0 none (false,clk,l,fr) (fr.length+(p::ps).length):=⟨hk,by simp,hf,hl,rfl,fun σ1 h=>by cases h⟩
  simp only[fitG,tsM,tmM]
  by_cases h0:p.1=nul0
  ·rw[if_pos h0,if_pos h0]
   by_cases hc:p.2=u
   ·rw[if_pos hc,if_pos hc];exact up (Yep ps us clk l fr hk hf hl)
   ·rw[if_neg hc,if_neg hc];exact stop
  ·rw[if_neg h0,if_neg h0]
   have e:lk l p.1=mfd eqS p.1 l:=rfl
   rw[e]
   cases hm:mfd eqS p.1 l with
   |some w=>
    simp only
    by_cases hc:w=u
    ·rw[if_pos hc,if_pos hc];exact up (Yep ps us clk l fr hk hf hl)
    ·rw[if_neg hc,if_neg hc];exact stop
   |none=>
    simp only[YEY]
    have hp:p.1∉fr->σ0 p.1=none:=fun h=>by rw[<-hl _ h];exact hm
    have:=Yep (σ0:=σ0) ps us (mck eqS clk p.1 l) (mpt eqS clk p.1 u l) (fr++[p.1]) (YnE hk) (fun k hk'=>by
     rcases YEw.1 hk' with h|h
     ·exact hf k h
     ·rw[YEl]at h;subst h
      by_cases hx:p.1∈fr
      ·exact hf _ hx
      ·exact hp hx) (fun k hk'=>by
     rw[YEw,YEl,not_or]at hk'
     rw[Ygw];unfold upd;rw[if_neg hk'.2];exact hl k hk'.1)
    rw[Ygw]at this
    exact⟨this.kn,by have:=this.len;simp only[List.length_append,YEm,YEA]at this⊢;omega,this.new,this.old,this.ok,this.val⟩
theorem fit0{ps:List (ByteArray×ν)}{us:List ν}(clk:Int){l:Ent ν}(hk:KN l):FitOk (lk l) (tsM (lk l) ps us) (fitG ps us clk l []) ps.length:=by
 have:=Yep (σ0:=lk l) ps us clk l [] hk (fun k h=>by cases h) (fun k _=>rfl)
 simpa using this
omit [DecidableEq ν] in
theorem YnI{σ0:Asg ν}{fr:List ByteArray}{l:Ent ν}(hk:KN l)(hn: ∀k∈fr,σ0 k=none)(ho: ∀k,k∉fr->lk l k=σ0 k):KN (delG l fr)/\lk (delG l fr)=σ0:=by
 obtain⟨h1,h2⟩:=YnH fr hk
 refine⟨h1,?_⟩
 funext k
 rw[h2]
 cases h:inL fr k with
 |true=>exact(hn k (inL_iff.1 h)).symm
 |false=>exact ho k fun hm=>by rw[inL_iff.2 hm]at h;cases h
def leA(σ τ:Asg ν):Prop:= ∀k v,σ k=some v->τ k=some v
omit [DecidableEq ν] in
theorem leA.refl(σ:Asg ν):leA σ σ:=fun _ _ h=>h
omit [DecidableEq ν] in
theorem leA.trans{σ τ ρ:Asg ν}(h:leA σ τ)(h':leA τ ρ):leA σ ρ:=fun k v e=>h' k v (h k v e)
def Img(σ:Asg ν):List (ByteArray×ν)->List ν->Prop
 | [],_=>True
 |_::_,[]=>False
 |p::ps,u::us=>(if p.1=nul0 then p.2=u else σ p.1=some u)/\Img σ ps us
omit [DecidableEq ν] in
theorem Img.mono{σ τ:Asg ν}(h:leA σ τ): ∀{ps us},Img σ ps us->Img τ ps us
 | [],_,_=>trivial
 |_::_,[],h'=>h'.elim
 |p::ps,u::us,h'=>by
  refine⟨?_,h'.2.mono h⟩
  have:=h'.1
  by_cases h0:p.1=nul0
  ·rw[if_pos h0]at this⊢;exact this
  ·rw[if_neg h0]at this⊢;exact h _ _ this
end
end
end Go.Abs.G47
namespace Go.Abs.G47
open Go Go.Abs
noncomputable section
theorem YDM{A B:Type}{a:Option A}{f g:A->Option B}{y:B}(h:YEV a f=some y)(k: ∀z,f z=some y->g z=some y):YEV a g=some y:=by
 cases a with
 |none=>cases h
 |some z=>exact k z h
theorem YCB{A B:Type}{a a':Option A}{f g:A->Option B}{y:B}(h:YEV a f=some y)(ha: ∀z,a=some z->a'=some z)(k: ∀z,f z=some y->g z=some y):YEV a' g=some y:=by
 cases a with
 |none=>cases h
 |some z=>rw[ha z rfl];exact k z h
theorem chkm{B:Type}{p:Prop}[Decidable p]{a a':Option B}{y:B}(h:chk p a=some y)(k:a=some y->a'=some y):chk p a'=some y:=by
 by_cases hp:p
 ·rw[chkT _ hp]at*;exact k h
 ·simp[chk,hp]at h
theorem YBw{B:Type}{c:Bool}{a a' x x':Option B}{y:B}(h:(bif c then a else x)=some y)(k:a=some y->a'=some y)(k':x=some y->x'=some y):(bif c then a' else x')=some y:=by
 cases c with
 |true=>exact k h
 |false=>exact k' h
theorem YnJ{S R:Type}{s s':S->Option (S⊕R)}(h: ∀x y,s x=some y->s' x=some y){x:S}{y:R}(hy:Yz7 s x=some y):Yz7 s' x=some y:=by
 obtain⟨n,hn⟩:=YcF hy
 refine YbV (n:=n) ?_
 clear hy
 induction n generalizing x with
 |zero=>cases hn
 |succ n ih=>
  simp only[YAC]at hn⊢
  cases hs:s x with
  |none=>rw[hs]at hn;cases hn
  |some z=>
   rw[hs]at hn
   rw[h x z hs]
   cases z with
   |inl a=>exact ih hn
   |inr b=>exact hn
theorem Yb6{α:Type}{l:List α}{n:Nat}{d:α}(h:n<l.length):l.drop n=l.getD n d::l.drop (n+1):=by
 rw[List.drop_eq_getElem_cons h,YEs,YD7 h];rfl
theorem eqT(a b:Term):(decide (a.1=b.1)&& (decide (a.2.1=b.2.1)&& (decide (a.2.2.1=b.2.2.1)&& (decide (a.2.2.2=b.2.2.2)&&true))))=decide (a=b):=by
 obtain⟨a1,a2,a3,a4⟩:=a
 obtain⟨b1,b2,b3,b4⟩:=b
 rw[YE6];simp
def wfB(hd:List ByteArray)(l:List Atom):Bool:=bif decide ((l.length:Int)<1)then false else bif decide ((6:Int)< (l.length:Int))then false else
 bif anyN (fun m=> !YAF (l.getD m zA).1||badT (l.getD m zA).2) l.length 0 then false else YBN hd l
theorem YDa(l:List Term)(h:l.length<=maxEl):q76 loO l=some (badT l):=by
 have:Yf0 loO (l,(l.length:Int),0)=some (Yz0 (R:=Int⊕Unit) (fun m=>bif !YAx (l.getD m zM)then some (.inl (m:Int))else none) l.length 0 (.inr ())):=by
  refine YaA (fun n=>(l,(l.length:Int),(n:Int))) _ l.length _ rfl ?_ (fun n hn=> ?_)
  ·simp[Yd1]
  ·simp only[Yd1,ltI hn,cond_true,inc hn h,YE9,q74]
   rw[chkT _ (by omega),YDW,YzU,YzU]
   cases YAx (l.getD n zM)<;>rfl
 unfold q76 q75 badT
 rw[this,YzU,<-Ygq]
 unfold idxR
 cases Yz0 (R:=Int⊕Unit) (fun m=>bif !YAx (l.getD m zM)then some (.inl (m:Int))else none) l.length 0 (.inr ())<;>rfl
def fW(l:List Atom)(n:Nat):Bool:= !YAF (l.getD n zA).1||badT (l.getD n zA).2
theorem tWf(hd:List ByteArray)(l:List Atom)(hh:hd.length<=maxEl)(h2:sumT l<=maxEl):q77 loO hd l=some (wfB hd l):=by
 have hm:maxEl=1073741824:=rfl
 unfold q77 wfB
 by_cases h1:(l.length:Int)<1
 ·simp[h1]
 ·by_cases h6:(6:Int)< (l.length:Int)
  ·simp[h1,h6]
  ·simp only[h1,h6,decide_false,cond_false]
   have:Yf1 loO (l,(l.length:Int),0,hd,l)=some (Yz0 (R:=Bool⊕ (List ByteArray×List Atom)) (fun m=>bif fW l m then some (.inl false)else none) l.length 0 (.inr (hd,l))):=by
    refine YaA (fun n=>(l,(l.length:Int),(n:Int),hd,l)) _ l.length _ rfl ?_ (fun n hn=> ?_)
    ·simp[Yd2]
    ·have:=Ybl hn
     simp only[Yd2,ltI hn,cond_true,inc hn (show l.length<=maxEl by omega),YE9]
     have hx:(l.getD n zA).2.length<=maxEl:=by omega
     rw[chkT _ (by omega),lexN,YzU,YDa _ hx,YzU]
     unfold fW
     cases YAF (l.getD n zA).1<;>cases badT (l.getD n zA).2<;>rfl
   rw[this,YzU]
   show _=some (bif anyN (fW l) l.length 0 then false else _)
   rcases Yb4 (f:=fun m=>bif fW l m then some (.inl false)else none) (r0:=(.inr (hd,l):Bool⊕ (List ByteArray×List Atom))) l.length 0 with⟨m,r,g1,g2,g3,g4⟩| ⟨g1,g2⟩
   ·rw[g4]
    have ha:anyN (fW l) l.length 0=true:=anyN_iff.2 ⟨m,g1,g2,by
     cases hf:fW l m with
     |true=>rfl
     |false=>rw[hf]at g3;cases g3⟩
    rw[ha]
    cases hf:fW l m with
    |true=>rw[hf]at g3;injection g3 with g3;subst g3;rfl
    |false=>rw[hf]at g3;cases g3
   ·rw[g1]
    have ha:anyN (fW l) l.length 0=false:=by
     cases ha:anyN (fW l) l.length 0 with
     |false=>rfl
     |true=>
      obtain⟨m,m1,m2,m3⟩:=anyN_iff.1 ha
      have:=g2 m m1 m2
      rw[m3]at this;cases this
    rw[ha]
    simp only[alt2,cond_false]
    rw[YD1 hd l hh (by omega) h2,YzU]
theorem rWf(hd:List ByteArray)(l:List Atom)(hh:hd.length<=maxEl)(h2:sumT l<=maxEl):q139 loO hd l=some (wfB hd l):=by
 have hm:maxEl=1073741824:=rfl
 unfold q139 wfB
 by_cases h1:(l.length:Int)<1
 ·simp[h1]
 ·by_cases h6:(6:Int)< (l.length:Int)
  ·simp[h1,h6]
  ·simp only[h1,h6,decide_false,cond_false]
   have:Ygj loO (0,hd,l)=some (Yz0 (R:=Bool⊕ (List ByteArray×List Atom)) (fun m=>bif fW l m then some (.inl false)else none) l.length 0 (.inr (hd,l))):=by
    refine YaA (fun n=>((n:Int),hd,l)) _ l.length _ rfl ?_ (fun n hn=> ?_)
    ·simp[Yeh]
    ·have:=Ybl hn
     simp only[Yeh,ltI hn,cond_true,inc hn (show l.length<=maxEl by omega),YE9]
     have hx:(l.getD n zA).2.length<=maxEl:=by omega
     rw[chkT _ (by omega),chkT _ (by omega),Ygu,YzU,YDL _ _ hx,YzU]
     unfold fW
     cases YAF (l.getD n zA).1<;>cases badT (l.getD n zA).2<;>rfl
   rw[this,YzU]
   show _=some (bif anyN (fW l) l.length 0 then false else _)
   rcases Yb4 (f:=fun m=>bif fW l m then some (.inl false)else none) (r0:=(.inr (hd,l):Bool⊕ (List ByteArray×List Atom))) l.length 0 with⟨m,r,g1,g2,g3,g4⟩| ⟨g1,g2⟩
   ·rw[g4]
    have ha:anyN (fW l) l.length 0=true:=anyN_iff.2 ⟨m,g1,g2,by
     cases hf:fW l m with
     |true=>rfl
     |false=>rw[hf]at g3;cases g3⟩
    rw[ha]
    cases hf:fW l m with
    |true=>rw[hf]at g3;injection g3 with g3;subst g3;rfl
    |false=>rw[hf]at g3;cases g3
   ·rw[g1]
    have ha:anyN (fW l) l.length 0=false:=by
     cases ha:anyN (fW l) l.length 0 with
     |false=>rfl
     |true=>
      obtain⟨m,m1,m2,m3⟩:=anyN_iff.1 ha
      have:=g2 m m1 m2
      rw[m3]at this;cases this
    rw[ha]
    simp only[alt2,cond_false]
    rw[YD2 hd l hh (by omega) h2,YzU]
abbrev pT(l:List Term):List (ByteArray×Term):=l.map fun t=>(t.1,t)
def atG(a b:Atom)(clk:Int)(l:Ent Term):Bool×Int×Ent Term×List ByteArray:=bif !decide (a.1=b.1)then(false,clk,l,[])else bif !decide ((a.2.length:Int)=(b.2.length:Int))then(false,clk,l,[])else fitG (pT a.2) b.2 clk l []
def atM(σ:Asg Term)(a b:Atom):Option (Asg Term):=bif !decide (a.1=b.1)then none else bif !decide ((a.2.length:Int)=(b.2.length:Int))then none else tsM σ (pT a.2) b.2
theorem Yzy(a b:Atom)(clk:Int){l:Ent Term}(hk:KN l):FitOk (lk l) (atM (lk l) a b) (atG a b clk l) a.2.length:=by
 have stop:FitOk (lk l) none (false,clk,l,[]) a.2.length:=⟨hk,by simp,fun _ h=>(List.not_mem_nil h).elim,fun _ _=>rfl,rfl,fun _ h=>nomatch h⟩
 unfold atM atG
 cases decide (a.1=b.1)with
 |false=>exact stop
 |true=>
  cases decide ((a.2.length:Int)=(b.2.length:Int))with
  |false=>exact stop
  |true=>
   have:=fit0 (ps:=pT a.2) (us:=b.2) clk hk
   rw[YEk]at this
   exact this
theorem Yzz(ts us:List Term)(b0:ByteArray)(m2 m3:Bool)(h:ts.length=us.length)(hm:ts.length<=maxEl): ∀(k n:Nat),n+k=ts.length-> ∀(clk:Int) (l:Ent Term) (fr:List ByteArray),fr.length+k<=maxEl->
  Yf4 loO (ts,(ts.length:Int),(n:Int),clk,l,m2,m3,b0,us,fr)=some (let r:=fitG ((pT ts).drop n) (us.drop n) clk l fr
   bif r.1 then .inr (r.2.1,r.2.2.1,m2,m3,r.2.2.2)else .inl (r.2.2.2,false,r.2.1,r.2.2.1,m2,m3)):=by
 have hM:maxEl=1073741824:=rfl
 intro k
 induction k with
 |zero=>
  intro n hn clk l fr hf
  show Yz7 _ _=_
  rw[Yaj]
  have e:n=ts.length:=by omega
  subst e
  simp only[YcN,nlI,cond_false]
  rw[List.drop_of_length_le (by rw[YEk];omega)]
  rfl
 |succ k ih=>
  intro n hn clk l fr hf
  have hlt:n<ts.length:=by omega
  show Yz7 _ _=_
  have e1:(pT ts).drop n=((ts.getD n zM).1,ts.getD n zM)::(pT ts).drop (n+1):=by
   rw[Yb6 (d:=(zM.1,zM)) (by rw[YEk];omega)]
   simp[YEs,hlt]
  rw[e1,Yb6 (l:=us) (d:=zM) (by omega)]
  have key: ∀t u:Term,ts.getD n zM=t->us.getD n zM=u->Yz7 (YcN loO) (ts,(ts.length:Int),(n:Int),clk,l,m2,m3,b0,us,fr)=some (let r:=fitG ((t.1,t)::(pT ts).drop (n+1)) (u::us.drop (n+1)) clk l fr
   bif r.1 then .inr (r.2.1,r.2.2.1,m2,m3,r.2.2.2)else .inl (r.2.2.2,false,r.2.1,r.2.2.1,m2,m3)):=by
   intro t u ht hu'
   rw[Yaj]
   simp only[YcN,ltI hlt,cond_true,YE9,Yd3,fitG,ht,hu']
   rw[chkT _ (by omega)]
   by_cases h0:t.1=nul0
   ·rw[if_pos h0]
    simp only[h0,decide_true,YE4,cond_false,YzU]
    rw[chkT _ (by omega)]
    have et:=eqT t u
    simp only[h0]at et
    rw[et]
    by_cases hu:t=u
    ·rw[if_pos hu]
     simp only[hu,decide_true,YE4,cond_false,YzU,alt2,inc hlt hm]
     exact ih (n+1) (by omega) clk l fr (by omega)
    ·rw[if_neg hu]
     simp only[hu,decide_false,YE7,cond_true,YzU,alt2]
     rfl
   ·rw[if_neg h0]
    have e0:decide (t.1=nul0)=false:=decide_eq_false h0
    simp only[e0,YE7,cond_true]
    unfold mhs mgt
    cases hf:mfd eqS t.1 l with
    |none=>
     simp only[YE7,cond_true]
     rw[chkT _ (by omega),chkT _ (by rw[List.length_singleton];omega),YzU]
     simp only[alt2,inc hlt hm]
     exact ih (n+1) (by omega) _ _ _ (by rw[List.length_append,List.length_singleton];omega)
    |some w=>
     simp only[YE4,cond_false]
     rw[chkT _ (by omega),eqT]
     by_cases hu:w=u
     ·rw[if_pos hu]
      simp only[hu,decide_true,YE4,cond_false,YzU,alt2,inc hlt hm]
      exact ih (n+1) (by omega) clk l fr (by omega)
     ·rw[if_neg hu]
      simp only[hu,decide_false,YE7,cond_true,YzU,alt2]
      rfl
  exact key _ _ rfl rfl
theorem tAt(a b:Atom)(clk:Int)(l:Ent Term)(m2 m3:Bool)(hm:a.2.length<=maxEl):q82 loO a.1 a.2 b.1 b.2 clk l m2 m3=some ((atG a b clk l).2.2.2,(atG a b clk l).1,(atG a b clk l).2.1,(atG a b clk l).2.2.1,m2,m3):=by
 unfold q82 atG
 by_cases h1:a.1=b.1
 ·by_cases h2:(a.2.length:Int)=(b.2.length:Int)
  ·simp only[h1,h2,decide_true,YE4,cond_false]
   have:=Yzz a.2 b.2 b.1 m2 m3 (by omega) hm a.2.length 0 (by omega) clk l [] (by simp;omega)
   simp only[YEt,h2]at this
   rw[show((0:Nat):Int)=0 from rfl]at this
   rw[this,YzU]
   cases(fitG (pT a.2) b.2 clk l []).1<;>rfl
  ·simp[h1,h2]
 ·simp[h1]
end
end Go.Abs.G47
namespace Go.Abs.G47
open Go Go.Abs
noncomputable section
def exM:List Atom->Asg Term->List Atom->Option (Asg Term)
 | [],σ,_=>some σ
 |a::r,σ,tg=>tg.findSome? fun b=>(atM σ a b).bind fun σ'=>exM r σ' tg
abbrev XRec:=List Atom×List Atom×Int×Ent Term×Bool×Bool->Option (Bool×Int×Ent Term×Bool×Bool)
theorem tDel(rec:XRec)(rest tg v16:List Atom)(v17 v18:Int)(fr:List ByteArray)(clk:Int)(l:Ent Term)(m2 m3:Bool)(h:fr.length<=maxEl):
  YbY loO rec (rest,tg,v16,v17,v18,fr,(fr.length:Int),0,clk,l,m2,m3)=some (rest,tg,v16,v17,v18,clk,delG l fr,m2,m3):=by
 have:=YaK (step:=YcO loO rec) (s:=(rest,tg,v16,v17,v18,fr,(fr.length:Int),0,clk,l,m2,m3)) (r:=(rest,tg,v16,v17,v18,clk,delG l fr,m2,m3)) (N:=fr.length) (st:=fun n=>(rest,tg,v16,v17,v18,fr,(fr.length:Int),(n:Int),clk,delG l (fr.take n),m2,m3)) rfl
  (by simp only[YcO,nlI,cond_false,YEj])
  (fun n hn=>by
   simp only[YcO,ltI hn,cond_true,inc hn h,YE9]
   rw[chkT _ (by omega)]
   have e:delG l (fr.take (n+1))=mdl eqS (fr.getD n nul0) (delG l (fr.take n)):=YcV (fun l k=>mdl eqS k l) l (d:=nul0) hn
   rw[e])
 exact this
theorem YzA(rec:XRec)(a:Atom)(r tg:List Atom)(hto:tg.length<=maxEl)(ha:a.2.length<=maxEl)(m2 m3:Bool)
  (hrec: ∀clk (l:Ent Term),KN l-> ∃clk' l',rec (r,tg,clk,l,m2,m3)=some ((exM r (lk l) tg).isSome,clk',l',m2,m3)/\KN l'/\lk l'=(exM r (lk l) tg).getD (lk l)) (σ:Asg Term):
  ∀(k n:Nat),n+k=tg.length-> ∀(clk:Int) (l:Ent Term),KN l->lk l=σ-> ∃clk' l',KN l'/\ (
   match(tg.drop n).findSome? (fun b=>(atM σ a b).bind fun σ'=>exM r σ' tg)with
   |some σ'=>YbZ loO rec (a::r,tg,tg,(tg.length:Int),(n:Int),clk,l,m2,m3)=some (.inl (true,clk',l',m2,m3))/\lk l'=σ'
   |none=>YbZ loO rec (a::r,tg,tg,(tg.length:Int),(n:Int),clk,l,m2,m3)=some (.inr (clk',l',m2,m3))/\lk l'=σ):=by
 have hM:maxEl=1073741824:=rfl
 intro k
 induction k with
 |zero=>
  intro n hn clk l hk hl
  refine⟨clk,l,hk,?_⟩
  rw[List.drop_of_length_le (by omega)]
  simp only[List.findSome?_nil]
  refine⟨?_,hl⟩
  show Yz7 _ _=_
  rw[Yaj]
  have e:n=tg.length:=by omega
  subst e
  simp only[Ybh,nlI,cond_false]
 |succ k ih=>
  intro n hn clk l hk hl
  have hlt:n<tg.length:=by omega
  rw[Yb6 (d:=zA) hlt,List.findSome?_cons]
  have hA:=Yzy a (tg.getD n zA) clk hk
  have hT:=tAt a (tg.getD n zA) clk l m2 m3 ha
  rw[hl]at hA
  have step: ∀s',Ybh loO rec (a::r,tg,tg,(tg.length:Int),(n:Int),clk,l,m2,m3)=s'->YbZ loO rec (a::r,tg,tg,(tg.length:Int),(n:Int),clk,l,m2,m3)=(match s' with|some (.inl s)=>YbZ loO rec s|some (.inr x)=>some x|none=>none):=by
   intro s' hs;subst hs
   show Yz7 _ _=_
   rw[Yaj]
   rcases Ybh loO rec (a::r,tg,tg,(tg.length:Int),(n:Int),clk,l,m2,m3)with _| (_|_)<;>rfl
  have nx:YFg .i64 ((n:Int)+1)=((n+1:Nat):Int):=inc hlt hto
  have e0:(a::r).getD 0 zA=a:=rfl
  have e1:((a::r).take ((a::r).length:Int).toNat).drop 1=r:=by simp
  have es:Ybh loO rec (a::r,tg,tg,(tg.length:Int),(n:Int),clk,l,m2,m3)=YEV (q82 loO a.1 a.2 (tg.getD n zA).1 (tg.getD n zA).2 clk l m2 m3) fun y346=>bif y346.2.1 then(YEV (rec (r,tg,y346.2.2.1,y346.2.2.2.1,y346.2.2.2.2.1,y346.2.2.2.2.2)) fun y347=>bif y347.1 then(some (.inr (.inl (true,y347.2.1,y347.2.2.1,y347.2.2.2.1,y347.2.2.2.2))))else(YEV (YbY loO rec (a::r,tg,tg,(tg.length:Int),(n:Int),y346.1,(y346.1.length:Int),(0:Int),y347.2.1,y347.2.2.1,y347.2.2.2.1,y347.2.2.2.2)) fun y348=>some (.inl (y348.1,y348.2.1,y348.2.2.1,y348.2.2.2.1,(YFg .i64 (y348.2.2.2.2.1+(1:Int))),y348.2.2.2.2.2.1,y348.2.2.2.2.2.2.1,y348.2.2.2.2.2.2.2.1,y348.2.2.2.2.2.2.2.2))))else(YEV (YbY loO rec (a::r,tg,tg,(tg.length:Int),(n:Int),y346.1,(y346.1.length:Int),(0:Int),y346.2.2.1,y346.2.2.2.1,y346.2.2.2.2.1,y346.2.2.2.2.2)) fun y349=>some (.inl (y349.1,y349.2.1,y349.2.2.1,y349.2.2.2.1,(YFg .i64 (y349.2.2.2.2.1+(1:Int))),y349.2.2.2.2.2.1,y349.2.2.2.2.2.2.1,y349.2.2.2.2.2.2.2.1,y349.2.2.2.2.2.2.2.2))):=by
   simp only[Ybh,ltI hlt,cond_true,YE9]
   rw[chkT _ (by omega),chkT _ (by simp)]
   congr 1
   funext y346
   congr 1
   rw[chkT _ (by simp;omega)]
   simp
  rw[es,hT,YzU]at step
  simp only at step
  have hlen:(atG a (tg.getD n zA) clk l).2.2.2.length<=maxEl:=YEP hA.len ha
  rw[hA.ok]at step
  cases hat:atM σ a (tg.getD n zA)with
  |none=>
   rw[hat]at step
   simp only[Option.isSome_none,cond_false]at step
   rw[tDel _ _ _ _ _ _ _ _ _ _ _ hlen,YzU]at step
   simp only[nx]at step
   obtain⟨d1,d2⟩:=YnI hA.kn hA.new hA.old
   obtain⟨clk',l',k1,k2⟩:=ih (n+1) (by omega) (atG a (tg.getD n zA) clk l).2.1 _ d1 d2
   refine⟨clk',l',k1,?_⟩
   rw[step _ rfl]
   exact k2
  |some σ1=>
   rw[hat]at step
   simp only[Option.isSome_some,cond_true]at step
   obtain⟨c2,l2,r1,r2,r3⟩:=hrec (atG a (tg.getD n zA) clk l).2.1 _ hA.kn
   rw[r1,YzU,hA.val σ1 hat]at step
   rw[hA.val σ1 hat]at r3
   simp only[YEY]
   cases hx:exM r σ1 tg with
   |some σ2=>
    rw[hx]at step r3
    exact⟨c2,l2,r2,step _ rfl,r3⟩
   |none=>
    rw[hx]at step r3
    simp only[Option.isSome_none,cond_false]at step
    rw[tDel _ _ _ _ _ _ _ _ _ _ _ hlen,YzU]at step
    simp only[nx]at step
    simp only[Option.getD_none]at r3
    obtain⟨d1,d2⟩:=YnI (σ0:=σ) r2 hA.new (by rw[r3,<-hA.val σ1 hat];exact hA.old)
    obtain⟨clk',l',k1,k2⟩:=ih (n+1) (by omega) c2 _ d1 d2
    refine⟨clk',l',k1,?_⟩
    rw[step _ rfl]
    exact k2
theorem YzB(tg:List Atom)(hto:tg.length<=maxEl)(m2 m3:Bool)(j:Nat): ∀(rest:List Atom),(∀a∈rest,a.2.length<=maxEl)-> ∀(clk:Int) (l:Ent Term),KN l->
  ∃clk' l',YaV loO (rest.length+1+j) (rest,tg,clk,l,m2,m3)=some ((exM rest (lk l) tg).isSome,clk',l',m2,m3)/\KN l'/\lk l'=(exM rest (lk l) tg).getD (lk l):=by
 intro rest
 induction rest with
 |nil=>
  intro _ clk l hk
  refine⟨clk,l,?_,hk,rfl⟩
  have e:([]:List Atom).length+1+j=j+1:=by simp;omega
  rw[e];rfl
 |cons a r ih=>
  intro ha clk l hk
  have e:(a::r).length+1+j=(r.length+1+j)+1:=by simp;omega
  rw[e]
  obtain⟨clk',l',k1,k2⟩:=YzA (YaV loO (r.length+1+j)) a r tg hto (ha a (YEg ..)) m2 m3 (fun clk l hk=>ih (fun b hb=>ha b (YEn _ hb)) clk l hk) (lk l) tg.length 0 (by omega) clk l hk rfl
  rw[YEt]at k2
  refine⟨clk',l',?_⟩
  show Yb0 loO (YaV loO (r.length+1+j)) (a::r) tg clk l m2 m3=_/\_
  have e0:decide (((a::r).length:Int)=0)=false:=by simp;omega
  unfold Yb0
  rw[e0,cond_false]
  simp only[exM]
  rw[show((0:Nat):Int)=0 from rfl]at k2
  cases hx:tg.findSome? (fun b=>(atM (lk l) a b).bind fun σ'=>exM r σ' tg)with
  |some σ'=>
   rw[hx]at k2
   simp only at k2
   rw[k2.1,YzU]
   exact⟨rfl,k1,k2.2⟩
  |none=>
   rw[hx]at k2
   simp only at k2
   rw[k2.1,YzU]
   exact⟨rfl,k1,k2.2⟩
theorem YnK: ∀n x y,YaV loO n x=some y->YaV loO (n+1) x=some y
 |0,_,_,h=>by cases h
 |n+1,x,y,h=>by
  have ih:=YnK n
  have h':Yb0 loO (YaV loO n) x.1 x.2.1 x.2.2.1 x.2.2.2.1 x.2.2.2.2.1 x.2.2.2.2.2=some y:=h
  show Yb0 loO (YaV loO (n+1)) x.1 x.2.1 x.2.2.1 x.2.2.2.1 x.2.2.2.2.1 x.2.2.2.2.2=some y
  unfold Yb0 at h'⊢
  refine YBw h' (fun h=>h) fun h=>YCB h (fun z hz=> ?_) fun _ h=>h
  refine YnJ (fun s q hs=> ?_) hz
  obtain⟨s1,s2,s3,s4,s5,s6,s7,s8,s9⟩:=s
  simp only[Ybh]at hs⊢
  exact YBw hs (fun h=>chkm h fun h=>chkm h fun h=>YDM h fun _ h=>YBw h (fun h=>chkm h fun h=>YCB h (ih _) fun _ h=>YBw h (fun h=>h) fun h=>h) fun h=>h) fun h=>h
theorem tExt(rest tg:List Atom)(hto:tg.length<=maxEl)(hr: ∀a∈rest,a.2.length<=maxEl)(m2 m3:Bool)(clk:Int)(l:Ent Term)(hk:KN l):
  ∃clk' l',q83 loO rest tg clk l m2 m3=some ((exM rest (lk l) tg).isSome,clk',l',m2,m3)/\KN l'/\lk l'=(exM rest (lk l) tg).getD (lk l):=by
 obtain⟨clk',l',h1,h2⟩:=YzB tg hto m2 m3 0 rest hr clk l hk
 exact⟨clk',l',YfB YnK (n:=0) (by rw[YEM];exact h1),h2⟩
end
end Go.Abs.G47
namespace Go.Abs.G47
open Go Go.Abs
noncomputable section
def sg(a b:Int):Int:=bif decide (a<b)then-1 else bif decide (b<a)then 1 else 0
theorem Ygx(a b:Int):q124 loO a b=some (sg a b):=by
 unfold q124 sg
 by_cases h1:a<b<;>by_cases h2:b<a<;>simp[h1,h2]
theorem sg_zero{a b:Int}:sg a b=0↔a=b:=by
 unfold sg
 by_cases h1:a<b
 ·simp[h1];omega
 ·by_cases h2:b<a
  ·simp[h1,h2];omega
  ·simp[h1,h2];omega
def fS(a b:ByteArray)(n:Nat):Option (Int⊕ (ByteArray×ByteArray)):=bif !decide (YzT a n=YzT b n)then some (.inl (sg (YzT a n) (YzT b n)))else none
def cmpS(a b:ByteArray):Int:=match Yz0 (fS a b) (min a.size b.size) 0 (.inr (a,b))with
 | .inl i=>i
 | .inr _=>sg a.size b.size
theorem YzC(a b:ByteArray)(ha:a.size<=maxEl)(hb:b.size<=maxEl):q125 loO a b=some (cmpS a b):=by
 have hm:maxEl=1073741824:=rfl
 have hL:Ygi loO (a,b,0)=some (Yz0 (fS a b) (min a.size b.size) 0 (.inr (a,b))):=by
  refine YaA (fun n=>(a,b,(n:Int))) _ (min a.size b.size) _ rfl ?_ (fun n hn=> ?_)
  ·rcases Nat.le_total a.size b.size with h|h
   ·rw[Nat.min_eq_left h];simp[YcP]
   ·rw[Nat.min_eq_right h]
    have e:decide ((b.size:Int)< (b.size:Int))=false:=by simp
    simp only[YcP,e,cond_false]
    cases decide ((b.size:Int)< (a.size:Int))<;>rfl
  ·have e1:decide ((n:Int)< (a.size:Int))=true:=by simp;omega
   have e1':decide ((n:Int)< (b.size:Int))=true:=by simp;omega
   have e2:YFg .i64 ((n:Int)+1)=((n+1:Nat):Int):=by rw[wr6 (by omega) (by omega)];omega
   have r1:=Ynv a n
   have r2:=Ynv b n
   simp only[YcP,e1,e1',cond_true,e2,Ygx,YzU,wr6 (show-9223372036854775808<=YzT a n by omega) (by omega),wr6 (show-9223372036854775808<=YzT b n by omega) (by omega)]
   rw[chkT _ (by omega),chkT _ (by omega),chkT _ (by omega),chkT _ (by omega)]
   unfold fS
   cases decide (YzT a n=YzT b n)<;>rfl
 unfold q125 cmpS
 rw[hL,YzU]
 rcases Yb4 (f:=fS a b) (r0:=.inr (a,b)) (min a.size b.size) 0 with⟨m,r,h1,h2,h3,h4⟩| ⟨h1,h2⟩
 ·rw[h4]
  unfold fS at h3
  cases hd:decide (YzT a m=YzT b m)with
  |true=>rw[hd]at h3;cases h3
  |false=>rw[hd]at h3;injection h3 with h3;subst h3;rfl
 ·rw[h1];simp only[alt2,Ygx,YzU]
theorem YzD{a b:ByteArray}:cmpS a b=0↔a=b:=by
 unfold cmpS
 rcases Yb4 (f:=fS a b) (r0:=.inr (a,b)) (min a.size b.size) 0 with⟨m,r,h1,h2,h3,h4⟩| ⟨h1,h2⟩
 ·rw[h4]
  unfold fS at h3
  by_cases hd:YzT a m=YzT b m
  ·simp[hd]at h3
  ·simp[hd]at h3
   subst h3
   simp only
   rw[sg_zero]
   exact⟨fun h=>absurd h hd,fun h=>by subst h;exact absurd rfl hd⟩
 ·rw[h1]
  simp only[sg_zero]
  constructor
  ·intro h
   have hs:a.size=b.size:=by omega
   refine Yzo hs (fun n hn=> ?_)
   have:=h2 n (by omega) (by omega)
   unfold fS at this
   by_cases hd:YzT a n=YzT b n
   ·exact hd
   ·simp[hd]at this
  ·intro h;rw[h]
def cmpV(v w:Int×Int×ByteArray):Int:=bif !decide (sg v.1 w.1=0)then sg v.1 w.1 else bif !decide (sg v.2.1 w.2.1=0)then sg v.2.1 w.2.1 else cmpS v.2.2 w.2.2
theorem YzE(v w:Int×Int×ByteArray)(hv:v.2.2.size<=maxEl)(hw:w.2.2.size<=maxEl):q126 loO v.1 v.2.1 v.2.2 w.1 w.2.1 w.2.2=some (cmpV v w):=by
 unfold q126 cmpV
 simp only[Ygx,YzU,YzC _ _ hv hw]
 cases decide (sg v.1 w.1=0)<;>cases decide (sg v.2.1 w.2.1=0)<;>rfl
theorem YzF{v w:Int×Int×ByteArray}:cmpV v w=0↔v=w:=by
 obtain⟨a,b,c⟩:=v
 obtain⟨a',b',c'⟩:=w
 unfold cmpV
 by_cases h1:sg a a'=0
 ·by_cases h2:sg b b'=0
  ·simp only[h1,h2,decide_true,YE4,cond_false,YzD]
   rw[sg_zero]at h1 h2
   simp[h1,h2]
  ·simp only[h1,h2,decide_true,decide_false,YE4,YE7,cond_false,cond_true]
   refine⟨fun h=>h.elim,fun h=> ?_⟩
   injection h with _ h;injection h with h _
   exact h2 (sg_zero.2 h)
 ·simp only[h1,decide_false,YE7,cond_true]
  refine⟨fun h=>h.elim,fun h=> ?_⟩
  injection h with h _
  exact h1 (sg_zero.2 h)
end
end Go.Abs.G47
namespace Go.Abs.G47
open Go Go.Abs
noncomputable section
def SzT(l:List Term):Prop:= ∀t∈l,t.2.2.2.size<=maxEl
theorem YCi(a b:Term)(ha:a.2.2.2.size<=maxEl)(hb:b.2.2.2.size<=maxEl):q127 loO a.1 a.2.1 a.2.2.1 a.2.2.2 b.1 b.2.1 b.2.2.1 b.2.2.2=some (decide (a=b)):=by
 unfold q127
 obtain⟨a0,a1⟩:=a
 obtain⟨b0,b1⟩:=b
 by_cases h:a0=b0
 ·simp only[h,decide_true,cond_true]
  rw[YzE a1 b1 ha hb,YzU]
  have:decide (cmpV a1 b1=0)=decide (a1=b1):=by rw[decide_eq_decide];exact YzF
  rw[this];simp
 ·simp[h]
theorem YnL{p:Nat->Bool}: ∀(k n:Nat),idxR p (k+1) n=bif decide (0<=idxR p k n)then idxR p k n else bif p (n+k)then((n+k:Nat):Int)else-1
 |0,n=>by
  unfold idxR
  cases hp:p n<;>simp[Yz0,hp]
 |k+1,n=>by
  have e: ∀j,idxR p (j+1) n=bif p n then(n:Int)else idxR p j (n+1):=fun j=>by
   unfold idxR
   cases hp:p n<;>simp[Yz0,hp]
  rw[e (k+1),e k]
  cases hp:p n with
  |true=>simp
  |false=>
   simp only[cond_false]
   rw[YnL k (n+1),show n+1+k=n+(k+1) by omega]
theorem YzG{p q:Nat->Bool}(k n:Nat)(h: ∀m,n<=m->m<n+k->p m=q m):idxR p k n=idxR q k n:=by
 unfold idxR
 rw[Ygp k n (fun m h1 h2=>by rw[h m h1 h2])]
theorem YnM{α:Type}{a b:List α}{n:Nat}{d:α}(h:n<a.length):(a++b).getD n d=a.getD n d:=by
 simp[YEs,YD9 h]
theorem YnN{α:Type}{a:List α}{x d:α}:(a++[x]).getD a.length d=x:=by
 simp[YEs]
theorem YzH(N:List ByteArray)(x k:ByteArray):idxI (N++[x]) k=bif decide (0<=idxI N k)then idxI N k else bif decide (k=x)then(N.length:Int)else-1:=by
 unfold idxI
 rw[List.length_append,List.length_singleton,YnL]
 have e:idxR (fun m=>decide (k=(N++[x]).getD m nul0)) N.length 0=idxR (fun m=>decide (k=N.getD m nul0)) N.length 0:=YzG _ _ fun m _ h=>by rw[YnM (by omega)]
 rw[e]
 simp only[YEM]
 rw[YnN]
theorem Ygy(N:List ByteArray)(k:ByteArray):(∃m:Nat,idxI N k=(m:Int)/\m<N.length/\N.getD m nul0=k)\/(idxI N k= -1/\k∉N):=by
 rcases Ynz (p:=fun m=>decide (k=N.getD m nul0)) (k:=N.length) (n:=0)with⟨m,_,h2,h3,h4⟩| ⟨h1,h2⟩
 ·exact .inl ⟨m,h4,by omega,(of_decide_eq_true h3).symm⟩
 ·refine .inr ⟨h1,fun hm=> ?_⟩
  have:=YcW N k
  rw[inL_iff.2 hm]at this
  have h1:idxI N k= -1:=h1
  rw[h1]at this;simp at this
def YAg(N:List ByteArray)(T:List Term):Asg Term:=fun k=>bif decide (0<=idxI N k)then some (T.getD (idxI N k).toNat zM)else none
theorem YnO{N:List ByteArray}{T:List Term}(hl:N.length=T.length){x:ByteArray}(u:Term)(hx:idxI N x<0):YAg (N++[x]) (T++[u])=upd (YAg N T) x u:=by
 funext k
 unfold YAg upd
 rw[YzH]
 rcases Ygy N k with⟨m,h1,h2,h3⟩| ⟨h1,h2⟩
 ·have hk:k≠x:=fun e=>by rw[<-e,h1]at hx;omega
  rw[if_neg hk,h1]
  have e0:decide ((0:Int)<=(m:Int))=true:=by simp
  simp only[e0,cond_true,YE9,h1]
  rw[YnM (by omega)]
 ·rw[h1]
  by_cases hk:k=x
  ·rw[if_pos hk]
   have e0:decide ((0:Int)<= -1)=false:=rfl
   have e1:decide ((0:Int)<=(N.length:Int))=true:=by simp
   simp only[e0,hk,decide_true,cond_false,cond_true,e1,YE9]
   rw[hl,YnN]
  ·rw[if_neg hk]
   have e0:decide ((0:Int)<= -1)=false:=rfl
   simp only[e0,hk,decide_false,cond_false,h1]
structure GB(N:List ByteArray)(T:List Term):Prop where
 len:N.length=T.length
 sz:SzT T
theorem YcY{T:List Term}(h:SzT T)(n:Nat):(T.getD n zM).2.2.2.size<=maxEl:=by
 by_cases hn:n<T.length
 ·exact h _ (Yb5 hn)
 ·rw[YEs,YEp (by omega)];exact YEQ _
theorem rTm{N:List ByteArray}{T:List Term}(g:GB N T)(t u:Term)(hN:N.length+1<=maxEl)(ht:t.2.2.2.size<=maxEl)(hu:u.2.2.2.size<=maxEl):
  ∃N' T',q128 loO N T t.1 t.2.1 t.2.2.1 t.2.2.2 u.1 u.2.1 u.2.2.1 u.2.2.2=some (N',T',(tmM (YAg N T) t.1 t u).isSome)/\GB N' T'/\N'.length<=N.length+1/\ ∀σ',tmM (YAg N T) t.1 t u=some σ'->YAg N' T'=σ':=by
 unfold q128 tmM
 by_cases h0:t.1=nul0
 ·refine⟨N,T,?_,g,by omega,?_⟩
  ·rw[decide_eq_true h0,cond_true,YCi t u ht hu,YzU,if_pos h0]
   by_cases h:t=u<;>simp[h]
  ·intro σ' h
   rw[if_pos h0]at h
   by_cases hc:t=u
   ·rw[if_pos hc]at h;injection h
   ·rw[if_neg hc]at h;cases h
 ·rw[if_neg h0,decide_eq_false h0,cond_false,Yen _ _ (by omega),YzU]
  rcases Ygy N t.1 with⟨m,h1,h2,h3⟩| ⟨h1,h2⟩
  ·have e0:decide ((0:Int)<=(m:Int))=true:=by simp
   have eb:YAg N T t.1=some (T.getD m zM):=by unfold YAg;rw[h1,e0];simp
   rw[h1,e0,cond_true,eb]
   have:=g.len
   refine⟨N,T,?_,g,by omega,?_⟩
   ·rw[chkT _ (by omega)]
    simp only[YE9]
    rw[YCi (T.getD m zM) u (YcY g.sz m) hu,YzU]
    by_cases h:T.getD m zM=u
    ·rw[if_pos h,decide_eq_true h];rfl
    ·rw[if_neg h,decide_eq_false h];rfl
   ·intro σ' h
    simp only at h
    by_cases hc:T.getD m zM=u
    ·rw[if_pos hc]at h;injection h
    ·rw[if_neg hc]at h;cases h
  ·have e0:decide ((0:Int)<= -1)=false:=rfl
   have eb:YAg N T t.1=none:=by unfold YAg;rw[h1];rfl
   rw[h1,e0,cond_false,eb]
   have:=g.len
   refine⟨N++[t.1],T++[u],?_,⟨by simp[g.len],fun v hv=> ?_⟩,by simp,?_⟩
   ·rw[chkT _ (by omega),chkT _ (by simpa using hN),chkT _ (by omega),chkT _ (by simp;omega)]
    rfl
   ·rcases YEw.1 hv with h|h
    ·exact g.sz v h
    ·rw[YEl]at h;rw[h];exact hu
   ·intro σ' h
    injection h with h;subst h
    exact YnO g.len u (by omega)
theorem YzI(a0:ByteArray)(ts us:List Term)(v0:List ByteArray)(v1:List Term)(h:ts.length=us.length)(hm:us.length<=maxEl)(ht:SzT ts)(hu:SzT us): ∀(k n:Nat),n+k=us.length-> ∀(N:List ByteArray) (T:List Term),GB N T->N.length+k<=maxEl->
  ∃N' T',YcR loO (us,true,(n:Int),N,T,a0,ts,v0,v1)=some ((tsM (YAg N T) ((pT ts).drop n) (us.drop n)).isSome,N',T',v0,v1)/\GB N' T'/\N'.length<=N.length+k/\ ∀σ',tsM (YAg N T) ((pT ts).drop n) (us.drop n)=some σ'->YAg N' T'=σ':=by
 have hM:maxEl=1073741824:=rfl
 intro k
 induction k with
 |zero=>
  intro n hn N T g hN
  have e:n=us.length:=by omega
  subst e
  refine⟨N,T,?_,g,by omega,?_⟩
  ·show Yz7 _ _=_
   rw[Yaj]
   simp only[YcQ,nlI,cond_false]
   rw[List.drop_of_length_le (l:=pT ts) (by rw[YEk];omega)]
   rfl
  ·rw[List.drop_of_length_le (l:=pT ts) (by rw[YEk];omega)]
   intro σ' h;injection h
 |succ k ih=>
  intro n hn N T g hN
  have hlt:n<us.length:=by omega
  have e1:(pT ts).drop n=((ts.getD n zM).1,ts.getD n zM)::(pT ts).drop (n+1):=by
   rw[Yb6 (d:=(zM.1,zM)) (by rw[YEk];omega)]
   have:n<ts.length:=by omega
   simp[YEs,this]
  obtain⟨N1,T1,r1,r2,r3,r4⟩:=rTm g (ts.getD n zM) (us.getD n zM) (by omega) (YcY ht n) (YcY hu n)
  have hs:YcR loO (us,true,(n:Int),N,T,a0,ts,v0,v1)=YcR loO (us,(tmM (YAg N T) (ts.getD n zM).1 (ts.getD n zM) (us.getD n zM)).isSome,((n+1:Nat):Int),N1,T1,a0,ts,v0,v1):=by
   show Yz7 _ _=Yz7 _ _
   rw[Yaj]
   simp only[YcQ,ltI hlt,cond_true,YE9,inc hlt hm]
   rw[chkT _ (by omega),chkT _ (by omega),r1,YzU]
  rw[e1,Yb6 (l:=us) (d:=zM) hlt,hs]
  simp only[tsM]
  cases hx:tmM (YAg N T) (ts.getD n zM).1 (ts.getD n zM) (us.getD n zM)with
  |none=>
   refine⟨N1,T1,?_,r2,by omega,fun σ' h=>by cases h⟩
   show Yz7 _ _=_
   rw[Yaj]
   simp only[YcQ,Option.isSome_none,cond_false]
   cases decide (((n+1:Nat):Int)< (us.length:Int))<;>rfl
  |some σ1=>
   have e:=r4 σ1 hx
   obtain⟨N',T',q1,q2,q3,q4⟩:=ih (n+1) (by omega) N1 T1 r2 (by omega)
   rw[e]at q1 q4
   exact⟨N',T',q1,q2,by omega,q4⟩
def tsL(σ:Asg Term)(ts us:List Term):Option (Asg Term):=bif !decide ((ts.length:Int)=(us.length:Int))then none else tsM σ (pT ts) us
theorem rAt{N:List ByteArray}{T:List Term}(g:GB N T)(a0:ByteArray)(ts us:List Term)(ht:SzT ts)(hu:SzT us)(hN:N.length+ts.length<=maxEl):
  ∃N' T',q129 loO N T a0 ts us=some (N',T',(tsL (YAg N T) ts us).isSome)/\GB N' T'/\N'.length<=N.length+ts.length/\ ∀σ',tsL (YAg N T) ts us=some σ'->YAg N' T'=σ':=by
 unfold q129 tsL
 by_cases h:(ts.length:Int)=(us.length:Int)
 ·simp only[h,decide_true,YE4,cond_false]
  obtain⟨N',T',q1,q2,q3,q4⟩:=YzI a0 ts us [] [] (by omega) (by omega) ht hu us.length 0 (by omega) N T g (by omega)
  rw[YEt,YEt,show((0:Nat):Int)=0 from rfl]at q1
  rw[YEt,YEt]at q4
  exact⟨N',T',by rw[q1];rfl,q2,by omega,q4⟩
 ·have e:decide ((ts.length:Int)=(us.length:Int))=false:=decide_eq_false h
  simp only[e,YE7,cond_true]
  exact⟨N,T,rfl,g,by omega,fun σ' h=>by cases h⟩
abbrev YRec:=List ByteArray×List Term×List Atom×List Atom->Option (List ByteArray×List Term×Bool)
theorem YzJ(rec:YRec)(a:Atom)(r tg:List Atom)(htg:tg.length<=maxEl)(ha:SzT a.2)(hb: ∀b∈tg,SzT b.2)(v0:List ByteArray)(v1:List Term){N:List ByteArray}{T:List Term}(g:GB N T)(hN:N.length+(a.2.length+sumT r)<=maxEl)
  (hrec: ∀N T,GB N T->N.length+sumT r<=maxEl-> ∃N' T',rec (N,T,r,tg)=some (N',T',(exM r (YAg N T) tg).isSome)):
  ∀(k n:Nat),n+k=tg.length-> ∃N' T',YcS loO rec (a::r,tg,(n:Int),N,T,v0,v1)=some (
   match(tg.drop n).findSome? (fun b=>(atM (YAg N T) a b).bind fun σ'=>exM r σ' tg)with
   |some σ'=>.inl (true,N',T')
   |none=>.inr (N,T,v0,v1)):=by
 have hM:maxEl=1073741824:=rfl
 intro k
 induction k with
 |zero=>
  intro n hn
  have e:n=tg.length:=by omega
  subst e
  refine⟨N,T,?_⟩
  rw[List.drop_of_length_le (by omega)]
  show Yz7 _ _=_
  rw[Yaj]
  simp only[Ybi,nlI,cond_false]
  rfl
 |succ k ih=>
  intro n hn
  have hlt:n<tg.length:=by omega
  obtain⟨N2,T2,ih⟩:=ih (n+1) (by omega)
  rw[Yb6 (d:=zA) hlt,List.findSome?_cons]
  have nx:YFg .i64 ((n:Int)+1)=((n+1:Nat):Int):=inc hlt htg
  have step:YcS loO rec (a::r,tg,(n:Int),N,T,v0,v1)=(match Ybi loO rec (a::r,tg,(n:Int),N,T,v0,v1)with|some (.inl s)=>YcS loO rec s|some (.inr x)=>some x|none=>none):=by
   show Yz7 _ _=_
   rw[Yaj]
   rcases Ybi loO rec (a::r,tg,(n:Int),N,T,v0,v1)with _| (_|_)<;>rfl
  have e0:(a::r).getD 0 (YFf #[],[])=a:=rfl
  have e1:((a::r).take (a::r).length).drop 1=r:=by simp
  have es:Ybi loO rec (a::r,tg,(n:Int),N,T,v0,v1)=bif !decide (a.1=(tg.getD n zA).1)then some (.inl (a::r,tg,((n+1:Nat):Int),N,T,v0,v1))else YEV (q129 loO N T a.1 a.2 (tg.getD n zA).2) fun y569=>bif y569.2.2 then(YEV (rec (y569.1,y569.2.1,r,tg)) fun y570=>bif y570.2.2 then(some (.inr (.inl (true,y570.1,y570.2.1))))else(some (.inl (a::r,tg,((n+1:Nat):Int),N,T,v0,v1))))else(some (.inl (a::r,tg,((n+1:Nat):Int),N,T,v0,v1))):=by
   simp only[Ybi,ltI hlt,cond_true,YE9,e0,e1,nx]
   have hc:decide ((tg.getD n zA).1=a.1)=decide (a.1=(tg.getD n zA).1):=by rw[decide_eq_decide];exact eq_comm
   rw[chkT _ (by omega),chkT _ (by simp),hc]
   congr 1
   rw[chkT _ (by simp),chkT _ (by omega)]
   congr 1
   funext y569
   congr 1
   rw[chkT _ (by simp;omega)]
  rw[step,es]
  unfold atM
  by_cases hn':a.1=(tg.getD n zA).1
  ·rw[decide_eq_true hn']
   simp only[YE4,cond_false]
   obtain⟨N1,T1,r1,r2,r3,r4⟩:=rAt g a.1 a.2 (tg.getD n zA).2 ha (hb _ (Yb5 hlt)) (by omega)
   have ei:(bif !decide ((a.2.length:Int)=((tg.getD n zA).2.length:Int))then none else tsM (YAg N T) (pT a.2) (tg.getD n zA).2)=tsL (YAg N T) a.2 (tg.getD n zA).2:=rfl
   rw[ei,r1,YzU]
   cases hx:tsL (YAg N T) a.2 (tg.getD n zA).2 with
   |none=>
    simp only[Option.isSome_none,cond_false,YE1]
    exact⟨N2,T2,ih⟩
   |some σ1=>
    simp only[Option.isSome_some,cond_true,YEY]
    obtain⟨N3,T3,q⟩:=hrec N1 T1 r2 (by omega)
    rw[q,YzU,r4 σ1 hx]
    cases exM r σ1 tg with
    |none=>exact⟨N2,T2,ih⟩
    |some σ2=>exact⟨N3,T3,rfl⟩
  ·rw[decide_eq_false hn']
   simp only[YE7,cond_true,YE1]
   exact⟨N2,T2,ih⟩
theorem YzK(tg:List Atom)(htg:tg.length<=maxEl)(hb: ∀b∈tg,SzT b.2)(j:Nat): ∀(rest:List Atom),(∀a∈rest,SzT a.2)-> ∀(N:List ByteArray) (T:List Term),GB N T->N.length+sumT rest<=maxEl->
  ∃N' T',YaW loO (rest.length+1+j) (N,T,rest,tg)=some (N',T',(exM rest (YAg N T) tg).isSome):=by
 intro rest
 induction rest with
 |nil=>
  intro _ N T g _
  refine⟨N,T,?_⟩
  have e:([]:List Atom).length+1+j=j+1:=by simp;omega
  rw[e];rfl
 |cons a r ih=>
  intro ha N T g hN
  have e:(a::r).length+1+j=(r.length+1+j)+1:=by simp;omega
  have es:sumT (a::r)=a.2.length+sumT r:=rfl
  rw[e]
  obtain⟨N',T',k2⟩:=YzJ (YaW loO (r.length+1+j)) a r tg htg (ha a (YEg ..)) hb [] [] g (by omega) (fun N T g hN=>ih (fun b hb=>ha b (YEn _ hb)) N T g hN) tg.length 0 (by omega)
  rw[YEt,show((0:Nat):Int)=0 from rfl]at k2
  show∃N' T',Yb2 loO (YaW loO (r.length+1+j)) N T (a::r) tg=_
  have e0:decide (((a::r).length:Int)=0)=false:=by simp;omega
  unfold Yb2
  rw[e0,cond_false,k2,YzU]
  simp only[exM]
  cases tg.findSome? (fun b=>(atM (YAg N T) a b).bind fun σ'=>exM r σ' tg)with
  |some σ'=>exact⟨N',T',rfl⟩
  |none=>exact⟨N,T,rfl⟩
theorem YnP: ∀n x y,YaW loO n x=some y->YaW loO (n+1) x=some y
 |0,_,_,h=>by cases h
 |n+1,x,y,h=>by
  have ih:=YnP n
  have h':Yb2 loO (YaW loO n) x.1 x.2.1 x.2.2.1 x.2.2.2=some y:=h
  show Yb2 loO (YaW loO (n+1)) x.1 x.2.1 x.2.2.1 x.2.2.2=some y
  unfold Yb2 at h'⊢
  refine YBw h' (fun h=>h) fun h=>YCB h (fun z hz=> ?_) fun _ h=>h
  refine YnJ (fun s q hs=> ?_) hz
  obtain⟨s1,s2,s3,s4,s5,s6,s7⟩:=s
  simp only[Ybi]at hs⊢
  exact YBw hs (fun h=>chkm h fun h=>chkm h fun h=>YBw h (fun h=>h) fun h=>chkm h fun h=>chkm h fun h=>YDM h fun _ h=>YBw h (fun h=>chkm h fun h=>YCB h (ih _) fun _ h=>h) fun h=>h) fun h=>h
theorem rExt(rest tg:List Atom)(htg:tg.length<=maxEl)(ha: ∀a∈rest,SzT a.2)(hb: ∀b∈tg,SzT b.2){N:List ByteArray}{T:List Term}(g:GB N T)(hN:N.length+sumT rest<=maxEl):
  ∃N' T',q141 loO N T rest tg=some (N',T',(exM rest (YAg N T) tg).isSome):=by
 obtain⟨N',T',h⟩:=YzK tg htg hb 0 rest ha N T g hN
 exact⟨N',T',YfB YnP (n:=0) (by rw[YEM];exact h)⟩
end
end Go.Abs.G47
namespace Go.Abs.G47
open Go Go.Abs
noncomputable section
theorem YD3(l:List Atom)(h:l.length<=maxEl)(h2:sumT l<=maxEl):q84 loO l=some (YAb [] l):=by
 have inner: ∀(i:Nat) (out:List ByteArray),i<l.length->out.length<=sumT (l.take i)->Yf6 loO (l,(l.length:Int),(i:Int),(l.getD i zA).2,((l.getD i zA).2.length:Int),0,out)=some (l,(l.length:Int),(i:Int),YAn out (l.getD i zA).2):=by
  intro i out hi ho
  have hb:=Ybl hi
  refine YaK (st:=fun n=>(l,(l.length:Int),(i:Int),(l.getD i zA).2,((l.getD i zA).2.length:Int),(n:Int),YAn out ((l.getD i zA).2.take n))) (N:=(l.getD i zA).2.length) rfl ?_ (fun n hn=> ?_)
  ·simp only[Yd4,nlI,cond_false,YEj]
  ·have ht:=Yeo ((l.getD i zA).2.take n) out
   rw[List.length_take,Nat.min_eq_left (by omega)]at ht
   simp only[Yd4,YE9,ltI hn,cond_true,inc hn (show(l.getD i zA).2.length<=maxEl by omega)]
   rw[chkT _ (by omega),Ynx _ _ (by omega),YzU]
   have e:YAn out ((l.getD i zA).2.take (n+1))=addV (YAn out ((l.getD i zA).2.take n)) ((l.getD i zA).2.getD n zM).1:=YcV (fun o (t:Term)=>addV o t.1) out (d:=zM) hn
   rw[e]
   rw[chkT _ (by rw[List.length_singleton];omega)]
   unfold addV
   rw[Ygv,YcW]
   cases decide (((l.getD i zA).2.getD n zM).1=nul0)<;>cases inL (YAn out ((l.getD i zA).2.take n)) ((l.getD i zA).2.getD n zM).1<;>rfl
 have outer:Yf7 loO (l,(l.length:Int),0,[])=some (YAb [] l):=by
  refine YaK (st:=fun n=>(l,(l.length:Int),(n:Int),YAb [] (l.take n))) (N:=l.length) rfl ?_ (fun n hn=> ?_)
  ·simp only[Yd5,nlI,cond_false,YEj]
  ·have hl:=YcU (l.take n) []
   simp only[YEA,YEM]at hl
   simp only[Yd5,ltI hn,cond_true,YE9]
   rw[chkT _ (by omega),inner n _ hn hl,YzU]
   simp only[inc hn h]
   have e:YAb [] (l.take (n+1))=YAn (YAb [] (l.take n)) (l.getD n zA).2:=YcV (fun o (a:Atom)=>YAn o a.2) [] (d:=zA) hn
   rw[e]
 unfold q84
 rw[outer,YzU]
def vT(v:ByteArray):Term:=(v,0,0,nul0)
def hdS(hd tg:List ByteArray):Nat->Int×Ent Term
 |0=>(0,[])
 |n+1=>(mck eqS (hdS hd tg n).1 (hd.getD n nul0) (hdS hd tg n).2,mpt eqS (hdS hd tg n).1 (hd.getD n nul0) (vT (tg.getD n nul0)) (hdS hd tg n).2)
def hdA(hd tg:List ByteArray):Nat->Asg Term
 |0=>fun _=>none
 |n+1=>upd (hdA hd tg n) (hd.getD n nul0) (vT (tg.getD n nul0))
theorem YnQ(hd tg:List ByteArray): ∀n,KN (hdS hd tg n).2/\lk (hdS hd tg n).2=hdA hd tg n
 |0=>⟨List.nodup_nil,by funext k;rfl⟩
 |n+1=>by
  obtain⟨h1,h2⟩:=YnQ hd tg n
  refine⟨YnE h1,?_⟩
  show lk (mpt eqS _ _ _ _)=upd _ _ _
  rw[Ygw,h2]
def hmM(fh:List ByteArray)(fa:List Atom)(th:List ByteArray)(ta:List Atom):Option (Asg Term):=
 bif !wfB fh fa then none else bif !wfB th ta then none else bif !decide ((fh.length:Int)=(th.length:Int))then none else exM fa (hdA fh th fh.length) ta
def imgs(fa:List Atom)(σ:Asg Term):List Term:=(YAb [] fa).map fun v=>(σ v).getD zM
theorem Yeq{hd:List ByteArray}{l:List Atom}(h:wfB hd l=true):l.length<=6:=by
 unfold wfB at h
 by_cases h1:(l.length:Int)<1
 ·simp[h1]at h
 ·by_cases h6:(6:Int)< (l.length:Int)
  ·simp[h1,h6]at h
  ·omega
theorem tHom(fh:List ByteArray)(fa:List Atom)(th:List ByteArray)(ta:List Atom)(h1:fh.length<=maxEl)(h2:sumT fa<=maxEl)(h3:th.length<=maxEl)(h4:sumT ta<=maxEl):
  q85 loO fh fa th ta=some (match hmM fh fa th ta with|some σ=>(imgs fa σ,true)|none=>([],false)):=by
 have hm:maxEl=1073741824:=rfl
 unfold q85 hmM
 rw[tWf fh fa h1 h2,YzU]
 cases hw:wfB fh fa with
 |false=>rfl
 |true=>
  rw[tWf th ta h3 h4,YzU]
  cases hw':wfB th ta with
  |false=>rfl
  |true=>
   simp only[YE4,cond_false]
   by_cases hl:(fh.length:Int)=(th.length:Int)
   ·simp only[hl,decide_true,YE4,cond_false]
    have e14:Yf8 loO (fh,(fh.length:Int),0,fh,fa,th,ta,0,[],false,false)=some (fh,fa,th,ta,(hdS fh th fh.length).1,(hdS fh th fh.length).2,false,false):=by
     refine YaK (st:=fun n=>(fh,(fh.length:Int),(n:Int),fh,fa,th,ta,(hdS fh th n).1,(hdS fh th n).2,false,false)) (N:=fh.length) rfl ?_ (fun n hn=> ?_)
     ·simp only[Yd6,nlI,cond_false]
     ·simp only[Yd6,ltI hn,cond_true,inc hn h1,YE9]
      rw[chkT _ (by omega),chkT _ (by omega)]
      rfl
    rw[hl]at e14
    rw[e14,YzU]
    simp only
    obtain⟨k1,k2⟩:=YnQ fh th fh.length
    have hf:=Yeq hw
    have hal: ∀a∈fa,a.2.length<=maxEl:=fun a ha=>by
     obtain⟨m,hm',e⟩:=YEE.1 ha
     have:=Ybl (l:=fa) hm'
     rw[YEs,YD7 hm',YEZ,e]at this
     omega
    obtain⟨clk',l',r1,r2,r3⟩:=tExt fa ta (by have:=Yeq hw';omega) hal false false (hdS fh th fh.length).1 (hdS fh th fh.length).2 k1
    rw[r1,YzU]
    rw[k2]at r3
    rw[k2]
    cases hx:exM fa (hdA fh th fh.length) ta with
    |none=>rfl
    |some σ=>
     rw[hx]at r3
     simp only[YEZ]at r3
     simp only[Option.isSome_some,YE4,cond_false]
     rw[YD3 fa (by omega) h2,YzU]
     have hvl:=YcU fa []
     simp only[YEA,YEM]at hvl
     have e3:Yf9 loO (YAb [] fa,((YAb [] fa).length:Int),0,clk',l',false,false,[])=some (imgs fa σ):=by
      refine YaK (st:=fun n=>(YAb [] fa,((YAb [] fa).length:Int),(n:Int),clk',l',false,false,((YAb [] fa).take n).map fun v=>(σ v).getD zM)) (N:=(YAb [] fa).length) rfl ?_ (fun n hn=> ?_)
      ·simp only[Yd7,nlI,cond_false,YEj]
       rfl
      ·simp only[Yd7,ltI hn,cond_true,inc hn (show(YAb [] fa).length<=maxEl by omega),YE9]
       rw[chkT _ (by omega),chkT _ (by simp;omega),Ybk (d:=nul0) hn,YEF]
       have e:mgt eqS ((YAb [] fa).getD n nul0) l' zM=(σ ((YAb [] fa).getD n nul0)).getD zM:=by
        rw[<-r3]
        unfold mgt lk
        cases mfd eqS ((YAb [] fa).getD n nul0) l'<;>rfl
       rw[e]
       rfl
     rw[e3,YzU]
   ·simp only[hl,decide_false,YE7,cond_true]
end
end Go.Abs.G47
namespace Go.Abs.G47
open Go Go.Abs
noncomputable section
theorem YzL{v:Int×Int×ByteArray}(h:vB v=true):v.2.2.size<=200:=by
 obtain⟨a,b,c⟩:=v
 unfold vB q6 at h
 by_cases h0:a=0<;>by_cases h1:a=1<;>by_cases h2:a=2<;>by_cases h3:a=3<;>by_cases h4:b=0<;>by_cases h5:1<=b<;>simp[h0,h1,h2,h3,h4,h5]at h<;>first| (subst h;exact YEQ _)| (simp only;omega)|omega
theorem YzM{t:Term}(h:YAx t=true):t.2.2.2.size<=200:=by
 unfold YAx at h
 by_cases h0:t.1=nul0
 ·simp only[h0,decide_true,YE4,cond_false]at h
  exact YzL h
 ·simp only[h0,decide_false,YE7,cond_true,YE3,decide_eq_true_eq]at h
  rw[h.2.2.2.1];exact YEQ _
theorem YzN{l:List Term}(h:badT l=false): ∀t∈l,YAx t=true:=fun t ht=>by
 unfold badT at h
 rw[YcX (fun t=> !YAx t) l zM]at h
 have:=(List.any_eq_false.1 h) t ht
 simpa using this
structure Wf(hd:List ByteArray)(l:List Atom):Prop where
 len:l.length<=6
 ne:l≠ []
 nm: ∀a∈l,YAF a.1=true
 tm: ∀a∈l,∀t∈a.2,YAx t=true
 hd: ∀n,n<hd.length->hd.getD n nul0∈YAb [] l/\hd.getD n nul0∉hd.take n
theorem wf_iff{hd:List ByteArray}{l:List Atom}:wfB hd l=true↔Wf hd l:=by
 unfold wfB YBN
 rw[show(fun m=> !YAF (l.getD m zA).1||badT (l.getD m zA).2)=fun m=>(fun a:Atom=> !YAF a.1||badT a.2) (l.getD m zA)from rfl,YcX (fun a:Atom=> !YAF a.1||badT a.2) l zA]
 have ebad: ∀t:List Term,badT t=false↔ ∀x∈t,YAx x=true:=fun t=>⟨YzN,fun h=>by
  unfold badT;rw[YcX (fun t=> !YAx t) t zM,List.any_eq_false];intro x hx;simp[h x hx]⟩
 have eh:(!anyN (fun m=> !fHd hd l m) hd.length 0)=true↔ ∀n,n<hd.length->hd.getD n nul0∈YAb [] l/\hd.getD n nul0∉hd.take n:=by
  rw[Bool.not_eq_true',<-Bool.not_eq_true,anyN_iff]
  constructor
  ·intro h n hn
   have:fHd hd l n=true:=by
    cases hf:fHd hd l n with
    |true=>rfl
    |false=>exact absurd ⟨n,YEQ _,by omega,by rw[hf];rfl⟩ h
   unfold fHd at this
   rw[YE3,inL_iff,Bool.not_eq_true',<-Bool.not_eq_true,inL_iff]at this
   exact this
  ·rintro h ⟨m,_,h2,h3⟩
   have:=h m (by omega)
   unfold fHd at h3
   rw[inL_iff.2 this.1]at h3
   cases hi:inL (hd.take m) (hd.getD m nul0)with
   |true=>exact this.2 (inL_iff.1 hi)
   |false=>rw[hi]at h3;cases h3
 by_cases h1:(l.length:Int)<1
 ·simp only[h1,decide_true,cond_true]
  refine⟨fun h=>(by cases h),fun h=> ?_⟩
  have:l=[]:=YEf.1 (by omega)
  exact absurd this h.ne
 ·by_cases h6:(6:Int)< (l.length:Int)
  ·simp only[h1,h6,decide_false,decide_true,cond_true,cond_false]
   exact⟨fun h=>(by cases h),fun h=>by have:=h.len;omega⟩
  ·simp only[h1,h6,decide_false,cond_false]
   cases ha:l.any (fun a:Atom=> !YAF a.1||badT a.2)with
   |true=>
    simp only[cond_true]
    refine⟨fun h=>(by cases h),fun h=> ?_⟩
    rw[List.any_eq_true]at ha
    obtain⟨a,h2,h3⟩:=ha
    rw[h.nm a h2,(ebad a.2).2 (h.tm a h2)]at h3;cases h3
   |false=>
    simp only[cond_false]
    rw[eh]
    rw[List.any_eq_false]at ha
    constructor
    ·intro h
     refine⟨by omega,fun e=>by subst e;simp at h1,fun a hx=> ?_,fun a hx=> ?_,h⟩
     ·have:=ha a hx;simp only[YE5,not_or,Bool.not_eq_true',Bool.not_eq_false]at this;exact this.1
     ·have:=ha a hx;simp only[YE5,not_or,Bool.not_eq_true]at this;exact(ebad _).1 this.2
    ·intro h;exact h.hd
theorem Wf.sz{hd:List ByteArray}{l:List Atom}(h:Wf hd l): ∀a∈l,SzT a.2:=fun a ha t ht=>by
 have:=YzM (h.tm a ha t ht)
 have:maxEl=1073741824:=rfl
 omega
theorem YzO(l:List ByteArray):SzT (l.map vT):=fun t ht=>by
 obtain⟨v,_,rfl⟩:=YEr.1 ht;exact YEQ _
theorem YnR{fh th:List ByteArray}(hl:fh.length=th.length)(hd: ∀n,n<fh.length->fh.getD n nul0∉fh.take n): ∀n,n<=fh.length->YAg (fh.take n) ((th.take n).map vT)=hdA fh th n
 |0,_=>by funext k;unfold YAg hdA;rfl
 |n+1,h=>by
  rw[Ybk (d:=nul0) (by omega),Ybk (l:=th) (d:=nul0) (by omega),YEF]
  rw[YD8,YEa,YnO (by simp;omega),YnR hl hd n (by omega)]
  ·rfl
  ·rcases Ygy (fh.take n) (fh.getD n nul0)with⟨m,h1,h2,h3⟩| ⟨h1,h2⟩
   ·exact absurd (h3▸Yb5 h2) (hd n (by omega))
   ·omega
theorem YDN(fh:List ByteArray)(fa:List Atom)(th:List ByteArray)(ta:List Atom)(h1:fh.length<=maxEl):q140 loO fh fa th ta=some (bif !decide ((fh.length:Int)=(th.length:Int))then([],[],false)else(fh,th.map vT,true)):=by
 unfold q140
 by_cases hl:(fh.length:Int)=(th.length:Int)
 ·simp only[hl,decide_true,YE4,cond_false]
  have e3:Ygk loO (0,fh,fa,th,ta,[],[],[],[])=some ([],[],fh,th.map vT):=by
   refine YaK (st:=fun n=>((n:Int),fh,fa,th,ta,[],[],fh.take n,(th.take n).map vT)) (N:=fh.length) rfl ?_ (fun n hn=> ?_)
   ·simp only[Yei,nlI,cond_false,YEj]
    rw[List.take_of_length_le (l:=th) (by omega)]
   ·simp only[Yei,ltI hn,cond_true,inc hn h1,YE9]
    rw[chkT _ (by omega),chkT _ (by simp;omega),chkT _ (by omega),chkT _ (by simp;omega),Ybk (d:=nul0) hn,Ybk (l:=th) (d:=nul0) (by omega),YEF]
    rfl
  rw[e3,YzU]
 ·simp only[hl,decide_false,YE7,cond_true]
theorem rEx(fh:List ByteArray)(fa:List Atom)(th:List ByteArray)(ta:List Atom)(h1:fh.length<=maxEl)(h2:fh.length+sumT fa<=maxEl)(h3:th.length<=maxEl)(h4:sumT ta<=maxEl):q142 loO fh fa th ta=some (hmM fh fa th ta).isSome:=by
 have hm:maxEl=1073741824:=rfl
 unfold q142 hmM
 rw[rWf fh fa h1 (by omega),YzU]
 cases hw:wfB fh fa with
 |false=>rfl
 |true=>
  rw[rWf th ta h3 h4,YzU]
  cases hw':wfB th ta with
  |false=>rfl
  |true=>
   simp only[YE4,cond_false]
   rw[YDN fh fa th ta h1,YzU]
   by_cases hl:(fh.length:Int)=(th.length:Int)
   ·simp only[hl,decide_true,YE4,cond_false]
    have w:=wf_iff.1 hw
    have w':=wf_iff.1 hw'
    have hl':fh.length=th.length:=by omega
    obtain⟨N,T,e⟩:=rExt (N:=fh) (T:=th.map vT) fa ta (by have:=w'.len;omega) w.sz w'.sz ⟨by simp[hl'],YzO th⟩ h2
    rw[e,YzU]
    have eb:=YnR hl' (fun n hn=>(w.hd n hn).2) fh.length (YEI _)
    rw[YEj,hl',YEj,<-hl']at eb
    rw[eb]
   ·simp only[hl,decide_false,YE7,cond_true]
    rfl
end
end Go.Abs.G47
namespace Go.Abs.G47
open Go Go.Abs
noncomputable section
theorem YzP(A B:List Atom)(h:A.length+B.length<=1000):q81 loO [A,B]=some (A++B):=by
 have hm:maxEl=1073741824:=rfl
 have e0:([A,B].length:Int)=2:=rfl
 have w1:YFg .i64 ((0:Int)+1)=1:=by rw[wr6 (by omega) (by omega)];rfl
 have w2:YFg .i64 ((1:Int)+1)=2:=by rw[wr6 (by omega) (by omega)];rfl
 have w3:YFg .i64 ((0:Int)+(A.length:Int))=(A.length:Int):=by rw[wr6 (by omega) (by omega)];omega
 have w4:YFg .i64 ((A.length:Int)+(B.length:Int))=(A.length:Int)+(B.length:Int):=wr6 (by omega) (by omega)
 have c0:decide ((0:Int)<2)=true:=rfl
 have c1:decide ((1:Int)<2)=true:=rfl
 have c2:decide ((2:Int)<2)=false:=rfl
 have g0:[A,B].getD (0:Int).toNat []=A:=rfl
 have g1:[A,B].getD (1:Int).toNat []=B:=rfl
 have n1:decide ((A.length:Int)<0)=false:=by rw[decide_eq_false_iff_not];omega
 have n2:decide ((A.length:Int)+(B.length:Int)<0)=false:=by rw[decide_eq_false_iff_not];omega
 have hL11:Yf2 loO ([A,B],0,[A,B],2,0)=some ([A,B],(A.length:Int)+(B.length:Int)):=by
  show Yz7 _ _=_
  rw[Yaj];simp only[YcL,c0,cond_true,e0,g0,w3,n1,cond_false,w1]
  rw[chkT _ (by omega)];simp only
  rw[Yaj];simp only[YcL,c1,cond_true,e0,g1,w4,n2,cond_false,w2]
  rw[chkT _ (by omega)];simp only
  rw[Yaj];simp only[YcL,c2,cond_false]
 have hL3:Yf3 loO ([A,B],2,0,[])=some (A++B):=by
  show Yz7 _ _=_
  rw[Yaj];simp only[YcM,c0,cond_true,e0,g0,w1]
  rw[chkT _ (by omega),chkT _ (by simp;omega)];simp only
  rw[Yaj];simp only[YcM,c1,cond_true,e0,g1,w2]
  rw[chkT _ (by omega),chkT _ (by simp;omega)];simp only
  rw[Yaj];simp only[YcM,c2,cond_false,YEy]
 unfold q81
 rw[e0,hL11,YzU]
 have hG:q80 loO ((A.length:Int)+(B.length:Int))=some []:=by
  unfold q80
  have:(decide (0<=(A.length:Int)+(B.length:Int))&&decide ((A.length:Int)+(B.length:Int)<=1048576))=true:=by simp;omega
  rw[this];rfl
 rw[hG,YzU]
 simp only[e0]
 rw[hL3];rfl
def rmv(l:List Atom)(i:Nat):List Atom:=l.take i++l.drop (i+1)
theorem YnS{l:List Atom}{i:Nat}(h:i<l.length):(rmv l i).length+1=l.length:=by unfold rmv;simp;omega
theorem Yer(l:List Atom)(i:Nat):sumT (rmv l i)<=sumT l:=by
 unfold rmv sumT
 rw[YEF,List.sum_append,List.map_take,List.map_drop]
 generalize l.map (fun a=>a.2.length)=m
 induction m generalizing i with
 |nil=>simp
 |cons a r ih=>cases i with
  |zero=>simp
  |succ i=>simp only[List.take_succ_cons,List.drop_succ_cons,List.sum_cons];have:=ih i;omega
theorem YzQ{l:List Atom}{i:Nat}{a:Atom}(h:a∈rmv l i):a∈l:=by
 unfold rmv at h
 rcases YEw.1 h with h|h
 ·exact List.mem_of_mem_take h
 ·exact List.mem_of_mem_drop h
def minF(h:List ByteArray):Nat->Nat->List Atom->List Atom
 |0,_,l=>l
 |k+1,i,l=>bif(hmM h l h (rmv l i)).isSome then minF h k i (rmv l i)else minF h k (i+1) l
theorem Ygz(h:List ByteArray)(v0:List ByteArray)(v1:List Atom)(hh:h.length<=maxEl): ∀(k i:Nat) (l:List Atom),i+k=l.length->l.length<=6->sumT l<=maxEl->
  Yb1 loO ((i:Int),v0,v1,l,h)=some (v0,v1,minF h k i l,h)
 |0,i,l,hk,hl,hs=>by
  have e:i=l.length:=by omega
  subst e
  show Yz7 _ _=_
  rw[Yaj]
  simp only[Yd9,nlI,cond_false]
  rfl
 |k+1,i,l,hk,hl,hs=>by
  have hm:maxEl=1073741824:=rfl
  have hi:i<l.length:=by omega
  have w:YFg .i64 ((i:Int)+1)=((i+1:Nat):Int):=inc hi (by omega)
  have step:Yb1 loO ((i:Int),v0,v1,l,h)=bif(hmM h l h (rmv l i)).isSome then Yb1 loO ((i:Int),v0,v1,rmv l i,h)else Yb1 loO (((i+1:Nat):Int),v0,v1,l,h):=by
   show Yz7 _ _=_
   rw[Yaj]
   simp only[Yd9,ltI hi,cond_true,w,YE9,YEt,YEj]
   have hr:=Yer l i
   rw[chkT _ (by omega),chkT _ (by omega),YzP _ _ (by simp;omega),YzU]
   rw[show l.take i++l.drop (i+1)=rmv l i from rfl,tWf h (rmv l i) hh (by omega),YzU]
   unfold q86
   rw[tHom h l h (rmv l i) hh hs hh (by omega),YzU,YzU]
   cases hw:wfB h (rmv l i)with
   |false=>
    have:hmM h l h (rmv l i)=none:=by unfold hmM;rw[hw];cases wfB h l<;>rfl
    rw[this];rfl
   |true=>
    cases hmM h l h (rmv l i)with
    |none=>rfl
    |some σ=>rfl
  rw[step]
  unfold minF
  cases hx:(hmM h l h (rmv l i)).isSome with
  |true=>
   have:=YnS hi
   have:=Yer l i
   exact Ygz h v0 v1 hh k i (rmv l i) (by omega) (by omega) (by omega)
  |false=>exact Ygz h v0 v1 hh k (i+1) l (by omega) hl hs
theorem YgA(h:List ByteArray)(v0:List ByteArray)(v1:List Atom): ∀(k i:Nat) (l:List Atom),i+k=l.length->l.length<=6->h.length+sumT l<=maxEl->
  Yb3 loO ((i:Int),h,l,v0,v1)=some (h,minF h k i l,v0,v1)
 |0,i,l,hk,hl,hs=>by
  have e:i=l.length:=by omega
  subst e
  show Yz7 _ _=_
  rw[Yaj]
  simp only[Yej,nlI,cond_false]
  rfl
 |k+1,i,l,hk,hl,hs=>by
  have hm:maxEl=1073741824:=rfl
  have hi:i<l.length:=by omega
  have w:YFg .i64 ((i:Int)+1)=((i+1:Nat):Int):=inc hi (by omega)
  have step:Yb3 loO ((i:Int),h,l,v0,v1)=bif(hmM h l h (rmv l i)).isSome then Yb3 loO ((i:Int),h,rmv l i,v0,v1)else Yb3 loO (((i+1:Nat):Int),h,l,v0,v1):=by
   show Yz7 _ _=_
   rw[Yaj]
   have hr:=Yer l i
   have ew:q147 loO h l (i:Int)=some (h,rmv l i):=by
    unfold q147
    simp only[w,YE9,YEt,YEj]
    rw[chkT _ (by omega),chkT _ (by simp;omega),chkT _ (by omega),chkT _ (by simp;omega)]
    rfl
   simp only[Yej,ltI hi,cond_true,w]
   rw[ew,YzU,rEx h l h (rmv l i) (by omega) (by omega) (by omega) (by omega),YzU]
   cases(hmM h l h (rmv l i)).isSome<;>rfl
  rw[step]
  unfold minF
  cases hx:(hmM h l h (rmv l i)).isSome with
  |true=>
   have:=YnS hi
   have:=Yer l i
   exact YgA h v0 v1 k i (rmv l i) (by omega) (by omega) (by omega)
  |false=>exact YgA h v0 v1 k (i+1) l (by omega) hl hs
theorem Yes(h:List ByteArray){a:Atom}: ∀(k i:Nat) (l:List Atom),a∈minF h k i l->a∈l
 |0,_,_,ha=>ha
 |k+1,i,l,ha=>by
  unfold minF at ha
  cases hx:(hmM h l h (rmv l i)).isSome with
  |true=>rw[hx]at ha;exact YzQ (Yes h k i _ ha)
  |false=>rw[hx]at ha;exact Yes h k (i+1) l ha
theorem tMin(h:List ByteArray)(l:List Atom)(hh:h.length<=maxEl)(hs:sumT l<=maxEl):q87 loO h l=some (bif wfB h l then(h,minF h l.length 0 l,0)else([],[],1)):=by
 have hm:maxEl=1073741824:=rfl
 unfold q87
 rw[tWf h l hh hs,YzU]
 cases hw:wfB h l with
 |false=>rfl
 |true=>
  have hl:=Yeq hw
  have hc:q78 loO h=some h:=by
   unfold q78
   have:(YEL h.length maxEl&&YEL 1 1)=true:=by simp;omega
   rw[this];rfl
  simp only[YE4,cond_false,cond_true]
  rw[hc,YzU]
  have e11:Yga loO (l,(l.length:Int),0,[],[],h,[])=some ([],[],h,l):=by
   refine YaK (st:=fun n=>(l,(l.length:Int),(n:Int),[],[],h,l.take n)) (N:=l.length) rfl ?_ (fun n hn=> ?_)
   ·simp only[Yd8,nlI,cond_false,YEj]
   ·have hb:=Ybl hn
    have hcl:q79 loO (l.getD n zA).2=some (l.getD n zA).2:=by
     unfold q79
     have:(YEL (l.getD n zA).2.length maxEl&&YEL 1 4)=true:=by rw[YE3,Nat.ble_eq];exact⟨by omega,rfl⟩
     rw[this];rfl
    simp only[Yd8,ltI hn,cond_true,inc hn (show l.length<=maxEl by omega),YE9]
    rw[chkT _ (by omega),hcl,YzU,chkT _ (by simp;omega),Ybk (d:=zA) hn]
  rw[e11,YzU]
  have:=Ygz h [] [] hh l.length 0 l (by omega) hl hs
  rw[show((0:Nat):Int)=0 from rfl]at this
  simp only
  rw[this,YzU]
theorem rMin(h:List ByteArray)(l:List Atom)(hs:h.length+sumT l<=maxEl):q148 loO h l=some (bif wfB h l then(h,minF h l.length 0 l,0)else([],[],1)):=by
 unfold q148
 rw[rWf h l (by omega) (by omega),YzU]
 cases hw:wfB h l with
 |false=>rfl
 |true=>
  have hl:=Yeq hw
  have:=YgA h [] [] l.length 0 l (by omega) hl hs
  rw[show((0:Nat):Int)=0 from rfl]at this
  simp only[YE4,cond_false,cond_true]
  rw[this,YzU]
theorem YDO(h:List ByteArray)(l:List Atom)(hh:h.length<=maxEl)(hl:l.length<=maxEl)(hs: ∀a∈l,a.2.length<=maxEl/\SzT a.2):q150 loO h l h l=some true:=by
 unfold q150 q149
 have e1:Ygl loO (h,h,0)=some (.inr ()):=by
  refine YaK (st:=fun n=>(h,h,(n:Int))) (N:=h.length) rfl ?_ (fun n hn=> ?_)
  ·simp only[Yek,nlI,cond_false]
  ·simp only[Yek,ltI hn,cond_true,inc hn hh,decide_true,YE4,cond_false]
   rw[chkT _ (by omega),chkT _ (by omega)]
 have e3:Ygn loO (0,h,l,h,l)=some (.inr ()):=by
  refine YaK (st:=fun n=>((n:Int),h,l,h,l)) (N:=l.length) rfl ?_ (fun n hn=> ?_)
  ·simp only[Yem,nlI,cond_false]
  ·obtain⟨s1,s2⟩:=hs _ (Yb5 (d:=zA) hn)
   have e5:Ygm loO ((n:Int),0,h,l,h,l)=some (.inr ((n:Int),h,l,h,l)):=by
    refine YaK (st:=fun k=>((n:Int),(k:Int),h,l,h,l)) (N:=(l.getD n zA).2.length) rfl ?_ (fun k hk=> ?_)
    ·simp only[Yel,YE9,nlI,cond_false]
     rw[chkT _ (by omega)]
    ·simp only[Yel,YE9,ltI hk,cond_true,inc hk s1]
     have hn':(n:Int)< (l.length:Int):=by omega
     rw[chkT _ ⟨by omega,hn'⟩,chkT _ ⟨by omega,hn'⟩,chkT _ ⟨by omega,Int.ofNat_lt.2 hk⟩,chkT _ ⟨by omega,hn'⟩,chkT _ ⟨by omega,Int.ofNat_lt.2 hk⟩]
     rw[YCi _ _ (YcY s2 k) (YcY s2 k),YzU,decide_eq_true rfl]
     rfl
   simp only[Yem,ltI hn,cond_true,inc hn hl,decide_true,YE4,cond_false]
   rw[chkT _ (by omega),chkT _ (by omega),chkT _ (by omega),chkT _ (by omega),e5,YzU,Ygt]
   simp only[inc hn hl]
 simp only[decide_true,YE4,cond_false]
 rw[e1,YzU,Ygt,YzU,e3,YzU,Ygt]
 rfl
theorem min_law(h:List ByteArray)(l:List Atom):q151 loO h l=some true:=by
 have hm:maxEl=1073741824:=rfl
 unfold q151
 rw[aw,YzU]
 obtain⟨b,e,hb⟩:=Yzx h l
 simp only[YE4,cond_false]
 rw[e,YzU,YzU]
 cases b with
 |false=>rfl
 |true=>
  obtain⟨b1,b2,b3⟩:=hb rfl
  simp only[YE4,cond_false]
  rw[tMin h l (by omega) (by omega),YzU,rMin h l (by omega),YzU]
  simp only[decide_true,cond_true]
  cases hw:wfB h l with
  |false=>
   simp only[cond_false]
   rw[YDO [] [] (YEQ _) (YEQ _) (fun a ha=>nomatch ha),YzU]
  |true=>
   have w:=wf_iff.1 hw
   have hall: ∀a∈l,a.2.length<=maxEl:=fun a ha=>by
    obtain⟨m,hm',e⟩:=YEE.1 ha
    have:=Ybl (l:=l) hm'
    rw[YEs,YD7 hm',YEZ,e]at this
    omega
   have hlen: ∀k i (m:List Atom),(minF h k i m).length<=m.length:=by
    intro k
    induction k with
    |zero=>intro i m;exact YEI _
    |succ k ih=>
     intro i m
     unfold minF
     cases(hmM h m h (rmv m i)).isSome with
     |true=>
      have:=ih i (rmv m i)
      have h2:(rmv m i).length<=m.length:=by unfold rmv;simp;omega
      exact YEP this h2
     |false=>exact ih (i+1) m
   simp only[cond_true]
   have:=hlen l.length 0 l
   rw[YDO h _ (by omega) (by omega) (fun a ha=>⟨hall a (Yes h _ _ _ ha),w.sz a (Yes h _ _ _ ha)⟩),YzU]
end
end Go.Abs.G47
