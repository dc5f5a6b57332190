/- Helpers of the plain laws: loops as states by number, tables, short words. No condition. -/
import Derived.Test.YtlmcnindhfbkhaaGreatDoorB
import Derived.Test.YtlmcnindhfbkhaaGreatDoorG1
set_option linter.unusedVariables false
set_option linter.unusedSimpArgs false
set_option linter.unusedSectionVars false
open List renaming getElem?_eq_getElem → YHm, map_cons → YHn, map_nil → YHp, mem_cons_self → YHs, mem_cons → YHt, mem_cons_of_mem → YHv, mem_map → YHx, take_length → YHz, append_assoc → YHA, all_eq_true → YHB, length_map → YHC, length_cons → YHD, mem_singleton → YHF, drop_zero → YHG, map_map → YHI, cons_append → YHJ, mem_iff_getElem → YHM, getElem?_eq_none → YHN, getD_eq_getElem?_getD → YHP
open Nat renaming le_refl → YHR, blt → YHS, ble → YHT, le_trans → YHV, zero_add → YHX, mul_le_mul_right → YHY, add_mul → YHZ, zero_le → YH0
open Option renaming bind → YH2, map_some → YH4, bind_some → YH5
open Bool renaming and_eq_true → YIa, not_true → YIb, not_false → YIc, eq_iff_iff → YId, and_self → YIe
open Int renaming toNat_natCast → YIf
open ByteArray renaming mk → YIk
open Go.IntKind renaming wrap → YIl
namespace Go.Abs
theorem wr6{n:Int}(h0: -9223372036854775808<=n)(h1:n<9223372036854775808):YIl .i64 n=n:=by
 have e:(2:Int)^IntKind.bits .i64=18446744073709551616:=rfl
 have e':(2:Int)^(IntKind.bits .i64-1)=9223372036854775808:=rfl
 have s:IntKind.signed .i64=true:=rfl
 simp only[YIl,e,e',s,Bool.true_and,ge_iff_le,decide_eq_true_eq]
 omega
theorem chkT{β:Type}{p:Prop}[Decidable p](x:Option β)(h:p):chk p x=x:=by simp[chk,h]
theorem cT{β:Type}{p:Prop}[Decidable p](x y:β)(h:p):(bif decide p then x else y)=x:=by simp[h]
theorem YC5{α β:Type}(a:α)(f:α->Option β):YH2 (some a) f=f a:=rfl
theorem YoE{S R:Type}{step:S->Option (S⊕R)}(st:Nat->S)(N:Nat)(r:R)(he:step (st N)=some (.inr r))(hs: ∀n,n<N->step (st n)=some (.inl (st (n+1)))): ∀k n,n+k=N->YDk step (st n)=some r
 |0,n,h=>by rw[Yaw];simp_all
 |k+1,n,h=>by rw[Yaw,hs n (by omega)];exact YoE st N r he hs k (n+1) (by omega)
theorem Yau{S R:Type}{step:S->Option (S⊕R)}{st:Nat->S}{N:Nat}{r:R}{s:S}(hst:s=st 0)(he:step (st N)=some (.inr r))(hs: ∀n,n<N->step (st n)=some (.inl (st (n+1)))):YDk step s=some r:=by
 subst hst;exact YoE st N r he hs N 0 (by omega)
def tab{α:Type}(n:Nat)(f:Nat->α):List α:=(List.range n).map f
theorem YaB{α:Type}(n:Nat)(f:Nat->α):(tab n f).length=n:=by simp[tab]
theorem Yb6{α:Type}(n:Nat)(f:Nat->α):tab n f++[f n]=tab (n+1) f:=by simp[tab,List.range_succ]
def bl(s:ByteArray):List UInt8:=s.data.toList
theorem Ybn(s:ByteArray):(bl s).length=s.size:=Array.length_toList
theorem YeK(s:ByteArray)(i:Nat)(h:i<s.size):(bl s).drop i=s.data.getD i 0::(bl s).drop (i+1):=by
 have h':i< (bl s).length:=by trivial
 rw[List.drop_eq_getElem_cons h']
 congr 1
 simp[bl,Array.getD]
 omega
theorem YBV(s:ByteArray)(i:Nat)(h:i<s.size):(bl s).take (i+1)=(bl s).take i++[s.data.getD i 0]:=by
 have h':i< (bl s).length:=by trivial
 rw[<-List.take_append_getElem h']
 congr 2
 simp[bl,Array.getD]
 omega
theorem YBW(a b:ByteArray)(i j:Nat):(YC6 a i=YC6 b j)↔a.data.getD i 0=b.data.getD j 0:=by
 simp only[YC6,YIf]
 constructor
 ·intro h
  have:(a.data.getD i 0).toNat=(b.data.getD j 0).toNat:=by omega
  exact UInt8.toNat_inj.1 this
 simp_all
theorem YBX{a b:ByteArray}(h:bl a=bl b):a=b:=by
 have:a.data=b.data:=by simpa[bl]using h
 cases a;simp_all
end Go.Abs
namespace Go.Abs.G47
open Go Go.Abs
set_option maxRecDepth 100000
abbrev Vals:=List (Int×Int×ByteArray)
abbrev Rws:=List (Int×Vals)
abbrev Tabl:=ByteArray×List ByteArray×Rws
abbrev Term:=ByteArray×Int×Int×ByteArray
abbrev Atom:=ByteArray×List Term
theorem YoH{clk:Int}{ents:List (Int×ByteArray×Vals)}{m2:Bool}
  {y} (hd:(ents.map (·.1)).Nodup) (hl:ents.length<=maxEl)
  (hy:Yb4 loO (ents.map (·.2.1),clk,clk,[],false,clk,ents,m2)=some y):
  YcR loO ([],clk,ents,m2)=some y:=by
 show rngF Yel (YcQ loO) (Yb4 loO) ([],clk,clk,[],false,clk,ents,m2)=some y
 refine YsT (YBY (p:=Yel) (t:=YcQ loO) (r:=Yb4 loO) (fun sn=>(sn.map (kAt (YIk #[]) ents),clk,clk,sn,false,clk,ents,m2)) (B:=ents.map (·.1)) (c:=clk) hd (fun sn=>rfl) (fun sn b hb hn hsd hsB=> ?_) (fun sn hp=> ?_))
 ·obtain⟨e,he⟩:=YB0 hb
  have hlen:sn.length<ents.length:=by
   have h1:(sn++[b]).Nodup:=by
    rw[List.nodup_append]
    exact⟨hsd,by simp,fun x hx y hy=>by rw[YHF]at hy;subst hy;intro e;subst e;exact hn hx⟩
   have:=List.Nodup.length_le_of_subset h1 (l₂:=ents.map (·.1)) (fun a ha=>by
    rcases List.mem_append.1 ha with ha|ha
    ·exact hsB a ha
    ·rw[YHF]at ha;subst ha;exact hb)
   simp at this;omega
  simp only[YcQ,addI,List.getLast?_append,List.getLast?_singleton,Option.some_or,YH5,he,chk,decide_true,cond_true,YHC,List.length_singleton]
  have:decide (sn.length+1<=maxEl)=true:=by simp;omega
  simp only[this,cond_true,List.map_append,YHn,YHp,kAt,he]
 ·have hperm:(sn.map (kAt (YIk #[]) ents)).Perm (ents.map (·.2.1)):=by
   rw[<-YB1 (d:=YIk #[]) hd];exact hp.map _
  rw[<-hy]
  show YH2 (q65 loO (sn.map (kAt (YIk #[]) ents))) _=YH2 (q65 loO (ents.map (·.2.1))) _
  have e1:q65 loO (sn.map (kAt (YIk #[]) ents))=q65 loO (ents.map (·.2.1)):=YBZ hperm
  rw[e1]
  have e2:=hperm.length_eq
  congr 1
  funext y152
  rw[e2]
def nodB:List Int->Bool
 | []=>true
 |a::r=> !(r.any fun b=>decide (b=a))&&nodB r
theorem YoI: ∀{l:List Int},nodB l=true->l.Nodup
 | [],_=>List.nodup_nil
 |a::r,h=>by
  simp only[nodB,YIa,Bool.not_eq_true',List.any_eq_false,decide_eq_true_eq]at h
  exact List.nodup_cons.2 ⟨fun hm=>h.1 a hm rfl,YoI h.2⟩
def j18C(lo:Lo):(List ByteArray×Int×List (Int×ByteArray×Vals)×Bool)->Option (List Vals×Int):=fun x=>match x with
 | (keys,clk,ents,m2)=>bif keys.isEmpty&& (nodB (ents.map (·.1))&&YHT ents.length maxEl)then Yb4 lo (ents.map (·.2.1),clk,clk,[],false,clk,ents,m2)else none
theorem YB3{x y}(h:j18C loO x=some y):YcR loO x=some y:=by
 obtain⟨keys,clk,ents,m2⟩:=x
 unfold j18C at h
 obtain⟨e,hk⟩:=Yab h
 simp only[YIa,List.isEmpty_iff]at e
 obtain⟨rfl,e1,e2⟩:=e
 exact YoH (YoI e1) (by simpa using e2) hk
def YF5(lo:Lo)(db:List Tabl)(q0:List ByteArray)(q1:List Atom):Option (List Vals×Int):=
 YH2 (q40 lo db q0 q1) fun y105=>bif(!decide (y105=(0:Int)))then(some ([],y105))else(YH2 (q41 lo db q0 q1) fun y108=>YH2 (q50 lo (0:Int) y108.1 y108.2.1 y108.2.2.1 y108.2.2.2.1 y108.2.2.2.2.1 y108.2.2.2.2.2.1 y108.2.2.2.2.2.2.1 y108.2.2.2.2.2.2.2 (0:Int) [] false) fun y163=>chk (y163.2.2.2.1.length=y108.2.2.1.length) (bif(!y163.1)then(some ([],(3:Int)))else(YH2 (j18C lo ([],y163.2.2.2.2.2.2.2.2.1,y163.2.2.2.2.2.2.2.2.2.1,y163.2.2.2.2.2.2.2.2.2.2.1)) fun y228=>some (y228.1,y228.2))))
theorem Yhk{α β:Type}{a:Option α}{f g:α->Option β}{y:β}(h: ∀z,f z=some y->g z=some y):YH2 a f=some y->YH2 a g=some y:=by
 cases a with
 |none=>intro h;cases h
 |some z=>exact h z
theorem YoJ{β:Type}{b:Bool}{x x' z:Option β}{y:β}(h:x=some y->x'=some y):(bif b then z else x)=some y->(bif b then z else x')=some y:=by
 cases b with
 |true=>exact id
 |false=>exact h
theorem YB4{β:Type}{p:Prop}[Decidable p]{x x':Option β}{y:β}(h:x=some y->x'=some y):chk p x=some y->chk p x'=some y:=by
 unfold chk
 cases decide p with
 |true=>exact h
 |false=>exact id
theorem YB5{db q0 q1 y}:YF5 loO db q0 q1=some y->q66 loO db q0 q1=some y:=by
 unfold YF5 q66
 refine Yhk fun _=>YoJ (Yhk fun _=>Yhk fun z=>YB4 (YoJ ?_))
 intro h
 cases hj:j18C loO ([],z.2.2.2.2.2.2.2.2.1,z.2.2.2.2.2.2.2.2.2.1,z.2.2.2.2.2.2.2.2.2.2.1)with
 |none=>rw[hj]at h;cases h
 |some q=>rw[hj]at h;rw[YB3 hj];exact h
noncomputable def R2:Int×Vals:=(q1 (loM 400) 1 [1,2]).getD (0,[])
noncomputable def R3:Int×Vals:=(q1 (loM 400) 2 [1,3]).getD (0,[])
noncomputable def R4:Int×Vals:=(q1 (loM 400) 3 [2,3]).getD (0,[])
noncomputable def R5:Int×Vals:=(q1 (loM 400) 1 [3]).getD (0,[])
noncomputable def T6:Term:=(q2 (loM 400) (YIk #[120])).getD (YIk #[],0,0,YIk #[])
noncomputable def T7:Term:=(q2 (loM 400) (YIk #[121])).getD (YIk #[],0,0,YIk #[])
noncomputable def EA:List Vals×Int:=(YF5 (loM 400) [((YIk #[114]),[(YIk #[97]),(YIk #[98])],[R2,R3,R4]),((YIk #[115]),[(YIk #[99])],[R5])] ([(YIk #[120])]) ([((YIk #[114]),[T6,T7]),((YIk #[115]),[T7])])).getD ([],0)
theorem aw:q99 loO=some true:=by
 have e2:q1 loO 1 [1,2]=some R2:=(congrArg (fun l=>q1 l 1 [1,2]) (Yba 400)).symm.trans (by kernel_rfl)
 have e3:q1 loO 2 [1,3]=some R3:=(congrArg (fun l=>q1 l 2 [1,3]) (Yba 400)).symm.trans (by kernel_rfl)
 have e4:q1 loO 3 [2,3]=some R4:=(congrArg (fun l=>q1 l 3 [2,3]) (Yba 400)).symm.trans (by kernel_rfl)
 have e5:q1 loO 1 [3]=some R5:=(congrArg (fun l=>q1 l 1 [3]) (Yba 400)).symm.trans (by kernel_rfl)
 have e6:q2 loO (YIk #[120])=some T6:=(congrArg (fun l=>q2 l (YIk #[120])) (Yba 400)).symm.trans (by kernel_rfl)
 have e7:q2 loO (YIk #[121])=some T7:=(congrArg (fun l=>q2 l (YIk #[121])) (Yba 400)).symm.trans (by kernel_rfl)
 have eA:q66 loO [((YIk #[114]),[(YIk #[97]),(YIk #[98])],[R2,R3,R4]),((YIk #[115]),[(YIk #[99])],[R5])] ([(YIk #[120])]) ([((YIk #[114]),[T6,T7]),((YIk #[115]),[T7])])=some EA:=
  YB5 ((congrArg (fun l=>YF5 l [((YIk #[114]),[(YIk #[97]),(YIk #[98])],[R2,R3,R4]),((YIk #[115]),[(YIk #[99])],[R5])] ([(YIk #[120])]) ([((YIk #[114]),[T6,T7]),((YIk #[115]),[T7])])) (Yba 400)).symm.trans (by kernel_rfl))
 unfold q99
 rw[e2,YC5,e3,YC5,e4,YC5,e5,YC5,e6,YC5,e7,YC5,YC5,eA,YC5,<-Yba 400]
 show(_:Option Bool)=some true
 kernel_rfl
end Go.Abs.G47
namespace Go.Abs
def YC7{R:Type}(f:Nat->Option R):Nat->Nat->R->R
 |0,_,r0=>r0
 |k+1,n,r0=>match f n with
  |some r=>r
  |none=>YC7 f k (n+1) r0
theorem Yhl{R:Type}{f g:Nat->Option R}{r0:R}: ∀(k n:Nat),(∀m,n<=m->m<n+k->f m=g m)->YC7 f k n r0=YC7 g k n r0
 |0,n,h=>rfl
 |k+1,n,h=>by
  simp only[YC7]
  rw[h n (YHR _) (by omega),Yhl k (n+1) (fun m h1 h2=>h m (by omega) (by omega))]
theorem Yak{S R:Type}{step:S->Option (S⊕R)}(st:Nat->S)(f:Nat->Option R)(N:Nat)(r0:R){s:S}(hst:s=st 0)(he:step (st N)=some (.inr r0))
  (hs: ∀n,n<N->step (st n)=some (match f n with|some r=>.inr r|none=>.inl (st (n+1)))):YDk step s=some (YC7 f N 0 r0):=by
 subst hst
 have: ∀k n,n+k=N->YDk step (st n)=some (YC7 f k n r0):=by
  intro k
  induction k with
  |zero=>intro n h;rw[Yaw];simp only[Nat.add_zero]at h;subst h;rw[he];rfl
  |succ k ih=>
   intro n h
   rw[Yaw,hs n (by omega)]
   simp only[YC7]
   grind
 simp_all
theorem YeL{R:Type}{f:Nat->Option R}{r0:R}: ∀(k n:Nat),(∀m,n<=m->m<n+k->f m=none)->YC7 f k n r0=r0
 |0,n,h=>rfl
 |k+1,n,h=>by
  simp only[YC7]
  rw[h n (YHR _) (by omega)]
  exact YeL k (n+1) (fun m h1 h2=>h m (by omega) (by omega))
def anyN(p:Nat->Bool):Nat->Nat->Bool
 |0,_=>false
 |k+1,n=>p n||anyN p k (n+1)
def idxR(p:Nat->Bool)(k n:Nat):Int:=match YC7 (R:=Int⊕Unit) (fun m=>bif p m then some (.inl (m:Int))else none) k n (.inr ())with
 | .inl i=>i
 | .inr _=> -1
theorem YeM(p:Nat->Bool): ∀k n,decide (0<=idxR p k n)=anyN p k n
 |0,n=>rfl
 |k+1,n=>by
  have:=YeM p k (n+1)
  unfold idxR at this⊢
  simp only[YC7,anyN]
  grind
theorem Yhm{p:Nat->Bool}{b:Bool}: ∀k n,(match YC7 (R:=Bool⊕Unit) (fun m=>bif p m then some (.inl b)else none) k n (.inr ())with| .inl x=>x| .inr _=> !b)=(bif anyN p k n then b else !b)
 |0,n=>rfl
 |k+1,n=>by
  simp only[YC7,anyN]
  cases p n with
  |true=>rfl
  |false=>simpa using Yhm (p:=p) (b:=b) k (n+1)
theorem Ybb{R:Type}{f:Nat->Option R}{r0:R}: ∀(k n:Nat),(∃m r,n<=m/\m<n+k/\f m=some r/\YC7 f k n r0=r)\/(YC7 f k n r0=r0/\ ∀m,n<=m->m<n+k->f m=none)
 |0,n=>.inr ⟨rfl,fun m h1 h2=>by omega⟩
 |k+1,n=>by
  simp only[YC7]
  cases hf:f n with
  |some r=>grind
  |none=>
   rcases Ybb (f:=f) (r0:=r0) k (n+1)with⟨m,r,h1,h2,h3,h4⟩| ⟨h1,h2⟩
   ·grind
   grind
theorem Yhn(s:ByteArray)(i:Int):0<=YC6 s i/\YC6 s i<256:=by
 unfold YC6
 have:=(s.data.getD i.toNat 0).toNat_lt
 omega
theorem Yaj{α:Type}{l:List α}{n:Nat}{d:α}(h:n<l.length):l.getD n d∈l:=by
 simp_all
theorem YB6{a b:ByteArray}(hs:a.size=b.size)(h: ∀n:Nat,n<a.size->YC6 a n=YC6 b n):a=b:=by
 have:a.data=b.data:=by
  apply Array.ext hs
  intro i h1 h2
  have:=h i h1
  rw[YBW]at this
  unfold Array.getD at this
  rw[dif_pos h1,dif_pos h2]at this
  trivial
 cases a;simp_all
theorem YB7{α:Type}{a b:List α}{d:α}(hs:a.length=b.length)(h: ∀n,n<a.length->a.getD n d=b.getD n d):a=b:=by
 apply List.ext_getElem hs
 simp_all
theorem Yb7{p:Nat->Bool}: ∀{k n:Nat},anyN p k n=true↔ ∃m,n<=m/\m<n+k/\p m=true
 |0,n=>⟨fun h=>(by cases h),fun⟨m,h1,h2,_⟩=>(by omega)⟩
 |k+1,n=>by
  simp only[anyN,Bool.or_eq_true,Yb7 (k:=k) (n:=n+1)]
  grind
theorem Yho{R:Type}{p:Nat->Bool}(hit:Nat->R)(r0:R)(T:R->Bool)(h0:T r0=false)(h1: ∀m,T (hit m)=true): ∀k n,T (YC7 (fun m=>bif p m then some (hit m)else none) k n r0)=anyN p k n
 |0,n=>h0
 |k+1,n=>by
  simp only[YC7,anyN]
  cases hp:p n with
  |true=>grind
  |false=>simpa using Yho hit r0 T h0 h1 k (n+1)
theorem YeN{p:Nat->Bool}(b:Bool)(k n:Nat):YC7 (R:=Bool⊕Unit) (fun m=>bif p m then some (.inl b)else none) k n (.inr ())=bif anyN p k n then .inl b else .inr ():=by
 induction k generalizing n with
 |zero=>rfl
 |succ k ih=>
  simp only[YC7,anyN]
  grind
theorem Ybc{α:Type}{l:List α}{n:Nat}{d:α}(h:n<l.length):l.take (n+1)=l.take n++[l.getD n d]:=by
 simp_all
end Go.Abs
namespace Go.Abs.G47
open Go Go.Abs
noncomputable section
theorem YB8{A B C:Type}(b:B)(f:A->Option C)(g:B->Option C):alt2 (.inr b:A⊕B) f g=g b:=rfl
def lt(c:Int):Bool:=decide (97<=c)&&decide (c<=122)||decide (65<=c)&&decide (c<=90)||decide (c=95)
theorem YeO(c:Int):q102 loO c=some (lt c):=by
 unfold q102 lt
 by_cases h1:(97:Int)<=c<;>by_cases h2:c<=(122:Int)<;>by_cases h3:(65:Int)<=c<;>by_cases h4:c<=(90:Int)<;>simp[h1,h2,h3,h4]
def fN(s:ByteArray)(n:Nat):Option (Bool⊕Unit):=
 bif lt (YC6 s n)then none else bif decide (n=0)then some (.inl false)else bif decide (YC6 s n<48)then some (.inl false)else bif decide ((57:Int)<YC6 s n)then some (.inl false)else none
theorem YB9(s:ByteArray)(hs:s.size<=24):Ygm loO (s,(s.size:Int),0)=some (YC7 (fN s) s.size 0 (.inr ())):=by
 refine Yak (fun n=>(s,(s.size:Int),(n:Int))) (fN s) s.size (.inr ()) rfl ?_ (fun n hn=> ?_)
 ·simp[YdZ]
 ·have e1:decide ((n:Int)< (s.size:Int))=true:=by simp;omega
  have e2:YIl .i64 ((n:Int)+1)=((n+1:Nat):Int):=by rw[wr6 (by omega) (by omega)];omega
  simp only[YdZ,e1,cond_true,e2]
  rw[chkT _ (by omega)]
  unfold fN lt
  have e3:decide ((n:Int)=0)=decide (n=0):=by simp
  simp only[e3]
  generalize YC6 s n=c
  by_cases h1:(97:Int)<=c<;>by_cases h2:c<=(122:Int)<;>by_cases h3:(65:Int)<=c<;>by_cases h4:c<=(90:Int)<;>by_cases h5:c=95<;>by_cases h6:n=0<;>by_cases h7:c<48<;>by_cases h8:(57:Int)<c<;>simp[h1,h2,h3,h4,h5,h6,h7,h8]
def nul:ByteArray:=YIk #[110,117,108,108]
def YDy(s:ByteArray):Bool:=
 bif decide (s=YIk #[])then false else bif decide ((24:Int)< (s.size:Int))then false else bif decide (s=nul)then false else
  match YC7 (fN s) s.size 0 (.inr ())with| .inl b=>b| .inr _=>true
theorem YoK(s:ByteArray):q3 loO s=some (YDy s):=by
 unfold q3 YDy nul
 by_cases h1:s=YIk #[]
 ·simp[h1]
 ·by_cases h2:(24:Int)< (s.size:Int)
  ·simp[h1,h2]
  ·by_cases h3:s=YIk #[110,117,108,108]
   ·simp[h1,h2,h3]
   ·simp only[h1,h2,h3,decide_false,cond_false]
    rw[YB9 s (by omega)]
    simp only[YC5]
    cases YC7 (fN s) s.size 0 (.inr ())<;>rfl
def fR(s:ByteArray)(n:Nat):Option (Bool⊕Unit):=
 bif lt (YC6 s n)then none else bif decide (YC6 s n<48)then some (.inl false)else bif decide ((57:Int)<YC6 s n)then some (.inl false)else none
theorem YoL(s:ByteArray)(hs:s.size<=24):YgU loO (s,0)=some (YC7 (fR s) s.size 0 (.inr ())):=by
 refine Yak (fun n=>(s,(n:Int))) (fR s) s.size (.inr ()) rfl ?_ (fun n hn=> ?_)
 ·simp[Yen]
 ·have e1:decide ((n:Int)< (s.size:Int))=true:=by simp;omega
  have e2:YIl .i64 ((n:Int)+1)=((n+1:Nat):Int):=by rw[wr6 (by omega) (by omega)];omega
  simp only[Yen,e1,cond_true,e2,YeO,YC5]
  rw[chkT _ (by omega)]
  unfold fR
  generalize YC6 s n=c
  have h0:(0:Int)<=(n:Int)/\ (n:Int)< (s.size:Int):=by omega
  cases lt c<;>by_cases h7:c<48<;>by_cases h8:(57:Int)<c<;>simp[h7,h8,chkT,h0]
theorem YGT(s:ByteArray):s.size=0↔s=YIk #[]:=by
 constructor
 ·intro h
  have:s.data= #[]:=Array.eq_empty_of_size_eq_zero h
  cases s;simp_all
 ·intro h;subst h;rfl
theorem YeP(s:ByteArray):q103 loO s=some (YDy s):=by
 unfold q103 YDy nul
 by_cases h1:s=YIk #[]
 ·subst h1;rfl
 ·have h1':s.size≠0:=fun h=>h1 ((YGT s).1 h)
  by_cases h2:(24:Int)< (s.size:Int)
  ·have: ¬ (s.size:Int)=0:=by omega
   simp[h1,h2,this]
  ·have h0: ¬ (s.size:Int)=0:=by omega
   simp only[h1,h2,h0,decide_false,cond_false,YeO,YC5]
   rw[chkT _ (by omega)]
   have hz:YC6 s 0=YC6 s ((0:Nat):Int):=rfl
   have hsz:s.size=(s.size-1)+1:=by omega
   cases hl:lt (YC6 s 0)with
   |false=>
    have:YC7 (fN s) s.size 0 (.inr ())= .inl false:=by
     rw[hsz];simp only[YC7,fN,<-hz,hl];rfl
    rw[this]
    by_cases h3:s=YIk #[110,117,108,108]<;>simp[h3]
   |true=>
    have:YC7 (fN s) s.size 0 (.inr ())=YC7 (fR s) s.size 0 (.inr ()):=Yhl _ _ (fun m _ _=>by
     unfold fN fR
     by_cases hm:m=0
     ·subst hm;rw[<-hz,hl];rfl
     ·simp[hm])
    rw[this,YoL s (by omega)]
    by_cases h3:s=YIk #[110,117,108,108]
    ·simp[h3]
    ·simp only[h3,decide_false,cond_false,YIb,YC5]
     cases YC7 (fR s) s.size 0 (.inr ())<;>rfl
def idxI(l:List ByteArray)(v:ByteArray):Int:=idxR (fun m=>decide (v=l.getD m (YIk #[]))) l.length 0
theorem YCa(l:List ByteArray)(v:ByteArray)(hl:l.length<=maxEl):q4 loO l v=some (idxI l v):=by
 have hm:maxEl=1073741824:=rfl
 have:Ygn loO (l,v,(l.length:Int),0)=some (YC7 (R:=Int⊕Unit) (fun m=>bif decide (v=l.getD m (YIk #[]))then some (.inl (m:Int))else none) l.length 0 (.inr ())):=by
  refine Yak (fun n=>(l,v,(l.length:Int),(n:Int))) _ l.length (Sum.inr ()) rfl ?_ (fun n hn=> ?_)
  ·simp[Yd0]
  ·have e1:decide ((n:Int)< (l.length:Int))=true:=by simp;omega
   have e2:YIl .i64 ((n:Int)+1)=((n+1:Nat):Int):=by rw[wr6 (by omega) (by omega)];omega
   simp only[Yd0,e1,cond_true,e2,YIf]
   rw[chkT _ (by omega)]
   cases decide (v=l.getD n (YIk #[]))<;>rfl
 unfold q4 idxI idxR
 rw[this,YC5]
 cases YC7 (R:=Int⊕Unit) (fun m=>bif decide (v=l.getD m (YIk #[]))then some (.inl (m:Int))else none) l.length 0 (.inr ())<;>rfl
theorem YoM(l:List ByteArray)(v:ByteArray)(hl:l.length<=maxEl):q5 loO l v=some (decide (0<=idxI l v)):=by
 unfold q5;rw[YCa l v hl];rfl
theorem Ybo(l:List ByteArray)(v:ByteArray)(hl:l.length<=maxEl):q104 loO l v=some (idxI l v):=by
 have hm:maxEl=1073741824:=rfl
 have:YgV loO (l,v,0)=some (YC7 (R:=Int⊕Unit) (fun m=>bif decide (v=l.getD m (YIk #[]))then some (.inl (m:Int))else none) l.length 0 (.inr ())):=by
  refine Yak (fun n=>(l,v,(n:Int))) _ l.length (Sum.inr ()) rfl ?_ (fun n hn=> ?_)
  ·simp[Yeo]
  ·have e1:decide ((n:Int)< (l.length:Int))=true:=by simp;omega
   have e2:YIl .i64 ((n:Int)+1)=((n+1:Nat):Int):=by rw[wr6 (by omega) (by omega)];omega
   have e3:decide (l.getD n (YIk #[])=v)=decide (v=l.getD n (YIk #[])):=by simp only[eq_comm]
   simp only[Yeo,e1,cond_true,e2,YIf,e3]
   rw[chkT _ (by omega)]
   cases decide (v=l.getD n (YIk #[]))<;>rfl
 unfold q104 idxI idxR
 rw[this,YC5]
 cases YC7 (R:=Int⊕Unit) (fun m=>bif decide (v=l.getD m (YIk #[]))then some (.inl (m:Int))else none) l.length 0 (.inr ())<;>rfl
def vB(v:Int×Int×ByteArray):Bool:=(q6 loO v.1 v.2.1 v.2.2).getD false
theorem Yc0(a b:Int)(c:ByteArray):q6 loO a b c=some (vB (a,b,c)):=by
 unfold vB q6
 by_cases h0:a=0<;>by_cases h1:a=1<;>by_cases h2:a=2<;>by_cases h3:a=3<;>by_cases h4:b=0<;>by_cases h5:1<=b<;>simp[h0,h1,h2,h3,h4,h5]
theorem YoN(a b:Int)(c:ByteArray):q106 loO a b c=some (vB (a,b,c)):=Yc0 a b c
abbrev zV:Int×Int×ByteArray:=(0,0,YIk #[])
def vsB(l:Vals):Bool:= !anyN (fun m=> !vB (l.getD m zV)) l.length 0
theorem YCb(l:Vals)(hl:l.length<=maxEl):q10 loO l=some (vsB l):=by
 have hm:maxEl=1073741824:=rfl
 have:Ygo loO (l,(l.length:Int),0)=some (YC7 (R:=Int⊕Unit) (fun m=>bif !vB (l.getD m zV)then some (.inl (m:Int))else none) l.length 0 (.inr ())):=by
  refine Yak (fun n=>(l,(l.length:Int),(n:Int))) _ l.length (Sum.inr ()) rfl ?_ (fun n hn=> ?_)
  ·simp[Yd1]
  ·have e1:decide ((n:Int)< (l.length:Int))=true:=by simp;omega
   have e2:YIl .i64 ((n:Int)+1)=((n+1:Nat):Int):=by rw[wr6 (by omega) (by omega)];omega
   simp only[Yd1,e1,cond_true,e2,YIf,q7,Yc0,YC5]
   rw[chkT _ (by omega)]
   cases vB (l.getD n zV)<;>rfl
 have h2:q8 loO l=some (idxR (fun m=> !vB (l.getD m zV)) l.length 0):=by
  unfold q8 idxR
  rw[this,YC5]
  cases YC7 (R:=Int⊕Unit) (fun m=>bif !vB (l.getD m zV)then some (.inl (m:Int))else none) l.length 0 (.inr ())<;>rfl
 unfold q10 q9 vsB
 rw[h2,YC5,YC5,YeM]
theorem YCc(l:Vals)(hl:l.length<=maxEl):q107 loO l=some (vsB l):=by
 have hm:maxEl=1073741824:=rfl
 have:YgX loO (l,0)=some (YC7 (R:=Bool⊕Unit) (fun m=>bif !vB (l.getD m zV)then some (.inl false)else none) l.length 0 (.inr ())):=by
  refine Yak (fun n=>(l,(n:Int))) _ l.length (Sum.inr ()) rfl ?_ (fun n hn=> ?_)
  ·simp[Yeq]
  ·have e1:decide ((n:Int)< (l.length:Int))=true:=by simp;omega
   have e2:YIl .i64 ((n:Int)+1)=((n+1:Nat):Int):=by rw[wr6 (by omega) (by omega)];omega
   simp only[Yeq,e1,cond_true,e2,YIf,YoN,YC5]
   rw[chkT _ (by omega)]
   cases vB (l.getD n zV)<;>rfl
 unfold q107 vsB
 rw[this,YC5]
 have h3:=Yhm (p:=fun m=> !vB (l.getD m zV)) (b:=false) l.length 0
 cases hs:YC7 (R:=Bool⊕Unit) (fun m=>bif !vB (l.getD m zV)then some (.inl false)else none) l.length 0 (.inr ())with
 |inl b=>rw[hs]at h3;simp only[alt2];rw[show b=_ from h3];cases anyN (fun m=> !vB (l.getD m zV)) l.length 0<;>rfl
 |inr u=>rw[hs]at h3;simp only[alt2];rw[show true=_ from h3];cases anyN (fun m=> !vB (l.getD m zV)) l.length 0<;>rfl
def fA(l:List ByteArray)(n:Nat):Bool:= !YDy (l.getD n (YIk #[]))||decide (0<=idxI (l.take n) (l.getD n (YIk #[])))
abbrev zR:Int×Vals:=(0,[])
def YEk(rows:Rws):Nat->Int
 |0=>0
 |n+1=>(rows.getD n zR).1
def fV(attrs:List ByteArray)(rows:Rws)(n:Nat):Option (Int⊕Unit):=
 bif decide ((rows.getD n zR).1<=YEk rows n)then some (.inl 1)else bif !decide (((rows.getD n zR).2.length:Int)=(attrs.length:Int))then some (.inl 6)else bif !vsB (rows.getD n zR).2 then some (.inl 1)else none
def YDB(nm:ByteArray)(attrs:List ByteArray)(rows:Rws):Int:=
 bif !YDy nm then 1 else bif decide ((16:Int)< (attrs.length:Int))then 3 else bif decide ((1000:Int)< (rows.length:Int))then 3 else bif anyN (fA attrs) attrs.length 0 then 1 else
  match YC7 (fV attrs rows) rows.length 0 (.inr ())with| .inl i=>i| .inr _=>0
theorem YGU(nm:ByteArray)(attrs:List ByteArray)(rows:Rws):q11 loO nm attrs rows=some (YDB nm attrs rows):=by
 have hm:maxEl=1073741824:=rfl
 unfold q11 YDB
 rw[YoK,YC5]
 cases YDy nm with
 |false=>rfl
 |true=>
  by_cases h1:(16:Int)< (attrs.length:Int)
  ·simp[h1]
  ·by_cases h2:(1000:Int)< (rows.length:Int)
   ·simp[h1,h2]
   ·simp only[h1,h2,decide_false,cond_false,YIb]
    have e20:Ygp loO (attrs,(attrs.length:Int),0,nm,attrs,rows)=some (YC7 (R:=Int⊕ (ByteArray×List ByteArray×Rws)) (fun m=>bif fA attrs m then some (.inl 1)else none) attrs.length 0 (.inr (nm,attrs,rows))):=by
     refine Yak (fun n=>(attrs,(attrs.length:Int),(n:Int),nm,attrs,rows)) _ attrs.length _ rfl ?_ (fun n hn=> ?_)
     ·simp[Yd2]
     ·have e1:decide ((n:Int)< (attrs.length:Int))=true:=by simp;omega
      have e2:YIl .i64 ((n:Int)+1)=((n+1:Nat):Int):=by rw[wr6 (by omega) (by omega)];omega
      simp only[Yd2,e1,cond_true,e2,YIf,YoK,YC5,YHG]
      rw[chkT _ (by omega),chkT _ (by omega),YoM _ _ (by simp;omega),YC5]
      unfold fA
      cases YDy (attrs.getD n (YIk #[]))<;>cases decide (0<=idxI (attrs.take n) (attrs.getD n (YIk #[])))<;>rfl
    rw[e20,YC5]
    have hsc: ∀k n,YC7 (R:=Int⊕ (ByteArray×List ByteArray×Rws)) (fun m=>bif fA attrs m then some (.inl 1)else none) k n (.inr (nm,attrs,rows))=bif anyN (fA attrs) k n then .inl 1 else .inr (nm,attrs,rows):=by
     intro k
     induction k with
     |zero=>intro n;rfl
     |succ k ih=>intro n;simp only[YC7,anyN];cases fA attrs n with
      |true=>rfl
      |false=>simpa using ih (n+1)
    rw[hsc]
    cases anyN (fA attrs) attrs.length 0 with
    |true=>rfl
    |false=>
     simp only[cond_false,alt2]
     have e3:Ygq loO (0,rows,(rows.length:Int),0,nm,attrs,rows)=some (YC7 (fV attrs rows) rows.length 0 (.inr ())):=by
      refine Yak (fun n=>(YEk rows n,rows,(rows.length:Int),(n:Int),nm,attrs,rows)) _ rows.length _ rfl ?_ (fun n hn=> ?_)
      ·simp[Yd3]
      ·have e1:decide ((n:Int)< (rows.length:Int))=true:=by simp;omega
       have e2:YIl .i64 ((n:Int)+1)=((n+1:Nat):Int):=by rw[wr6 (by omega) (by omega)];omega
       simp only[Yd3,e1,cond_true,e2,YIf]
       rw[chkT _ (by omega)]
       unfold fV
       by_cases g1:(rows.getD n zR).1<=YEk rows n
       ·simp only[g1,decide_true,cond_true]
       ·by_cases g2:((rows.getD n zR).2.length:Int)=(attrs.length:Int)
        ·simp only[g1,g2,decide_false,decide_true,cond_false,YIb]
         rw[YCb _ (show(rows.getD n zR).2.length<=maxEl by omega),YC5]
         cases vsB (rows.getD n zR).2<;>rfl
        ·simp only[g1,g2,decide_false,cond_false,YIc,cond_true]
     rw[e3,YC5]
     cases YC7 (fV attrs rows) rows.length 0 (.inr ())<;>rfl
theorem YGV(nm:ByteArray)(attrs:List ByteArray)(rows:Rws):q108 loO nm attrs rows=some (YDB nm attrs rows):=by
 have hm:maxEl=1073741824:=rfl
 unfold q108 YDB
 rw[YeP,YC5]
 cases YDy nm with
 |false=>rfl
 |true=>
  by_cases h1:(16:Int)< (attrs.length:Int)
  ·simp[h1]
  ·by_cases h2:(1000:Int)< (rows.length:Int)
   ·simp[h1,h2]
   ·simp only[h1,h2,decide_false,cond_false,YIb]
    have e20:YgW loO (attrs,0)=some (YC7 (R:=Bool⊕Unit) (fun m=>bif fA attrs m then some (.inl false)else none) attrs.length 0 (.inr ())):=by
     refine Yak (fun n=>(attrs,(n:Int))) _ attrs.length _ rfl ?_ (fun n hn=> ?_)
     ·simp[Yep]
     ·have e1:decide ((n:Int)< (attrs.length:Int))=true:=by simp;omega
      have e2:YIl .i64 ((n:Int)+1)=((n+1:Nat):Int):=by rw[wr6 (by omega) (by omega)];omega
      simp only[Yep,e1,cond_true,e2,YIf,YeP,YC5,YHG]
      rw[chkT _ (by omega),chkT _ (by omega),chkT _ (by omega),Ybo _ _ (by simp;omega),YC5]
      unfold fA
      cases YDy (attrs.getD n (YIk #[]))<;>cases decide (0<=idxI (attrs.take n) (attrs.getD n (YIk #[])))<;>rfl
    have eN:q105 loO attrs=some (!anyN (fA attrs) attrs.length 0):=by
     unfold q105
     rw[e20,YC5]
     have h3:=Yhm (p:=fA attrs) (b:=false) attrs.length 0
     cases hs:YC7 (R:=Bool⊕Unit) (fun m=>bif fA attrs m then some (.inl false)else none) attrs.length 0 (.inr ())with
     |inl b=>rw[hs]at h3;simp only[alt2];rw[show b=_ from h3];cases anyN (fA attrs) attrs.length 0<;>rfl
     |inr u=>rw[hs]at h3;simp only[alt2];rw[show true=_ from h3];cases anyN (fA attrs) attrs.length 0<;>rfl
    rw[eN,YC5]
    cases anyN (fA attrs) attrs.length 0 with
    |true=>rfl
    |false=>
     simp only[cond_false,YIc,YIb]
     have e3:YgY loO (0,0,nm,attrs,rows)=some (YC7 (fV attrs rows) rows.length 0 (.inr ())):=by
      refine Yak (fun n=>(YEk rows n,(n:Int),nm,attrs,rows)) _ rows.length _ rfl ?_ (fun n hn=> ?_)
      ·simp[Yer]
      ·have e1:decide ((n:Int)< (rows.length:Int))=true:=by simp;omega
       have e2:YIl .i64 ((n:Int)+1)=((n+1:Nat):Int):=by rw[wr6 (by omega) (by omega)];omega
       simp only[Yer,e1,cond_true,e2,YIf]
       rw[chkT _ (by omega)]
       unfold fV
       by_cases g1:(rows.getD n zR).1<=YEk rows n
       ·simp only[g1,decide_true,cond_true]
       ·by_cases g2:((rows.getD n zR).2.length:Int)=(attrs.length:Int)
        ·simp only[g1,g2,decide_false,decide_true,cond_false,YIb]
         rw[YCc _ (show(rows.getD n zR).2.length<=maxEl by omega),YC5]
         cases vsB (rows.getD n zR).2<;>rfl
        ·simp only[g1,g2,decide_false,cond_false,YIc,cond_true]
     rw[e3,YC5]
     cases YC7 (fV attrs rows) rows.length 0 (.inr ())<;>rfl
end
end Go.Abs.G47
namespace Go.Abs.G47
open Go Go.Abs
noncomputable section
theorem inc{n N:Nat}(h:n<N)(hN:N<=maxEl):YIl .i64 ((n:Int)+1)=((n+1:Nat):Int):=by
 have hm:maxEl=1073741824:=rfl
 rw[wr6 (by omega) (by omega)];omega
theorem ltI{n N:Nat}(h:n<N):decide ((n:Int)< (N:Int))=true:=by simp_all
theorem nlI(N:Nat):decide ((N:Int)< (N:Int))=false:=by simp
abbrev zT:Tabl:=(YIk #[],[],[])
abbrev zA:Atom:=(YIk #[],[])
abbrev zM:Term:=(YIk #[],0,0,YIk #[])
abbrev nul0:ByteArray:=YIk #[]
def tabP(db:List Tabl)(nm:ByteArray)(n:Nat):Bool:=decide ((db.getD n zT).1=nm)
def tabI(db:List Tabl)(nm:ByteArray):Int:=idxR (tabP db nm) db.length 0
theorem YoO(db:List Tabl)(nm:ByteArray)(h:db.length<=maxEl):q14 loO db nm=some (tabI db nm):=by
 have:Ygr loO (db,(db.length:Int),0,nm)=some (YC7 (R:=(Int×ByteArray)⊕ByteArray) (fun m=>bif tabP db nm m then some (.inl ((m:Int),nm))else none) db.length 0 (.inr nm)):=by
  refine Yak (fun n=>(db,(db.length:Int),(n:Int),nm)) _ db.length _ rfl ?_ (fun n hn=> ?_)
  ·simp[Yd4]
  ·simp only[Yd4,ltI hn,cond_true,inc hn h,YIf,q12,YC5]
   rw[chkT _ (by omega)]
   unfold tabP
   grind
 unfold q14 q13
 rw[this,YC5]
 unfold tabI idxR
 have key: ∀k n,(match YC7 (R:=(Int×ByteArray)⊕ByteArray) (fun m=>bif tabP db nm m then some (.inl ((m:Int),nm))else none) k n (.inr nm)with| .inl i=>Sum.inl (β:=Unit) i.1| .inr _=>.inr ())=YC7 (R:=Int⊕Unit) (fun m=>bif tabP db nm m then some (.inl (m:Int))else none) k n (.inr ()):=by
  intro k
  induction k with
  |zero=>intro n;rfl
  |succ k ih=>intro n;simp only[YC7];grind
 rw[<-key]
 cases YC7 (R:=(Int×ByteArray)⊕ByteArray) (fun m=>bif tabP db nm m then some (.inl ((m:Int),nm))else none) db.length 0 (.inr nm)<;>rfl
theorem rTab(db:List Tabl)(nm:ByteArray)(h:db.length<=maxEl):q109 loO db nm=some (tabI db nm):=by
 have:YgZ loO (db,nm,0)=some (YC7 (R:=Int⊕Unit) (fun m=>bif tabP db nm m then some (.inl (m:Int))else none) db.length 0 (.inr ())):=by
  refine Yak (fun n=>(db,nm,(n:Int))) _ db.length _ rfl ?_ (fun n hn=> ?_)
  ·simp[Yes]
  ·simp only[Yes,ltI hn,cond_true,inc hn h,YIf]
   rw[chkT _ (by omega)]
   unfold tabP
   grind
 unfold q109 tabI idxR
 rw[this,YC5]
 cases YC7 (R:=Int⊕Unit) (fun m=>bif tabP db nm m then some (.inl (m:Int))else none) db.length 0 (.inr ())<;>rfl
def tabO(db:List Tabl)(nm:ByteArray):Tabl:=bif decide (0<=tabI db nm)then db.getD (tabI db nm).toNat zT else zT
theorem YbK{p:Nat->Bool}: ∀{k n:Nat},(∃m,n<=m/\m<n+k/\p m=true/\idxR p k n=(m:Int))\/(idxR p k n= -1/\ ∀m,n<=m->m<n+k->p m=false)
 |0,n=>.inr ⟨rfl,fun m h1 h2=>by omega⟩
 |k+1,n=>by
  cases hp:p n with
  |true=>exact .inl ⟨n,YHR _,by omega,hp,by unfold idxR;simp[YC7,hp]⟩
  |false=>
   have e:idxR p (k+1) n=idxR p k (n+1):=by unfold idxR;simp[YC7,hp]
   rcases YbK (p:=p) (k:=k) (n:=n+1)with⟨m,h1,h2,h3,h4⟩| ⟨h1,h2⟩
   ·grind
   grind
theorem YGW(db:List Tabl)(nm:ByteArray)(h:db.length<=maxEl):q25 loO db nm=some ((tabO db nm).1,(tabO db nm).2.1,(tabO db nm).2.2,decide (0<=tabI db nm)):=by
 have:Ygt loO (nm,db,(db.length:Int),0,nul0,[],[])=some (YC7 (R:=(Bool×Tabl)⊕Tabl) (fun m=>bif tabP db nm m then some (.inl (true,db.getD m zT))else none) db.length 0 (.inr zT)):=by
  refine Yak (fun n=>(nm,db,(db.length:Int),(n:Int),nul0,[],[])) _ db.length _ rfl ?_ (fun n hn=> ?_)
  ·simp[Yd6]
  ·simp only[Yd6,ltI hn,cond_true,inc hn h,YIf]
   rw[chkT _ (by omega)]
   unfold tabP
   grind
 unfold q25
 rw[this,YC5]
 have key: ∀k n,YC7 (R:=(Bool×Tabl)⊕Tabl) (fun m=>bif tabP db nm m then some (.inl (true,db.getD m zT))else none) k n (.inr zT)=bif decide (0<=idxR (tabP db nm) k n)then .inl (true,db.getD (idxR (tabP db nm) k n).toNat zT)else .inr zT:=by
  intro k
  induction k with
  |zero=>intro n;rfl
  |succ k ih=>
   intro n
   cases hp:tabP db nm n with
   |true=>unfold idxR;simp[YC7,hp]
   |false=>
    have e:idxR (tabP db nm) (k+1) n=idxR (tabP db nm) k (n+1):=by unfold idxR;simp[YC7,hp]
    rw[e,<-ih (n+1)]
    simp[YC7,hp]
 rw[key]
 unfold tabO tabI
 cases decide (0<=idxR (tabP db nm) db.length 0)<;>rfl
def fD(db:List Tabl)(n:Nat):Option (Int⊕Unit):=
 bif !decide (YDB (db.getD n zT).1 (db.getD n zT).2.1 (db.getD n zT).2.2=0)then some (.inl (YDB (db.getD n zT).1 (db.getD n zT).2.1 (db.getD n zT).2.2))else bif decide (0<=tabI (db.take n) (db.getD n zT).1)then some (.inl 5)else none
def dbI(db:List Tabl):Int:=bif decide ((50:Int)< (db.length:Int))then 3 else match YC7 (fD db) db.length 0 (.inr ())with| .inl i=>i| .inr _=>0
theorem YCd(db:List Tabl):q15 loO db=some (dbI db):=by
 have hm:maxEl=1073741824:=rfl
 unfold q15 dbI
 by_cases h:(50:Int)< (db.length:Int)
 ·simp[h]
 ·have hl:db.length<=maxEl:=by omega
  simp only[h,decide_false,cond_false]
  have:Ygs loO (db,(db.length:Int),0,db)=some (YC7 (fD db) db.length 0 (.inr ())):=by
   refine Yak (fun n=>(db,(db.length:Int),(n:Int),db)) _ db.length _ rfl ?_ (fun n hn=> ?_)
   ·simp[Yd5]
   ·simp only[Yd5,ltI hn,cond_true,inc hn hl,YIf,YGU,YC5,YHG]
    rw[chkT _ (by omega),chkT _ (by omega),YoO _ _ (by grind),YC5]
    unfold fD
    grind
  rw[this,YC5]
  cases YC7 (fD db) db.length 0 (.inr ())<;>rfl
theorem rDb(db:List Tabl):q110 loO db=some (dbI db):=by
 have hm:maxEl=1073741824:=rfl
 unfold q110 dbI
 by_cases h:(50:Int)< (db.length:Int)
 ·simp[h]
 ·have hl:db.length<=maxEl:=by omega
  simp only[h,decide_false,cond_false]
  have:Yg0 loO (0,db)=some (YC7 (fD db) db.length 0 (.inr ())):=by
   refine Yak (fun n=>((n:Int),db)) _ db.length _ rfl ?_ (fun n hn=> ?_)
   ·simp[Yet]
   ·simp only[Yet,ltI hn,cond_true,inc hn hl,YIf,YGV,YC5,YHG]
    rw[chkT _ (by omega),chkT _ (by omega),chkT _ (by omega),rTab _ _ (by grind),YC5]
    unfold fD
    grind
  rw[this,YC5]
  cases YC7 (fD db) db.length 0 (.inr ())<;>rfl
theorem YCe(nm:ByteArray)(attrs:List ByteArray)(rows:Rws):YDB nm attrs rows≠4:=by
 unfold YDB
 cases YDy nm with
 |false=>simp
 |true=>
  cases decide ((16:Int)< (attrs.length:Int))with
  |true=>simp
  |false=>
   cases decide ((1000:Int)< (rows.length:Int))with
   |true=>simp
   |false=>
    cases anyN (fA attrs) attrs.length 0 with
    |true=>simp
    |false=>
     rcases Ybb (f:=fV attrs rows) (r0:=.inr ()) rows.length 0 with⟨m,r,_,_,h3,h4⟩| ⟨h1,_⟩
     ·unfold fV at h3
      grind
     simp_all
theorem YCf(db:List Tabl):dbI db≠4:=by
 unfold dbI
 cases decide ((50:Int)< (db.length:Int))with
 |true=>simp
 |false=>
  rcases Ybb (f:=fD db) (r0:=.inr ()) db.length 0 with⟨m,r,_,_,h3,h4⟩| ⟨h1,_⟩
  ·rw[h4]
   unfold fD at h3
   cases hv:decide (YDB (db.getD m zT).1 (db.getD m zT).2.1 (db.getD m zT).2.2=0)with
   |false=>rw[hv]at h3;injection h3 with h3;subst h3;exact YCe _ _ _
   |true=>
    grind
  simp_all
theorem YeQ{db:List Tabl}(h:dbI db=0):db.length<=50/\ ∀n,n<db.length->YDB (db.getD n zT).1 (db.getD n zT).2.1 (db.getD n zT).2.2=0:=by
 unfold dbI at h
 by_cases h50:(50:Int)< (db.length:Int)
 ·simp_all
 ·refine⟨by omega,?_⟩
  rcases Ybb (f:=fD db) (r0:=.inr ()) db.length 0 with⟨m,r,_,h2,h3,h4⟩| ⟨h1,hn⟩
  ·unfold fD at h3
   grind
  ·intro n hl
   have:=hn n (YH0 _) (by omega)
   unfold fD at this
   grind
theorem YCg{nm:ByteArray}{attrs:List ByteArray}{rows:Rws}(h:YDB nm attrs rows=0):YDy nm=true:=by
 unfold YDB at h
 grind
theorem YCh{db:List Tabl}(h:dbI db=0):tabI db nul0= -1:=by
 rcases YbK (p:=tabP db nul0) (k:=db.length) (n:=0)with⟨m,_,h2,h3,_⟩| ⟨h1,_⟩
 ·exfalso
  have:=YCg ((YeQ h).2 m (by omega))
  rw[of_decide_eq_true (show decide ((db.getD m zT).1=nul0)=true from h3)]at this
  trivial
 trivial
theorem YCi(db:List Tabl):q24 loO db nul0 [] nul0 []=some (bif !decide (dbI db=0)then dbI db else 4):=by
 have hm:maxEl=1073741824:=rfl
 unfold q24
 rw[YCd,YC5]
 by_cases h:dbI db=0
 ·have hl:=(YeQ h).1
  simp only[h,decide_true,YIb,cond_false]
  unfold q23
  rw[YoO _ _ (by omega),YC5,YC5,YCh h];rfl
 simp_all
theorem lexL(c:Int):q26 loO c=some (lt c):=YeO c
theorem lexD(c:Int):q27 loO c=some (decide (48<=c)&&decide (c<=57)):=by
 unfold q27
 grind
theorem YCj(s:ByteArray)(hs:s.size<=24):Ygu loO (s,(s.size:Int),0)=some (YC7 (fR s) s.size 0 (.inr ())):=by
 have hm:maxEl=1073741824:=rfl
 refine Yak (fun n=>(s,(s.size:Int),(n:Int))) (fR s) s.size (.inr ()) rfl ?_ (fun n hn=> ?_)
 ·simp[Yd7]
 ·simp only[Yd7,ltI hn,cond_true,inc hn (show s.size<=maxEl by omega),lexL,lexD,YC5]
  rw[chkT _ (by omega),chkT _ (by omega)]
  unfold fR
  grind
theorem lexN(s:ByteArray):q28 loO s=some (YDy s):=by
 rw[<-YeP]
 unfold q28 q103
 by_cases h1:s=YIk #[]
 ·subst h1;rfl
 ·have h1':s.size≠0:=fun h=>h1 ((YGT s).1 h)
  have h0: ¬ (s.size:Int)=0:=by omega
  by_cases h2:(24:Int)< (s.size:Int)
  ·simp_all
  ·by_cases h3:s=YIk #[110,117,108,108]
   ·subst h3
    rfl
   ·simp only[h1,h2,h3,h0,decide_false,cond_false,lexL,YeO,YC5]
    rw[chkT _ (by omega),chkT _ (by omega),YCj s (by omega),YoL s (by omega),YC5]
def YDN(t:Term):Bool:=bif !decide (t.1=nul0)then YDy t.1&& (decide (t.2.1=0)&& (decide (t.2.2.1=0)&& (decide (t.2.2.2=nul0)&&true)))else vB t.2
theorem YHd(t:Term):q29 loO t.1 t.2.1 t.2.2.1 t.2.2.2=some (YDN t):=by
 unfold q29 YDN
 rw[lexN,Yc0,YC5,YC5]
 grind
theorem YHe(t:Term):q111 loO t.1 t.2.1 t.2.2.1 t.2.2.2=some (YDN t):=by
 unfold q111 YDN
 rw[YeP,YoN,YC5,YC5]
 grind
def badT(l:List Term):Bool:=anyN (fun m=> !YDN (l.getD m zM)) l.length 0
theorem YGX(l:List Term)(h:l.length<=maxEl):q32 loO l=some (badT l):=by
 have:Ygv loO (l,(l.length:Int),0)=some (YC7 (R:=Int⊕Unit) (fun m=>bif !YDN (l.getD m zM)then some (.inl (m:Int))else none) l.length 0 (.inr ())):=by
  refine Yak (fun n=>(l,(l.length:Int),(n:Int))) _ l.length _ rfl ?_ (fun n hn=> ?_)
  ·simp[Yd8]
  ·simp only[Yd8,ltI hn,cond_true,inc hn h,YIf,q30]
   rw[chkT _ (by omega),YHd,YC5,YC5]
   grind
 unfold q32 q31 badT
 rw[this,YC5,<-YeM]
 unfold idxR
 cases YC7 (R:=Int⊕Unit) (fun m=>bif !YDN (l.getD m zM)then some (.inl (m:Int))else none) l.length 0 (.inr ())<;>rfl
theorem YGY(nm:ByteArray)(l:List Term)(h:l.length<=maxEl):q112 loO nm l=some (!badT l):=by
 have:Yg1 loO (0,nm,l)=some (YC7 (R:=Bool⊕Unit) (fun m=>bif !YDN (l.getD m zM)then some (.inl false)else none) l.length 0 (.inr ())):=by
  refine Yak (fun n=>((n:Int),nm,l)) _ l.length _ rfl ?_ (fun n hn=> ?_)
  ·simp[Yeu]
  ·simp only[Yeu,ltI hn,cond_true,inc hn h,YIf]
   rw[chkT _ (by omega),YHe,YC5]
   grind
 unfold q112 badT
 rw[this,YC5,YeN]
 cases anyN (fun m=> !YDN (l.getD m zM)) l.length 0<;>rfl
def addV(out:List ByteArray)(v:ByteArray):List ByteArray:=bif !decide (v=nul0)&&decide (idxI out v<0)then out++[v]else out
def YDR(out:List ByteArray)(l:List Term):List ByteArray:=l.foldl (fun o t=>addV o t.1) out
def YDx(out:List ByteArray)(l:List Atom):List ByteArray:=l.foldl (fun o a=>YDR o a.2) out
theorem YCk(out:List ByteArray)(v:ByteArray):(addV out v).length<=out.length+1:=by
 unfold addV
 grind
theorem Yhp: ∀(l:List Term) (out:List ByteArray),(YDR out l).length<=out.length+l.length
 | [],out=>by simp[YDR]
 |t::l,out=>by
  have h1:=Yhp l (addV out t.1)
  have h2:=YCk out t.1
  simp only[YDR,List.foldl_cons,YHD]at h1⊢
  omega
def sumT(l:List Atom):Nat:=(l.map fun a=>a.2.length).sum
theorem YeR: ∀(l:List Atom) (out:List ByteArray),(YDx out l).length<=out.length+sumT l
 | [],out=>by simp[YDx,sumT]
 |a::l,out=>by
  have h1:=YeR l (YDR out a.2)
  have h2:=Yhp a.2 out
  simp only[YDx,sumT,List.foldl_cons,YHn,List.sum_cons]at h1⊢
  omega
theorem Yhq{α β:Type}(f:β->α->β)(b:β){l:List α}{n:Nat}{d:α}(h:n<l.length):(l.take (n+1)).foldl f b=f ((l.take n).foldl f b) (l.getD n d):=by
 rw[Ybc (d:=d) h,List.foldl_append];rfl
theorem YCl{l:List Nat}: ∀(n:Nat),(l.take n).sum<=l.sum:=by
 induction l with
 |nil=>simp
 |cons a r ih=>
  intro n
  cases n with
  |zero=>simp
  |succ n=>simp_all
theorem YCm(l:List Atom)(n:Nat):sumT (l.take n)<=sumT l:=by
 unfold sumT;rw[List.map_take];exact YCl n
theorem Yc1{l:List Atom}{n:Nat}(h:n<l.length):sumT (l.take n)+(l.getD n zA).2.length<=sumT l:=by
 have:=YCm l (n+1)
 rw[Ybc (d:=zA) h]at this
 unfold sumT at this⊢
 grind
theorem YGZ(l:List Atom)(h:l.length<=maxEl)(h2:sumT l<=maxEl):q113 loO l=some (YDx [] l):=by
 have inner: ∀(i:Nat) (out:List ByteArray),i<l.length->out.length<=sumT (l.take i)->Yg2 loO (l,(i:Int),0,out)=some (l,(i:Int),YDR out (l.getD i zA).2):=by
  intro i out hi ho
  have hb:=Yc1 hi
  refine Yau (st:=fun n=>(l,(i:Int),(n:Int),YDR out ((l.getD i zA).2.take n))) (N:=(l.getD i zA).2.length) rfl ?_ (fun n hn=> ?_)
  ·simp only[Yev,YIf,nlI,cond_false,YHz]
   rw[chkT _ (by omega)]
  ·have ht:=Yhp ((l.getD i zA).2.take n) out
   rw[List.length_take,Nat.min_eq_left (by omega)]at ht
   simp only[Yev,YIf,ltI hn,cond_true,inc hn (show(l.getD i zA).2.length<=maxEl by omega)]
   rw[chkT _ (by omega),chkT _ (by omega),chkT _ ⟨by omega,Int.ofNat_lt.2 hn⟩,Ybo _ _ (by omega),YC5]
   have e:YDR out ((l.getD i zA).2.take (n+1))=addV (YDR out ((l.getD i zA).2.take n)) ((l.getD i zA).2.getD n zM).1:=Yhq (fun o (t:Term)=>addV o t.1) out (d:=zM) hn
   rw[e]
   rw[chkT _ (by grind)]
   unfold addV
   grind
 have outer:Yg3 loO (l,0,[])=some (YDx [] l):=by
  refine Yau (st:=fun n=>(l,(n:Int),YDx [] (l.take n))) (N:=l.length) rfl ?_ (fun n hn=> ?_)
  ·simp only[Yew,nlI,cond_false,YHz]
  ·have hl:=YeR (l.take n) []
   simp at hl
   simp only[Yew,ltI hn,cond_true]
   rw[inner n _ hn hl,YC5]
   simp only[inc hn h]
   have e:YDx [] (l.take (n+1))=YDR (YDx [] (l.take n)) (l.getD n zA).2:=Yhq (fun o (a:Atom)=>YDR o a.2) [] (d:=zA) hn
   rw[e]
 unfold q113
 simp_all
def inL(l:List ByteArray)(v:ByteArray):Bool:=l.any fun w=>decide (v=w)
theorem inL_iff{l:List ByteArray}{v:ByteArray}:inL l v=true↔v∈l:=by
 unfold inL;simp
theorem Yc2(l:List ByteArray)(v:ByteArray):decide (0<=idxI l v)=inL l v:=by
 unfold idxI
 rw[YeM,YId,Yb7,inL_iff]
 constructor
 ·simp_all
 ·intro h
  obtain⟨m,hm,e⟩:=YHM.1 h
  exact⟨m,YH0 _,by omega,by simp_all⟩
theorem YeS(l:List ByteArray)(v:ByteArray):decide (idxI l v<0)= !inL l v:=by
 rw[<-Yc2];grind
theorem YCn(out:List ByteArray)(w v:ByteArray):v∈addV out w↔v∈out\/(v≠nul0/\w=v):=by
 unfold addV
 rw[YeS]
 by_cases h1:w=nul0
 ·grind
 ·by_cases h2:w∈out
  ·grind
  ·have h3:inL out w=false:=by rw[<-Bool.not_eq_true,inL_iff];exact h2
   grind
theorem YoP: ∀(l:List Term) (out:List ByteArray) (v:ByteArray),v∈YDR out l↔v∈out\/(v≠nul0/\ ∃t∈l,t.1=v)
 | [],out,v=>by simp[YDR]
 |t::l,out,v=>by
  have:=YoP l (addV out t.1) v
  simp only[YDR,List.foldl_cons]at this⊢
  rw[this,YCn]
  grind
theorem YoQ: ∀(l:List Atom) (out:List ByteArray) (v:ByteArray),v∈YDx out l↔v∈out\/(v≠nul0/\ ∃a∈l,∃t∈a.2,t.1=v)
 | [],out,v=>by simp[YDx]
 |a::l,out,v=>by
  have:=YoQ l (YDR out a.2) v
  simp only[YDx,List.foldl_cons]at this⊢
  rw[this,YoP]
  simp
  constructor
  ·rintro((h| ⟨h1,h2⟩)| ⟨h1,h2⟩)
   ·simp_all
   ·simp_all
   simp_all
  ·rintro(h| ⟨h1,h2|h2⟩)
   ·simp_all
   ·simp_all
   simp_all
def fHd(hd:List ByteArray)(at':List Atom)(n:Nat):Bool:=inL (YDx [] at') (hd.getD n nul0)&& !inL (hd.take n) (hd.getD n nul0)
def YES(hd:List ByteArray)(at':List Atom):Bool:= !anyN (fun m=> !fHd hd at' m) hd.length 0
theorem YHf(l:List Term)(v:ByteArray)(h:l.length<=maxEl):q35 loO l v=some (anyN (fun m=>decide ((l.getD m zM).1=v)) l.length 0,v):=by
 have:Ygw loO (l,(l.length:Int),0,v)=some (YC7 (R:=(Int×ByteArray)⊕ByteArray) (fun m=>bif decide ((l.getD m zM).1=v)then some (.inl ((m:Int),v))else none) l.length 0 (.inr v)):=by
  refine Yak (fun n=>(l,(l.length:Int),(n:Int),v)) _ l.length _ rfl ?_ (fun n hn=> ?_)
  ·simp[Yd9]
  ·simp only[Yd9,ltI hn,cond_true,inc hn h,YIf,q33,YC5]
   rw[chkT _ (by omega)]
   grind
 unfold q35 q34
 rw[this,YC5]
 have k1:=Yho (R:=(Int×ByteArray)⊕ByteArray) (p:=fun m=>decide ((l.getD m zM).1=v)) (fun m=>.inl ((m:Int),v)) (.inr v) (fun r=>match r with| .inl i=>decide (0<=i.1)| .inr _=>false) rfl (fun m=>by simp) l.length 0
 have k2: ∀k n,(match YC7 (R:=(Int×ByteArray)⊕ByteArray) (fun m=>bif decide ((l.getD m zM).1=v)then some (.inl ((m:Int),v))else none) k n (.inr v)with| .inl i=>i.2| .inr b=>b)=v:=by
  intro k
  induction k with
  |zero=>intro n;rfl
  |succ k ih=>intro n;simp only[YC7];grind
 have k2:=k2 l.length 0
 rw[<-k1]
 revert k2
 cases YC7 (R:=(Int×ByteArray)⊕ByteArray) (fun m=>bif decide ((l.getD m zM).1=v)then some (.inl ((m:Int),v))else none) l.length 0 (.inr v)with
 |inl i=>intro k2;subst k2;rfl
 |inr b=>intro k2;subst k2;rfl
theorem YHg(l:List Atom)(v:ByteArray)(h:l.length<=maxEl)(h2:sumT l<=maxEl):q38 loO l v=some (anyN (fun m=>anyN (fun k=>decide (((l.getD m zA).2.getD k zM).1=v)) (l.getD m zA).2.length 0) l.length 0,v):=by
 have:Ygx loO (l,(l.length:Int),0,v)=some (YC7 (R:=(Int×ByteArray)⊕ByteArray) (fun m=>bif anyN (fun k=>decide (((l.getD m zA).2.getD k zM).1=v)) (l.getD m zA).2.length 0 then some (.inl ((m:Int),v))else none) l.length 0 (.inr v)):=by
  refine Yak (fun n=>(l,(l.length:Int),(n:Int),v)) _ l.length _ rfl ?_ (fun n hn=> ?_)
  ·simp[Yea]
  ·have:=Yc1 hn
   have hg:(l.getD n zA).2.length<=maxEl:=by omega
   simp only[Yea,ltI hn,cond_true,inc hn h,YIf,q36]
   rw[chkT _ (by omega),YHf _ _ hg,YC5,YC5]
   grind
 unfold q38 q37
 rw[this,YC5]
 have k1:=Yho (R:=(Int×ByteArray)⊕ByteArray) (p:=fun m=>anyN (fun k=>decide (((l.getD m zA).2.getD k zM).1=v)) (l.getD m zA).2.length 0) (fun m=>.inl ((m:Int),v)) (.inr v) (fun r=>match r with| .inl i=>decide (0<=i.1)| .inr _=>false) rfl (fun m=>by simp) l.length 0
 have k2: ∀k n,(match YC7 (R:=(Int×ByteArray)⊕ByteArray) (fun m=>bif anyN (fun k=>decide (((l.getD m zA).2.getD k zM).1=v)) (l.getD m zA).2.length 0 then some (.inl ((m:Int),v))else none) k n (.inr v)with| .inl i=>i.2| .inr b=>b)=v:=by
  intro k
  induction k with
  |zero=>intro n;rfl
  |succ k ih=>intro n;simp only[YC7];grind
 have k2:=k2 l.length 0
 rw[<-k1]
 revert k2
 cases YC7 (R:=(Int×ByteArray)⊕ByteArray) (fun m=>bif anyN (fun k=>decide (((l.getD m zA).2.getD k zM).1=v)) (l.getD m zA).2.length 0 then some (.inl ((m:Int),v))else none) l.length 0 (.inr v)with
 |inl i=>intro k2;subst k2;rfl
 |inr b=>intro k2;subst k2;rfl
theorem YeT{α:Type}(p:α->Bool)(l:List α)(d:α):anyN (fun m=>p (l.getD m d)) l.length 0=l.any p:=by
 rw[YId,Yb7,List.any_eq_true]
 constructor
 ·grind
 ·rintro⟨x,hx,h3⟩
  obtain⟨m,hm,e⟩:=YHM.1 hx
  refine⟨m,YH0 _,by omega,?_⟩
  simp_all
theorem occ(l:List Atom)(v:ByteArray):(!decide (v=nul0)&&anyN (fun m=>anyN (fun k=>decide (((l.getD m zA).2.getD k zM).1=v)) (l.getD m zA).2.length 0) l.length 0)=inL (YDx [] l) v:=by
 have e1:anyN (fun m=>anyN (fun k=>decide (((l.getD m zA).2.getD k zM).1=v)) (l.getD m zA).2.length 0) l.length 0=l.any (fun a=>a.2.any fun t=>decide (t.1=v)):=by
  rw[<-YeT (fun a=>a.2.any fun t=>decide (t.1=v)) l zA]
  congr 1;funext m
  exact YeT (fun t=>decide (t.1=v)) (l.getD m zA).2 zM
 rw[e1,YId,inL_iff,YoQ]
 simp
theorem YHh(hd:List ByteArray)(l:List Atom)(hh:hd.length<=maxEl)(h:l.length<=maxEl)(h2:sumT l<=maxEl):q39 loO hd l=some (YES hd l):=by
 have:Ygy loO (hd,(hd.length:Int),0,hd,l)=some (YC7 (R:=Bool⊕Unit) (fun m=>bif !fHd hd l m then some (.inl false)else none) hd.length 0 (.inr ())):=by
  refine Yak (fun n=>(hd,(hd.length:Int),(n:Int),hd,l)) _ hd.length _ rfl ?_ (fun n hn=> ?_)
  ·simp[Yeb]
  ·simp only[Yeb,ltI hn,cond_true,inc hn hh,YIf,YHG]
   rw[chkT _ (by omega),chkT _ (by omega),YoM _ _ (by grind),YC5,YHg _ _ h h2,YC5]
   unfold fHd
   rw[<-occ,Yc2]
   grind
 unfold q39 YES
 rw[this,YC5,YeN]
 cases anyN (fun m=> !fHd hd l m) hd.length 0<;>rfl
theorem YHi(hd:List ByteArray)(l:List Atom)(hh:hd.length<=maxEl)(h:l.length<=maxEl)(h2:sumT l<=maxEl):q114 loO hd l=some (YES hd l):=by
 have hv:=YeR l []
 simp at hv
 have:Yg4 loO (YDx [] l,0,hd,l)=some (YC7 (R:=Bool⊕Unit) (fun m=>bif !fHd hd l m then some (.inl false)else none) hd.length 0 (.inr ())):=by
  refine Yak (fun n=>(YDx [] l,(n:Int),hd,l)) _ hd.length _ rfl ?_ (fun n hn=> ?_)
  ·simp[Yex]
  ·simp only[Yex,ltI hn,cond_true,inc hn hh,YIf,YHG]
   rw[chkT _ (by omega),chkT _ (by omega),chkT _ (by omega),Ybo _ _ (by omega),YC5,Ybo _ _ (by grind),YC5]
   unfold fHd
   rw[YeS,Yc2]
   grind
 unfold q114 YES
 rw[YGZ l h h2,YC5,this,YC5,YeN]
 cases anyN (fun m=> !fHd hd l m) hd.length 0<;>rfl
def fQ(db:List Tabl)(l:List Atom)(n:Nat):Option (Int⊕Unit):=
 bif !decide (0<=tabI db (l.getD n zA).1)then some (.inl 4)else bif !decide (((tabO db (l.getD n zA).1).2.1.length:Int)=((l.getD n zA).2.length:Int))then some (.inl 6)else bif badT (l.getD n zA).2 then some (.inl 1)else none
def qI(db:List Tabl)(hd:List ByteArray)(l:List Atom):Int:=
 bif !decide (dbI db=0)then dbI db else bif decide ((l.length:Int)<1)then 1 else bif decide ((6:Int)< (l.length:Int))then 1 else
  match YC7 (fQ db l) l.length 0 (.inr ())with| .inl i=>i| .inr _=>bif !YES hd l then 1 else 0
theorem Yhr{R R' T:Type}(f:Nat->Option (R⊕T))(g:Nat->Option (R⊕R'))(t:T)(r0:R')(hf: ∀n,g n=match f n with|some (.inl i)=>some (.inl i)|some (.inr _)=>none|none=>none)(hn: ∀n u,f n≠some (.inr u)): ∀k n,YC7 g k n (.inr r0)=match YC7 f k n (.inr t)with| .inl i=>.inl i| .inr _=>.inr r0
 |0,n=>rfl
 |k+1,n=>by
  simp only[YC7]
  rw[hf]
  cases h:f n with
  |none=>exact Yhr f g t r0 hf hn k (n+1)
  |some x=>grind
theorem YoR(db:List Tabl)(l:List Atom)(n:Nat)(u:Unit):fQ db l n≠some (.inr u):=by
 unfold fQ
 grind
def up{R':Type}(x:Option (Int⊕Unit)):Option (Int⊕R'):=match x with|some (.inl i)=>some (.inl i)|some (.inr _)=>none|none=>none
theorem tQ(db:List Tabl)(hd:List ByteArray)(l:List Atom)(hh:hd.length<=maxEl)(h2:sumT l<=maxEl):q40 loO db hd l=some (qI db hd l):=by
 have hm:maxEl=1073741824:=rfl
 unfold q40 qI
 rw[YCi,YC5]
 by_cases h:dbI db=0
 ·have hl:=(YeQ h).1
  simp only[h,decide_true,YIb,cond_false]
  by_cases h1:(l.length:Int)<1
  ·grind
  ·by_cases h6:(6:Int)< (l.length:Int)
   ·simp_all
   ·simp only[h1,h6,decide_false,cond_false]
    have:Ygz loO (l,(l.length:Int),0,db,hd,l)=some (YC7 (R:=Int⊕ (List ByteArray×List Atom)) (fun n=>up (fQ db l n)) l.length 0 (.inr (hd,l))):=by
     refine Yak (fun n=>(l,(l.length:Int),(n:Int),db,hd,l)) _ l.length _ rfl ?_ (fun n hn=> ?_)
     ·simp[Yec]
     ·have:=Yc1 hn
      have hg:(l.getD n zA).2.length<=maxEl:=by omega
      simp only[Yec,ltI hn,cond_true,inc hn (show l.length<=maxEl by omega),YIf]
      rw[chkT _ (by omega),YGW _ _ (by omega),YC5]
      rw[YGX _ hg,YC5]
      unfold fQ
      cases decide (0<=tabI db (l.getD n zA).1)<;>cases decide (((tabO db (l.getD n zA).1).2.1.length:Int)=((l.getD n zA).2.length:Int))<;>cases badT (l.getD n zA).2<;>rfl
    rw[this,YC5,Yhr (fQ db l) (fun n=>up (fQ db l n)) () (hd,l) (fun n=>by rcases fQ db l n with _| (_|_)<;>rfl) (YoR db l)]
    cases YC7 (fQ db l) l.length 0 (.inr ())with
    |inl i=>rfl
    |inr u=>
     simp only[alt2]
     rw[YHh hd l hh (by omega) h2,YC5]
     grind
 ·have h4:=YCf db
  simp_all
theorem rQ(db:List Tabl)(hd:List ByteArray)(l:List Atom)(hh:hd.length<=maxEl)(h2:sumT l<=maxEl):q115 loO db hd l=some (qI db hd l):=by
 have hm:maxEl=1073741824:=rfl
 unfold q115 qI
 rw[rDb,YC5]
 by_cases h:dbI db=0
 ·have hl:=(YeQ h).1
  simp only[h,decide_true,YIb,cond_false]
  by_cases h1:(l.length:Int)<1
  ·grind
  ·by_cases h6:(6:Int)< (l.length:Int)
   ·simp_all
   ·simp only[h1,h6,decide_false,cond_false]
    have:Yg5 loO (0,db,hd,l)=some (YC7 (R:=Int⊕ (List ByteArray×List Atom)) (fun n=>up (fQ db l n)) l.length 0 (.inr (hd,l))):=by
     refine Yak (fun n=>((n:Int),db,hd,l)) _ l.length _ rfl ?_ (fun n hn=> ?_)
     ·simp[Yey]
     ·have:=Yc1 hn
      have hg:(l.getD n zA).2.length<=maxEl:=by omega
      simp only[Yey,ltI hn,cond_true,inc hn (show l.length<=maxEl by omega),YIf]
      rw[chkT _ (by omega),rTab _ _ (by omega),YC5]
      have hcm: ∀x y:Nat,decide ((x:Int)=(y:Int))=decide ((y:Int)=(x:Int)):=fun x y=>by grind
      unfold fQ tabO
      rcases YbK (p:=tabP db (l.getD n zA).1) (k:=db.length) (n:=0)with⟨m,_,m2,m3,m4⟩| ⟨m1,_⟩
      ·have e:tabI db (l.getD n zA).1=(m:Int):=m4
       rw[e]
       have e0:decide ((m:Int)<0)=false:=by simp
       have e1:decide ((0:Int)<=(m:Int))=true:=by simp
       simp only[e0,e1,cond_false,cond_true,YIf,YIb]
       rw[chkT _ (by omega),chkT _ (by omega),YGY _ _ hg,YC5,chkT _ (by omega),hcm]
       cases decide ((((db.getD m zT).2.1.length:Nat):Int)=((l.getD n zA).2.length:Int))<;>cases badT (l.getD n zA).2<;>rfl
      ·have e:tabI db (l.getD n zA).1= -1:=m1
       rw[e];rfl
    rw[this,YC5,Yhr (fQ db l) (fun n=>up (fQ db l n)) () (hd,l) (fun n=>by rcases fQ db l n with _| (_|_)<;>rfl) (YoR db l)]
    cases YC7 (fQ db l) l.length 0 (.inr ())with
    |inl i=>rfl
    |inr u=>
     simp only[alt2]
     rw[YHi hd l hh (by omega) h2,YC5]
     grind
 simp_all
theorem YCo{l:List Atom}{k:Nat}(h: ∀n,n<l.length->(l.getD n zA).2.length<=k):sumT l<=l.length*k:=by
 unfold sumT
 have: ∀a∈l,a.2.length<=k:=fun a ha=>by
  obtain⟨m,hm,e⟩:=YHM.1 ha
  grind
 clear h
 induction l with
 |nil=>simp
 |cons a r ih=>
  have h1:=this a (YHs ..)
  have h2:=ih (fun b hb=>this b (YHv _ hb))
  simp only[YHn,List.sum_cons,YHD,YHZ];omega
end
end Go.Abs.G47
namespace Go.Abs.G47
open Go Go.Abs
noncomputable section
abbrev Asg(ν:Type):=ByteArray->Option ν
abbrev Ent(ν:Type):=List (Int×ByteArray×ν)
section
variable{ν:Type}[DecidableEq ν]
omit [DecidableEq ν] in
theorem Yhs(k k':ByteArray)(c:Int)(v:ν): ∀l:Ent ν,mfd eqS k' (mpt eqS c k v l)=bif eqS k' k then some v else mfd eqS k' l
 | []=>rfl
 |e::r=>by
  simp only[mpt]
  by_cases h:k=e.2.1
  ·have:eqS k e.2.1=true:=by simp[eqS,h]
   rw[this,cond_true]
   simp only[mfd,<-h]
   cases eqS k' k<;>rfl
  ·have:eqS k e.2.1=false:=by simp[eqS,h]
   rw[this,cond_false]
   simp only[mfd,Yhs k k' c v r]
   by_cases h1:k'=e.2.1
   ·have a1:eqS k' e.2.1=true:=by simp[eqS,h1]
    have a2:eqS k' k=false:=by simp only[eqS,decide_eq_false_iff_not];intro e';exact h (e'.symm.trans h1)
    rw[a1,a2];rfl
   ·have a1:eqS k' e.2.1=false:=by simp[eqS,h1]
    rw[a1];rfl
omit [DecidableEq ν] in
theorem Yht{c:Int}{k:ByteArray}{v:ν}: ∀l:Ent ν,(mpt eqS c k v l).map (·.2.1)=(match mfd eqS k l with|some _=>l.map (·.2.1)|none=>l.map (·.2.1)++[k])
 | []=>rfl
 |e::r=>by
  simp only[mpt,mfd]
  cases h:eqS k e.2.1 with
  |true=>
   have:k=e.2.1:=by unfold eqS at h;simpa using h
   simp[this]
  |false=>
   simp only[cond_false,YHn,Yht r]
   cases mfd eqS k r<;>rfl
def lk(l:Ent ν):Asg ν:=fun k=>mfd eqS k l
def upd(σ:Asg ν)(x:ByteArray)(u:ν):Asg ν:=fun k=>if k=x then some u else σ k
def del(σ:Asg ν)(x:ByteArray):Asg ν:=fun k=>if k=x then none else σ k
def KN(l:Ent ν):Prop:=(l.map (·.2.1)).Nodup
omit [DecidableEq ν] in
theorem YoS(c:Int)(k:ByteArray)(v:ν)(l:Ent ν):lk (mpt eqS c k v l)=upd (lk l) k v:=by
 funext k'
 unfold lk upd
 rw[Yhs]
 by_cases h:k'=k<;>simp[eqS,h]
omit [DecidableEq ν] in
theorem mfd_none{k:ByteArray}: ∀{l:Ent ν},mfd eqS k l=none↔k∉l.map (·.2.1)
 | []=>by simp[mfd]
 |e::r=>by
  simp only[mfd,YHn,YHt,not_or]
  by_cases h:k=e.2.1
  ·simp[eqS,h]
  ·have:eqS k e.2.1=false:=by simp[eqS,h]
   rw[this,cond_false,mfd_none (l:=r)]
   simp[h]
omit [DecidableEq ν] in
theorem YCp{c:Int}{k:ByteArray}{v:ν}{l:Ent ν}(h:KN l):KN (mpt eqS c k v l):=by
 unfold KN
 rw[Yht]
 cases hm:mfd eqS k l with
 |some _=>exact h
 |none=>
  rw[List.nodup_append]
  exact⟨h,by simp,fun x hx y hy=>by rw[YHF]at hy;subst hy;intro e;subst e;exact mfd_none.1 hm hx⟩
omit [DecidableEq ν] in
theorem YoT{k x:ByteArray}: ∀{l:Ent ν},x∈ (mdl eqS k l).map (·.2.1)->x∈l.map (·.2.1)
 | [],h=>h
 |e::r,h=>by
  simp only[mdl]at h
  cases hk:eqS k e.2.1 with
  |true=>rw[hk,cond_true]at h;exact YHv _ h
  |false=>
   rw[hk,cond_false,YHn,YHt]at h
   rw[YHn,YHt]
   exact h.imp_right YoT
omit [DecidableEq ν] in
theorem YoU{k:ByteArray}: ∀{l:Ent ν},KN l->KN (mdl eqS k l)/\lk (mdl eqS k l)=del (lk l) k
 | [],h=>⟨h,by funext x;unfold lk del;simp[mdl,mfd]⟩
 |e::r,h=>by
  have h':e.2.1∉r.map (·.2.1)/\KN r:=by unfold KN at h⊢;rw[YHn,List.nodup_cons]at h;exact h
  obtain⟨i1,i2⟩:=YoU (k:=k) h'.2
  simp only[mdl]
  by_cases hk:k=e.2.1
  ·have:eqS k e.2.1=true:=by simp[eqS,hk]
   rw[this,cond_true]
   refine⟨h'.2,?_⟩
   funext x
   unfold lk del
   by_cases hx:x=k
   ·rw[if_pos hx,hx,hk];exact mfd_none.2 h'.1
   ·rw[if_neg hx]
    have:eqS x e.2.1=false:=by simp[eqS,<-hk,hx]
    simp only[mfd,this,cond_false]
  ·have:eqS k e.2.1=false:=by simp[eqS,hk]
   rw[this,cond_false]
   refine⟨?_,?_⟩
   ·show(List.map (·.2.1) (e::mdl eqS k r)).Nodup
    rw[YHn,List.nodup_cons]
    exact⟨fun hm=>h'.1 (YoT hm),i1⟩
   ·funext x
    have i2:=congrFun i2 x
    unfold lk del at i2⊢
    simp only[mfd,i2]
    by_cases hx:x=k
    ·have:eqS x e.2.1=false:=by simp[eqS,hx,hk]
     rw[this];simp[hx]
    ·simp[hx]
def delG(l:Ent ν)(fresh:List ByteArray):Ent ν:=fresh.foldl (fun l k=>mdl eqS k l) l
omit [DecidableEq ν] in
theorem YoV: ∀(fresh:List ByteArray) {l:Ent ν},KN l->KN (delG l fresh)/\ ∀k,lk (delG l fresh) k=bif inL fresh k then none else lk l k
 | [],l,h=>⟨h,fun k=>rfl⟩
 |x::r,l,h=>by
  obtain⟨h1,h2⟩:=YoU (k:=x) h
  obtain⟨i1,i2⟩:=YoV r h1
  refine⟨i1,fun k=> ?_⟩
  show lk (delG (mdl eqS x l) r) k=_
  rw[i2,h2]
  unfold del
  show _=bif decide (k=x)||inL r k then none else _
  by_cases hx:k=x<;>cases inL r k<;>simp[hx]
def tmM(σ:Asg ν)(x:ByteArray)(c u:ν):Option (Asg ν):=if x=nul0 then(if c=u then some σ else none)else
 match σ x with
 |some w=>if w=u then some σ else none
 |none=>some (upd σ x u)
def tsM:Asg ν->List (ByteArray×ν)->List ν->Option (Asg ν)
 |σ,[],_=>some σ
 |σ,_::_,[]=>none
 |σ,p::ps,u::us=>(tmM σ p.1 p.2 u).bind fun σ'=>tsM σ' ps us
def fitG:List (ByteArray×ν)->List ν->Int->Ent ν->List ByteArray->Bool×Int×Ent ν×List ByteArray
 | [],_,clk,l,fr=>(true,clk,l,fr)
 |_::_,[],clk,l,fr=>(false,clk,l,fr)
 |p::ps,u::us,clk,l,fr=>if p.1=nul0 then(if p.2=u then fitG ps us clk l fr else(false,clk,l,fr))else
  match mfd eqS p.1 l with
  |some w=>if w=u then fitG ps us clk l fr else(false,clk,l,fr)
  |none=>fitG ps us (mck eqS clk p.1 l) (mpt eqS clk p.1 u l) (fr++[p.1])
structure FitOk(σ0:Asg ν)(σ':Option (Asg ν))(r:Bool×Int×Ent ν×List ByteArray)(n:Nat):Prop where
 kn:KN r.2.2.1
 len:r.2.2.2.length<=n
 new: ∀k∈r.2.2.2,σ0 k=none
 old: ∀k,k∉r.2.2.2->lk r.2.2.1 k=σ0 k
 ok:r.1=σ'.isSome
 val: ∀σ1,σ'=some σ1->lk r.2.2.1=σ1
theorem YeU{σ0:Asg ν}: ∀(ps:List (ByteArray×ν)) (us:List ν) (clk:Int) (l:Ent ν) (fr:List ByteArray),KN l->(∀k∈fr,σ0 k=none)->(∀k,k∉fr->lk l k=σ0 k)->
  FitOk σ0 (tsM (lk l) ps us) (fitG ps us clk l fr) (fr.length+ps.length)
 | [],us,clk,l,fr,hk,hf,hl=>⟨hk,by simp[fitG],hf,hl,rfl,fun σ1 h=>by injection h⟩
 |p::ps,[],clk,l,fr,hk,hf,hl=>⟨hk,by simp[fitG],hf,hl,rfl,fun σ1 h=>by cases h⟩
 |p::ps,u::us,clk,l,fr,hk,hf,hl=>by
  have up: ∀{σ' r},FitOk σ0 σ' r (fr.length+ps.length)->FitOk σ0 σ' r (fr.length+(p::ps).length):=fun h=>⟨h.kn,by have:=h.len;grind,h.new,h.old,h.ok,h.val⟩
  have stop:FitOk σ0 none (false,clk,l,fr) (fr.length+(p::ps).length):=⟨hk,by simp,hf,hl,rfl,fun σ1 h=>by cases h⟩
  simp only[fitG,tsM,tmM]
  by_cases h0:p.1=nul0
  ·rw[if_pos h0,if_pos h0]
   by_cases hc:p.2=u
   ·rw[if_pos hc,if_pos hc];exact up (YeU ps us clk l fr hk hf hl)
   simp_all
  ·rw[if_neg h0,if_neg h0]
   have e:lk l p.1=mfd eqS p.1 l:=rfl
   rw[e]
   cases hm:mfd eqS p.1 l with
   |some w=>
    simp only
    by_cases hc:w=u
    ·rw[if_pos hc,if_pos hc];exact up (YeU ps us clk l fr hk hf hl)
    simp_all
   |none=>
    have:=YeU (σ0:=σ0) ps us (mck eqS clk p.1 l) (mpt eqS clk p.1 u l) (fr++[p.1]) (YCp hk) (fun k hk'=>by
     grind) (fun k hk'=>by
     rw[YoS];unfold upd;simp_all)
    rw[YoS]at this
    grind
theorem fit0{ps:List (ByteArray×ν)}{us:List ν}(clk:Int){l:Ent ν}(hk:KN l):FitOk (lk l) (tsM (lk l) ps us) (fitG ps us clk l []) ps.length:=by
 have:=YeU (σ0:=lk l) ps us clk l [] hk (fun k h=>by cases h) (fun k _=>rfl)
 simp_all
omit [DecidableEq ν] in
theorem YoW{σ0:Asg ν}{fr:List ByteArray}{l:Ent ν}(hk:KN l)(hn: ∀k∈fr,σ0 k=none)(ho: ∀k,k∉fr->lk l k=σ0 k):KN (delG l fr)/\lk (delG l fr)=σ0:=by
 obtain⟨h1,h2⟩:=YoV fr hk
 refine⟨h1,?_⟩
 funext k
 rw[h2]
 cases h:inL fr k with
 |true=>exact(hn k (inL_iff.1 h)).symm
 |false=>exact ho k fun hm=>by rw[inL_iff.2 hm]at h;cases h
def leA(σ τ:Asg ν):Prop:= ∀k v,σ k=some v->τ k=some v
omit [DecidableEq ν] in
theorem leA.refl(σ:Asg ν):leA σ σ:=fun _ _ h=>h
omit [DecidableEq ν] in
theorem leA.trans{σ τ ρ:Asg ν}(h:leA σ τ)(h':leA τ ρ):leA σ ρ:=fun k v e=>h' k v (h k v e)
def Img(σ:Asg ν):List (ByteArray×ν)->List ν->Prop
 | [],_=>True
 |_::_,[]=>False
 |p::ps,u::us=>(if p.1=nul0 then p.2=u else σ p.1=some u)/\Img σ ps us
omit [DecidableEq ν] in
theorem Img.mono{σ τ:Asg ν}(h:leA σ τ): ∀{ps us},Img σ ps us->Img τ ps us
 | [],_,_=>trivial
 |_::_,[],h'=>h'.elim
 |p::ps,u::us,h'=>by
  refine⟨?_,h'.2.mono h⟩
  have:=h'.1
  by_cases h0:p.1=nul0
  ·rw[if_pos h0]at this⊢;exact this
  ·rw[if_neg h0]at this⊢;exact h _ _ this
end
end
end Go.Abs.G47
namespace Go.Abs.G47
open Go Go.Abs
noncomputable section
theorem YF6{A B:Type}{a:Option A}{f g:A->Option B}{y:B}(h:YH2 a f=some y)(k: ∀z,f z=some y->g z=some y):YH2 a g=some y:=by
 cases a with
 |none=>cases h
 |some z=>exact k z h
theorem YF7{A B:Type}{a a':Option A}{f g:A->Option B}{y:B}(h:YH2 a f=some y)(ha: ∀z,a=some z->a'=some z)(k: ∀z,f z=some y->g z=some y):YH2 a' g=some y:=by
 cases a with
 |none=>cases h
 |some z=>rw[ha z rfl];exact k z h
theorem chkm{B:Type}{p:Prop}[Decidable p]{a a':Option B}{y:B}(h:chk p a=some y)(k:a=some y->a'=some y):chk p a'=some y:=by
 by_cases hp:p
 ·rw[chkT _ hp]at*;exact k h
 ·simp[chk,hp]at h
theorem YE6{B:Type}{c:Bool}{a a' x x':Option B}{y:B}(h:(bif c then a else x)=some y)(k:a=some y->a'=some y)(k':x=some y->x'=some y):(bif c then a' else x')=some y:=by
 cases c with
 |true=>exact k h
 |false=>exact k' h
theorem YoX{S R:Type}{s s':S->Option (S⊕R)}(h: ∀x y,s x=some y->s' x=some y){x:S}{y:R}(hy:YDk s x=some y):YDk s' x=some y:=by
 obtain⟨n,hn⟩:=YcJ hy
 refine Yb0 (n:=n) ?_
 clear hy
 induction n generalizing x with
 |zero=>cases hn
 |succ n ih=>
  simp only[YDM]at hn⊢
  cases hs:s x with
  |none=>rw[hs]at hn;cases hn
  |some z=>
   rw[hs]at hn
   rw[h x z hs]
   cases z with
   |inl a=>exact ih hn
   |inr b=>exact hn
theorem Yb8{α:Type}{l:List α}{n:Nat}{d:α}(h:n<l.length):l.drop n=l.getD n d::l.drop (n+1):=by
 rw[List.drop_eq_getElem_cons h,YHP,YHm h];rfl
abbrev pT(l:List Term):List (ByteArray×Term):=l.map fun t=>(t.1,t)
end
end Go.Abs.G47
namespace Go.Abs.G47
open Go Go.Abs
noncomputable section
abbrev Val:=Int×Int×ByteArray
abbrev Way:=List Int×Asg Val
def pV(l:List Term):List (ByteArray×Val):=l.map fun t=>(t.1,t.2)
theorem eqV(a b:Val):(decide (a.1=b.1)&& (decide (a.2.1=b.2.1)&& (decide (a.2.2=b.2.2)&&true)))=decide (a=b):=by
 grind
def wyM:List (List Term×Rws)->Asg Val->List Int->List Way
 | [],σ,r=>[(r,σ)]
 |q::rest,σ,r=>q.2.flatMap fun row=>match tsM σ (pV q.1) row.2 with
  |some σ'=>wyM rest σ' (r++[row.1])
  |none=>[]
def visit{E:Type}(see:Way->E->Bool×E):List Way->E->Bool×E
 | [],e=>(true,e)
 |w::ws,e=>match see w e with
  | (true,e')=>visit see ws e'
  | (false,e')=>(false,e')
theorem YoY{E:Type}(see:Way->E->Bool×E)(b:List Way): ∀(a:List Way) (e:E),visit see (a++b) e=match visit see a e with| (true,e')=>visit see b e'| (false,e')=>(false,e')
 | [],e=>rfl
 |w::a,e=>by
  simp only[YHJ,visit]
  rcases h:see w e with⟨_|_,e'⟩
  ·rfl
  ·exact YoY see b a e'
theorem YoZ{E:Type}{see:Way->E->Bool×E}{I:E->Prop}(hs: ∀w e,I e->(see w e).1=true->I (see w e).2): ∀{ws:List Way} {e:E},I e->(visit see ws e).1=true->I (visit see ws e).2
 | [],e,h,_=>h
 |w::ws,e,h,hv=>by
  have h1:=hs w e h
  simp only[visit]at hv⊢
  rcases hx:see w e with⟨_|_,e'⟩
  ·simp_all
  ·rw[hx]at hv h1;exact YoZ hs (h1 rfl) hv
def PR(l:List Atom)(tb:List Tabl):List (List Term×Rws):=List.zipWith (fun a t=>(a.2,t.2.2)) l tb
theorem YCq{l:List Atom}{tb:List Tabl}(h:l.length=tb.length){n:Nat}(hn:n<l.length):(PR l tb).drop n=((l.getD n zA).2,(tb.getD n zT).2.2)::(PR l tb).drop (n+1):=by
 unfold PR
 have h2:n< (List.zipWith (fun(a:Atom) (t:Tabl)=>(a.2,t.2.2)) l tb).length:=by simp_all
 rw[List.drop_eq_getElem_cons h2]
 simp_all
theorem YCr{l:List Atom}{tb:List Tabl}(h:l.length=tb.length):(PR l tb).drop l.length=[]:=by
 apply List.drop_of_length_le
 unfold PR;simp_all
structure TbOk(l:List Atom)(tb:List Tabl):Prop where
 len:l.length=tb.length
 sm:l.length<=6
 tl: ∀n,n<l.length->(l.getD n zA).2.length<=maxEl
 rl: ∀n,n<l.length->(tb.getD n zT).2.2.length<=maxEl
 ar: ∀n,n<l.length-> ∀row∈ (tb.getD n zT).2.2,row.2.length=(l.getD n zA).2.length
end
end Go.Abs.G47
namespace Go.Abs.G47
open Go Go.Abs
noncomputable section
abbrev E:=Int×Ent Vals×Bool
abbrev RRec:=Int×List ByteArray×List Atom×List Tabl×Int×Ent Val×Bool×Bool×List Int×Int×Ent Vals×Bool->Option (Bool×List ByteArray×List Atom×List Tabl×Int×Ent Val×Bool×Bool×Int×Ent Vals×Bool×List Int)
theorem YCs(ts:List Term)(us:Vals)(r0:Int)(hd:List ByteArray)(l0:List Atom)(tb:List Tabl)(m2 m3:Bool)(rs:List Int)(e:E)(h:us.length=ts.length)(hm:ts.length<=maxEl): ∀(k n:Nat),n+k=ts.length-> ∀(clk:Int) (l:Ent Val) (fr:List ByteArray),fr.length+k<=maxEl->
  YgG loO (ts,(ts.length:Int),(n:Int),hd,l0,tb,clk,l,m2,m3,rs,e.1,e.2.1,e.2.2,r0,us,fr)=some (let r:=fitG ((pV ts).drop n) (us.drop n) clk l fr
   bif r.1 then .inr (hd,l0,tb,r.2.1,r.2.2.1,m2,m3,rs,e.1,e.2.1,e.2.2,r.2.2.2)else .inl (false,hd,l0,tb,r.2.1,r.2.2.1,m2,m3,rs,e.1,e.2.1,e.2.2,r.2.2.2)):=by
 have hM:maxEl=1073741824:=rfl
 intro k
 induction k with
 |zero=>
  intro n hn clk l fr hf
  show YDk _ _=_
  rw[Yaw]
  have e:n=ts.length:=by omega
  subst e
  simp only[YcL,nlI,cond_false]
  rw[List.drop_of_length_le (by unfold pV;simp)]
  rfl
 |succ k ih=>
  intro n hn clk l fr hf
  have hlt:n<ts.length:=by omega
  show YDk _ _=_
  have e1:(pV ts).drop n=((ts.getD n zM).1,(ts.getD n zM).2)::(pV ts).drop (n+1):=by
   unfold pV
   rw[Yb8 (d:=(zM.1,zM.2)) (by simp_all)]
   simp
  rw[e1,Yb8 (l:=us) (d:=zV) (by omega)]
  have key: ∀(t:Term) (u:Val),ts.getD n zM=t->us.getD n zV=u->YDk (YcL loO) (ts,(ts.length:Int),(n:Int),hd,l0,tb,clk,l,m2,m3,rs,e.1,e.2.1,e.2.2,r0,us,fr)=some (let r:=fitG ((t.1,t.2)::(pV ts).drop (n+1)) (u::us.drop (n+1)) clk l fr
   bif r.1 then .inr (hd,l0,tb,r.2.1,r.2.2.1,m2,m3,rs,e.1,e.2.1,e.2.2,r.2.2.2)else .inl (false,hd,l0,tb,r.2.1,r.2.2.1,m2,m3,rs,e.1,e.2.1,e.2.2,r.2.2.2)):=by
   intro t u ht hu'
   rw[Yaw]
   simp only[YcL,ltI hlt,cond_true,YIf,Yeh,fitG,ht,hu']
   rw[chkT _ (by omega)]
   by_cases h0:t.1=nul0
   ·rw[if_pos h0]
    simp only[h0,decide_true,YIb,cond_false]
    rw[chkT _ (by omega),eqV t.2 u]
    by_cases hu:t.2=u
    ·rw[if_pos hu]
     simp only[hu,decide_true,YIb,cond_false,YC5,alt2,inc hlt hm]
     exact ih (n+1) (by omega) clk l fr (by omega)
    ·rw[if_neg hu]
     simp only[hu,decide_false,YIc,cond_true,YC5,alt2]
     rfl
   ·rw[if_neg h0]
    have e0:decide (t.1=nul0)=false:=decide_eq_false h0
    simp only[e0,YIc,cond_true]
    unfold mhs mgt
    cases hf:mfd eqS t.1 l with
    |none=>
     simp
     rw[chkT _ (by omega),chkT _ (by grind),YC5]
     simp only[alt2,inc hlt hm]
     exact ih (n+1) (by omega) _ _ _ (by grind)
    |some w=>
     simp only[YIb,cond_false]
     rw[chkT _ (by omega),eqV w u]
     by_cases hu:w=u
     ·rw[if_pos hu]
      simp only[hu,decide_true,YIb,cond_false,YC5,alt2,inc hlt hm]
      exact ih (n+1) (by omega) clk l fr (by omega)
     ·rw[if_neg hu]
      simp only[hu,decide_false,YIc,cond_true,YC5,alt2]
      rfl
  simp_all
theorem fit(a0:ByteArray)(ts:List Term)(us:Vals)(r0:Int)(hd:List ByteArray)(l0:List Atom)(tb:List Tabl)(m2 m3:Bool)(rs:List Int)(e:E)(clk:Int)(l:Ent Val)(h:us.length=ts.length)(hm:ts.length<=maxEl):
  q49 loO a0 ts r0 us hd l0 tb clk l m2 m3 rs e.1 e.2.1 e.2.2=some ((fitG (pV ts) us clk l []).1,hd,l0,tb,(fitG (pV ts) us clk l []).2.1,(fitG (pV ts) us clk l []).2.2.1,m2,m3,rs,e.1,e.2.1,e.2.2,(fitG (pV ts) us clk l []).2.2.2):=by
 unfold q49
 have:=YCs ts us r0 hd l0 tb m2 m3 rs e h hm ts.length 0 (by omega) clk l [] (by simp_all)
 rw[YHG,YHG,show((0:Nat):Int)=0 from rfl]at this
 rw[this,YC5]
 generalize fitG (pV ts) us clk l []=r
 obtain⟨_|_,r⟩:=r<;>rfl
theorem delR(rec:RRec)(i n m:Int)(on:Bool)(R:Rws)(fr:List ByteArray)(hd:List ByteArray)(l0:List Atom)(tb:List Tabl)(clk:Int)(l:Ent Val)(m2 m3:Bool)(rs:List Int)(e:E)(h:fr.length<=maxEl):
  Yej loO rec (i,on,R,n,m,(fr.length:Int),0,hd,l0,tb,clk,l,m2,m3,e.1,e.2.1,e.2.2,fr,rs)=some (i,on,R,n,m,hd,l0,tb,clk,delG l fr,m2,m3,e.1,e.2.1,e.2.2,rs):=by
 refine Yau (st:=fun j=>(i,on,R,n,m,(fr.length:Int),(j:Int),hd,l0,tb,clk,delG l (fr.take j),m2,m3,e.1,e.2.1,e.2.2,fr,rs)) (N:=fr.length) rfl ?_ (fun j hj=> ?_)
 ·simp only[Yei,nlI,cond_false,YHz]
 ·simp only[Yei,ltI hj,cond_true,inc hj h,YIf]
  rw[chkT _ (by omega)]
  have e:delG l (fr.take (j+1))=mdl eqS (fr.getD j nul0) (delG l (fr.take j)):=Yhq (fun l k=>mdl eqS k l) l (d:=nul0) hj
  rw[e]
section
variable{see:Way->E->Bool×E}{I:E->Prop}{J:Asg Val->Prop}{hd:List ByteArray}{l0:List Atom}{tb:List Tabl}{m2 m3:Bool}
theorem YCt(hI: ∀w e,I e->(see w e).1=true->I (see w e).2)(ok:TbOk l0 tb)(hJ: ∀i,i<l0.length-> ∀row∈ (tb.getD i zT).2.2,∀σ σ',J σ->tsM σ (pV (l0.getD i zA).2) row.2=some σ'->J σ')(rec:RRec){i:Nat}(hi:i<l0.length)(rs:List Int)(hr:rs.length=i)
  (hrec: ∀clk (l:Ent Val) id e,KN l->J (lk l)->I e-> ∃clk' l',rec (((i+1:Nat):Int),hd,l0,tb,clk,l,m2,m3,rs++[id],e.1,e.2.1,e.2.2)=some ((visit see (wyM ((PR l0 tb).drop (i+1)) (lk l) (rs++[id])) e).1,hd,l0,tb,clk',l',m2,m3,(visit see (wyM ((PR l0 tb).drop (i+1)) (lk l) (rs++[id])) e).2.1,(visit see (wyM ((PR l0 tb).drop (i+1)) (lk l) (rs++[id])) e).2.2.1,(visit see (wyM ((PR l0 tb).drop (i+1)) (lk l) (rs++[id])) e).2.2.2,rs++[id])/\KN l'/\lk l'=lk l) (σ:Asg Val) (hσ:J σ):
  ∀(k n:Nat),n+k=(tb.getD i zT).2.2.length-> ∀clk (l:Ent Val) e,KN l->lk l=σ->I e-> ∃clk' l',KN l'/\lk l'=σ/\YcM loO rec ((i:Int),(tb.getD i zT).2.2,((tb.getD i zT).2.2.length:Int),(n:Int),hd,l0,tb,clk,l,m2,m3,e.1,e.2.1,e.2.2,rs)=some (
   match visit see (((tb.getD i zT).2.2.drop n).flatMap fun row=>match tsM σ (pV (l0.getD i zA).2) row.2 with|some σ'=>wyM ((PR l0 tb).drop (i+1)) σ' (rs++[row.1])|none=>[]) e with
   | (true,e)=>.inr (hd,l0,tb,clk',l',m2,m3,e.1,e.2.1,e.2.2,rs)
   | (false,e)=>.inl (false,hd,l0,tb,clk',l',m2,m3,e.1,e.2.1,e.2.2,rs)):=by
 have hM:maxEl=1073741824:=rfl
 have hT:=ok.tl i hi
 have hR:=ok.rl i hi
 have hA:=ok.ar i hi
 have hJi:=hJ i hi
 have hS:=ok.sm
 generalize(tb.getD i zT).2.2=R at*
 intro k
 induction k with
 |zero=>
  intro n hn clk l e hk hl he
  refine⟨clk,l,hk,hl,?_⟩
  have en:n=R.length:=by omega
  subst en
  rw[List.drop_of_length_le (YHR _)]
  show YDk _ _=_
  rw[Yaw]
  simp only[Yb2,nlI,cond_false]
  rfl
 |succ k ih=>
  intro n hn clk l e hk hl he
  have hlt:n<R.length:=by omega
  rw[Yb8 (d:=zR) hlt,List.flatMap_cons,YoY]
  have hrow:=hA _ (Yaj (d:=zR) hlt)
  have hJr:=hJi _ (Yaj (d:=zR) hlt)
  generalize hq:R.getD n zR=row at*
  have hF:=fit0 (ps:=pV (l0.getD i zA).2) (us:=row.2) clk hk
  rw[hl]at hF
  have hfl:(fitG (pV (l0.getD i zA).2) row.2 clk l []).2.2.2.length<=maxEl:=by
   have:=hF.len;unfold pV at this;rw[YHC]at this;exact YHV this hT
  have hf:=fit (l0.getD i zA).1 (l0.getD i zA).2 row.2 row.1 hd l0 tb m2 m3 rs e clk l hrow hT
  have step: ∀s',Yb2 loO rec ((i:Int),R,(R.length:Int),(n:Int),hd,l0,tb,clk,l,m2,m3,e.1,e.2.1,e.2.2,rs)=s'->YcM loO rec ((i:Int),R,(R.length:Int),(n:Int),hd,l0,tb,clk,l,m2,m3,e.1,e.2.1,e.2.2,rs)=(match s' with|some (.inl s)=>YcM loO rec s|some (.inr x)=>some x|none=>none):=by
   intro s' hs;subst hs
   show YDk _ _=_
   rw[Yaw]
   rcases Yb2 loO rec ((i:Int),R,(R.length:Int),(n:Int),hd,l0,tb,clk,l,m2,m3,e.1,e.2.1,e.2.2,rs)with _| (_|_)<;>rfl
  have nx:YIl .i64 ((n:Int)+1)=((n+1:Nat):Int):=inc hlt hR
  have ix:YIl .i64 ((i:Int)+1)=((i+1:Nat):Int):=inc hi (by omega)
  have tk: ∀id:Int,(rs++[id]).take i=rs:=fun id=>by rw[<-hr];simp
  simp only[Yb2,ltI hlt,cond_true,YIf,hq]at step
  rw[chkT _ (by omega),chkT _ (by omega),hf,YC5]at step
  dsimp only at step
  rw[chkT _ rfl,chkT _ rfl,chkT _ (by rw[List.length_singleton];omega),hF.ok]at step
  cases hx:tsM σ (pV (l0.getD i zA).2) row.2 with
  |none=>
   rw[hx]at step
   simp only[Option.isSome_none,YIc,cond_true]at step
   rw[chkT _ (by simp;omega),tk,delR _ _ _ _ _ _ _ _ _ _ _ _ _ _ _ e hfl,YC5]at step
   simp only[YIb,cond_false,nx]at step
   obtain⟨d1,d2⟩:=YoW hF.kn hF.new hF.old
   obtain⟨clk',l',k1,k2,k3⟩:=ih (n+1) (by omega) (fitG (pV (l0.getD i zA).2) row.2 clk l []).2.1 _ e d1 d2 he
   refine⟨clk',l',k1,k2,?_⟩
   rw[step _ rfl]
   exact k3
  |some σ1=>
   rw[hx]at step
   simp only[Option.isSome_some,YIb,cond_false,ix]at step
   obtain⟨c2,l2,r1,r2,r3⟩:=hrec (fitG (pV (l0.getD i zA).2) row.2 clk l []).2.1 _ row.1 e hF.kn (by rw[hF.val σ1 hx];exact hJr σ σ1 hσ hx) he
   rw[r1,YC5,hF.val σ1 hx]at step
   rw[hF.val σ1 hx]at r3
   dsimp only at step
   obtain⟨d1,d2⟩:=YoW (σ0:=σ) r2 hF.new (by rw[r3,<-hF.val σ1 hx];exact hF.old)
   have hv:=YoZ (see:=see) hI (ws:=wyM ((PR l0 tb).drop (i+1)) σ1 (rs++[row.1])) he
   rcases hvv:visit see (wyM ((PR l0 tb).drop (i+1)) σ1 (rs++[row.1])) e with⟨_|_,e'⟩
   ·rw[hvv]at step
    rw[chkT _ rfl,chkT _ (by simp;omega),tk,delR _ _ _ _ _ _ _ _ _ _ _ _ _ _ _ e' hfl,YC5]at step
    simp only[YIc,cond_true]at step
    exact⟨c2,_,d1,d2,by rw[step _ rfl]⟩
   ·rw[hvv]at step hv
    rw[chkT _ rfl,chkT _ (by simp;omega),tk,delR _ _ _ _ _ _ _ _ _ _ _ _ _ _ _ e' hfl,YC5]at step
    simp only[YIb,cond_false,nx]at step
    obtain⟨clk',l',k1,k2,k3⟩:=ih (n+1) (by omega) c2 _ e' d1 d2 (hv rfl)
    refine⟨clk',l',k1,k2,?_⟩
    rw[step _ rfl]
    exact k3
theorem YCu(hI: ∀w e,I e->(see w e).1=true->I (see w e).2)(ok:TbOk l0 tb)(hJ: ∀i,i<l0.length-> ∀row∈ (tb.getD i zT).2.2,∀σ σ',J σ->tsM σ (pV (l0.getD i zA).2) row.2=some σ'->J σ')
  (hsee: ∀(clk:Int) (l:Ent Val) (rs:List Int) (e:E),rs.length<=6->KN l->J (lk l)->I e->q48 loO hd l0 e.1 e.2.1 e.2.2 tb clk l m2 m3 rs=some ((see (rs,lk l) e).1,hd,l0,(see (rs,lk l) e).2.1,(see (rs,lk l) e).2.2.1,(see (rs,lk l) e).2.2.2,tb,clk,l,m2,m3,rs)) (j:Nat):
  ∀(k i:Nat),i+k=l0.length-> ∀clk (l:Ent Val) rs e,rs.length=i->KN l->J (lk l)->I e-> ∃clk' l',YaW loO (k+1+j) ((i:Int),hd,l0,tb,clk,l,m2,m3,rs,e.1,e.2.1,e.2.2)=some ((visit see (wyM ((PR l0 tb).drop i) (lk l) rs) e).1,hd,l0,tb,clk',l',m2,m3,(visit see (wyM ((PR l0 tb).drop i) (lk l) rs) e).2.1,(visit see (wyM ((PR l0 tb).drop i) (lk l) rs) e).2.2.1,(visit see (wyM ((PR l0 tb).drop i) (lk l) rs) e).2.2.2,rs)/\KN l'/\lk l'=lk l:=by
 intro k
 have hS:=ok.sm
 induction k with
 |zero=>
  intro i hi clk l rs e hr hk hj he
  have en:i=l0.length:=by omega
  subst en
  refine⟨clk,l,?_,hk,rfl⟩
  rw[show 0+1+j=j+1 by omega]
  show Yb3 loO (YaW loO j) _ _ _ _ _ _ _ _ _ _ _ _=_
  unfold Yb3
  rw[cT _ _ rfl]
  rw[hsee clk l rs e (by omega) hk hj he,YC5,YCr ok.len]
  dsimp only
  rw[chkT _ rfl,chkT _ rfl]
  simp only[wyM,visit]
  grind
 |succ k ih=>
  intro i hi clk l rs e hr hk hj he
  have hlt:i<l0.length:=by omega
  rw[show k+1+1+j=(k+1+j)+1 by omega]
  show∃clk' l',Yb3 loO (YaW loO (k+1+j)) _ _ _ _ _ _ _ _ _ _ _ _=_/\_
  unfold Yb3
  have e0:decide ((i:Int)=(l0.length:Int))=false:=by grind
  have hl:=ok.len
  simp only[e0,cond_false,YIf]
  rw[chkT _ (by omega)]
  obtain⟨clk',l',k1,k2,k3⟩:=YCt hI ok hJ (YaW loO (k+1+j)) hlt rs hr (fun clk l id e hk hj he=>ih (i+1) (by omega) clk l (rs++[id]) e (by simp_all) hk hj he) (lk l) hj (tb.getD i zT).2.2.length 0 (by omega) clk l e hk rfl he
  rw[show((0:Nat):Int)=0 from rfl,YHG]at k3
  refine⟨clk',l',?_,k1,k2⟩
  rw[k3,YC5,YCq hl hlt]
  simp only[wyM]
  generalize visit see ((tb.getD i zT).2.2.flatMap fun row=>match tsM (lk l) (pV (l0.getD i zA).2) row.2 with|some σ'=>wyM ((PR l0 tb).drop (i+1)) σ' (rs++[row.1])|none=>[]) e=q
  obtain⟨_|_,e'⟩:=q<;>rfl
theorem Yo0: ∀n x y,YaW loO n x=some y->YaW loO (n+1) x=some y
 |0,_,_,h=>by cases h
 |n+1,x,y,h=>by
  have ih:=Yo0 n
  have h':Yb3 loO (YaW loO n) x.1 x.2.1 x.2.2.1 x.2.2.2.1 x.2.2.2.2.1 x.2.2.2.2.2.1 x.2.2.2.2.2.2.1 x.2.2.2.2.2.2.2.1 x.2.2.2.2.2.2.2.2.1 x.2.2.2.2.2.2.2.2.2.1 x.2.2.2.2.2.2.2.2.2.2.1 x.2.2.2.2.2.2.2.2.2.2.2=some y:=h
  refine YE6 h' (fun h=>h) fun h=>chkm h fun h=>YF7 h (fun z hz=> ?_) fun _ h=>h
  refine YoX (fun s q hs=> ?_) hz
  exact YE6 hs (fun h=>chkm h fun h=>chkm h fun h=>YF6 h fun _ h=>chkm h fun h=>chkm h fun h=>chkm h fun h=>YE6 h (fun h=>h) fun h=>YF7 h (ih _) fun _ h=>h) fun h=>h
theorem run(hI: ∀w e,I e->(see w e).1=true->I (see w e).2)(ok:TbOk l0 tb)(hJ: ∀i,i<l0.length-> ∀row∈ (tb.getD i zT).2.2,∀σ σ',J σ->tsM σ (pV (l0.getD i zA).2) row.2=some σ'->J σ')
  (hsee: ∀(clk:Int) (l:Ent Val) (rs:List Int) (e:E),rs.length<=6->KN l->J (lk l)->I e->q48 loO hd l0 e.1 e.2.1 e.2.2 tb clk l m2 m3 rs=some ((see (rs,lk l) e).1,hd,l0,(see (rs,lk l) e).2.1,(see (rs,lk l) e).2.2.1,(see (rs,lk l) e).2.2.2,tb,clk,l,m2,m3,rs)) (clk:Int) (l:Ent Val) (e:E) (hk:KN l) (hj:J (lk l)) (he:I e):
  ∃clk' l',q50 loO 0 hd l0 tb clk l m2 m3 [] e.1 e.2.1 e.2.2=some ((visit see (wyM (PR l0 tb) (lk l) []) e).1,hd,l0,tb,clk',l',m2,m3,(visit see (wyM (PR l0 tb) (lk l) []) e).2.1,(visit see (wyM (PR l0 tb) (lk l) []) e).2.2.1,(visit see (wyM (PR l0 tb) (lk l) []) e).2.2.2,[]):=by
 obtain⟨clk',l',h1,_⟩:=YCu hI ok hJ hsee 0 l0.length 0 (by omega) clk l [] e rfl hk hj he
 exact⟨clk',l',Ygc Yo0 (n:=0) (by rw[YHX];exact h1)⟩
end
end
end Go.Abs.G47
namespace Go.Abs.G47
open Go Go.Abs
noncomputable section
def SzV(l:Vals):Prop:=l.length<=maxEl/\ ∀v∈l,v.2.2.size<=maxEl
def sg(a b:Int):Int:=bif decide (a<b)then-1 else bif decide (b<a)then 1 else 0
theorem YeV(a b:Int):q124 loO a b=some (sg a b):=by
 unfold q124 sg
 grind
theorem sg_zero{a b:Int}:sg a b=0↔a=b:=by
 unfold sg
 grind
def fS(a b:ByteArray)(n:Nat):Option (Int⊕ (ByteArray×ByteArray)):=bif !decide (YC6 a n=YC6 b n)then some (.inl (sg (YC6 a n) (YC6 b n)))else none
def cmpS(a b:ByteArray):Int:=match YC7 (fS a b) (min a.size b.size) 0 (.inr (a,b))with
 | .inl i=>i
 | .inr _=>sg a.size b.size
theorem YCv(a b:ByteArray)(ha:a.size<=maxEl)(hb:b.size<=maxEl):q125 loO a b=some (cmpS a b):=by
 have hm:maxEl=1073741824:=rfl
 have hL:Yhd loO (a,b,0)=some (YC7 (fS a b) (min a.size b.size) 0 (.inr (a,b))):=by
  refine Yak (fun n=>(a,b,(n:Int))) _ (min a.size b.size) _ rfl ?_ (fun n hn=> ?_)
  ·rcases Nat.le_total a.size b.size with h|h
   ·rw[Nat.min_eq_left h];simp[YcV]
   ·rw[Nat.min_eq_right h]
    have e:decide ((b.size:Int)< (b.size:Int))=false:=by simp
    simp only[YcV,e,cond_false]
    simp
  ·have e1:decide ((n:Int)< (a.size:Int))=true:=by grind
   have e1':decide ((n:Int)< (b.size:Int))=true:=by grind
   have e2:YIl .i64 ((n:Int)+1)=((n+1:Nat):Int):=by rw[wr6 (by omega) (by omega)];omega
   have r1:=Yhn a n
   have r2:=Yhn b n
   simp only[YcV,e1,e1',cond_true,e2,YeV,YC5,wr6 (show-9223372036854775808<=YC6 a n by omega) (by omega),wr6 (show-9223372036854775808<=YC6 b n by omega) (by omega)]
   rw[chkT _ (by omega),chkT _ (by omega),chkT _ (by omega),chkT _ (by omega)]
   unfold fS
   grind
 unfold q125 cmpS
 rw[hL,YC5]
 rcases Ybb (f:=fS a b) (r0:=.inr (a,b)) (min a.size b.size) 0 with⟨m,r,h1,h2,h3,h4⟩| ⟨h1,h2⟩
 ·rw[h4]
  unfold fS at h3
  cases hd:decide (YC6 a m=YC6 b m)with
  |true=>simp_all
  |false=>rw[hd]at h3;injection h3 with h3;subst h3;rfl
 ·rw[h1];simp only[alt2,YeV,YC5]
theorem YCw{a b:ByteArray}:cmpS a b=0↔a=b:=by
 unfold cmpS
 rcases Ybb (f:=fS a b) (r0:=.inr (a,b)) (min a.size b.size) 0 with⟨m,r,h1,h2,h3,h4⟩| ⟨h1,h2⟩
 ·rw[h4]
  unfold fS at h3
  by_cases hd:YC6 a m=YC6 b m
  ·simp_all
  ·simp[hd]at h3
   subst h3
   rw[sg_zero]
   grind
 ·rw[h1]
  simp only[sg_zero]
  constructor
  ·intro h
   have hs:a.size=b.size:=by omega
   refine YB6 hs (fun n hn=> ?_)
   have:=h2 n (by omega) (by omega)
   unfold fS at this
   grind
  simp_all
def cmpV(v w:Int×Int×ByteArray):Int:=bif !decide (sg v.1 w.1=0)then sg v.1 w.1 else bif !decide (sg v.2.1 w.2.1=0)then sg v.2.1 w.2.1 else cmpS v.2.2 w.2.2
theorem Yo1(v w:Int×Int×ByteArray)(hv:v.2.2.size<=maxEl)(hw:w.2.2.size<=maxEl):q126 loO v.1 v.2.1 v.2.2 w.1 w.2.1 w.2.2=some (cmpV v w):=by
 unfold q126 cmpV
 simp only[YeV,YC5,YCv _ _ hv hw]
 grind
theorem cmpV_zero{v w:Int×Int×ByteArray}:cmpV v w=0↔v=w:=by
 obtain⟨a,b,c⟩:=v
 obtain⟨a',b',c'⟩:=w
 unfold cmpV
 by_cases h1:sg a a'=0
 ·by_cases h2:sg b b'=0
  ·simp only[h1,h2,decide_true,YIb,cond_false,YCw]
   rw[sg_zero]at h1 h2
   simp_all
  ·simp only[h1,h2,decide_true,decide_false,YIb,YIc,cond_false,cond_true]
   refine⟨fun h=>h.elim,fun h=> ?_⟩
   injection h with _ h;injection h with h _
   exact h2 (sg_zero.2 h)
 ·simp only[h1,decide_false,YIc,cond_true]
  refine⟨fun h=>h.elim,fun h=> ?_⟩
  injection h with h _
  exact h1 (sg_zero.2 h)
def fL(a b:Vals)(n:Nat):Option (Int⊕ (Vals×Vals)):=bif !decide (cmpV (a.getD n zV) (b.getD n zV)=0)then some (.inl (cmpV (a.getD n zV) (b.getD n zV)))else none
def cmpL(a b:Vals):Int:=match YC7 (fL a b) (min a.length b.length) 0 (.inr (a,b))with
 | .inl i=>i
 | .inr _=>sg a.length b.length
theorem Yo2(a b:Vals)(ha:SzV a)(hb:SzV b):q133 loO a b=some (cmpL a b):=by
 have hm:maxEl=1073741824:=rfl
 have hbl:=hb.1
 have hL:Yhf loO (a,b,0)=some (YC7 (fL a b) (min a.length b.length) 0 (.inr (a,b))):=by
  refine Yak (fun n=>(a,b,(n:Int))) _ (min a.length b.length) _ rfl ?_ (fun n hn=> ?_)
  ·rcases Nat.le_total a.length b.length with h|h
   ·rw[Nat.min_eq_left h];simp[YcZ]
   ·rw[Nat.min_eq_right h]
    have e:decide ((b.length:Int)< (b.length:Int))=false:=by simp
    simp only[YcZ,e,cond_false]
    simp
  ·have e1:decide ((n:Int)< (a.length:Int))=true:=by grind
   have e1':decide ((n:Int)< (b.length:Int))=true:=by grind
   have e2:YIl .i64 ((n:Int)+1)=((n+1:Nat):Int):=by rw[wr6 (by omega) (by omega)];omega
   have q1:=ha.2 (a.getD n zV) (Yaj (by omega))
   have q2:=hb.2 (b.getD n zV) (Yaj (by omega))
   simp only[YcZ,e1,e1',cond_true,e2,YIf]
   rw[chkT _ (by omega),chkT _ (by omega),Yo1 _ _ q1 q2,YC5]
   unfold fL
   grind
 unfold q133 cmpL
 rw[hL,YC5]
 rcases Ybb (f:=fL a b) (r0:=.inr (a,b)) (min a.length b.length) 0 with⟨m,r,h1,h2,h3,h4⟩| ⟨h1,h2⟩
 ·rw[h4]
  unfold fL at h3
  cases hd:decide (cmpV (a.getD m zV) (b.getD m zV)=0)with
  |true=>simp_all
  |false=>rw[hd]at h3;injection h3 with h3;subst h3;rfl
 ·rw[h1];simp only[alt2,YeV,YC5]
theorem cmpL_zero{a b:Vals}:cmpL a b=0↔a=b:=by
 unfold cmpL
 rcases Ybb (f:=fL a b) (r0:=.inr (a,b)) (min a.length b.length) 0 with⟨m,r,h1,h2,h3,h4⟩| ⟨h1,h2⟩
 ·rw[h4]
  unfold fL at h3
  by_cases hd:cmpV (a.getD m zV) (b.getD m zV)=0
  ·simp_all
  ·rw[decide_eq_false hd]at h3;injection h3 with h3
   subst h3
   exact⟨fun h=>absurd h hd,fun h=>by subst h;exact absurd (cmpV_zero.2 rfl) hd⟩
 ·rw[h1]
  simp only[sg_zero]
  constructor
  ·intro h
   have hs:a.length=b.length:=by omega
   refine YB7 (d:=zV) hs (fun n hn=> ?_)
   have:=h2 n (by omega) (by omega)
   unfold fL at this
   by_cases hd:cmpV (a.getD n zV) (b.getD n zV)=0
   ·exact cmpV_zero.1 hd
   simp_all
  simp_all
theorem Yo3(a b:Vals)(ha:SzV a)(hb:SzV b):q134 loO a b=some (decide (a=b)):=by
 unfold q134
 rw[Yo2 a b ha hb,YC5]
 have:decide (cmpL a b=0)=decide (a=b):=by rw[decide_eq_decide];exact cmpL_zero
 grind
end
end Go.Abs.G47
namespace Go.Abs.G47
open Go Go.Abs
noncomputable section
def cl:List UInt8->List UInt8->Int
 | [],[]=>0
 | [],_::_=> -1
 |_::_,[]=>1
 |x::a,y::b=>if x.toNat<y.toNat then-1 else if y.toNat<x.toNat then 1 else cl a b
theorem Yb9: ∀a:List UInt8,cl a a=0
 | []=>rfl
 |x::a=>by simp[cl,Yb9 a]
theorem Yo4: ∀{a b:List UInt8},cl a b=0->a=b
 | [],[],_=>rfl
 | [],_::_,h=>by trivial
 |_::_,[],h=>by simp[cl]at h
 |x::a,y::b,h=>by
  simp only[cl]at h
  split at h
  ·omega
  ·split at h
   ·omega
   ·have:x=y:=UInt8.toNat_inj.1 (by omega)
    rw[this,Yo4 h]
theorem YCx(p:List UInt8)(s t:List UInt8):cl (p++s) (p++t)=cl s t:=by
 induction p with
 |nil=>rfl
 |cons x p ih=>simp[cl,ih]
theorem YeW: ∀a b:List UInt8,le8 a b=decide (cl a b<=0)
 | [],b=>by cases b<;>rfl
 |_::_,[]=>rfl
 |x::a,y::b=>by
  simp only[le8,cl]
  by_cases h1:x.toNat<y.toNat
  ·simp_all
  ·have h1':YHS x.toNat y.toNat=false:=by rw[<-Bool.not_eq_true];simp_all
   by_cases h2:y.toNat<x.toNat
   ·have:YHS y.toNat x.toNat=true:=by simp_all
    grind
   ·have h2':YHS y.toNat x.toNat=false:=by grind
    simp[h1,h1',h2,h2',YeW a b]
def esc:List UInt8->List UInt8
 | []=>[]
 |b::r=>(if b.toNat=0 then[0,255]else[b])++esc r
theorem Yo5: ∀(x y s t:List UInt8),cl (esc x++([0,1]++s)) (esc y++([0,1]++t))=if cl x y=0 then cl s t else cl x y
 | [],[],s,t=>by rfl
 | [],b::y,s,t=>by
   simp only[esc]
   by_cases h:b.toNat=0
   ·simp[h,cl]
   ·have:0<b.toNat:=by omega
    simp[h,cl,this]
 |a::x,[],s,t=>by
  simp only[esc]
  by_cases h:a.toNat=0
  ·simp[h,cl]
  ·have:0<a.toNat:=by omega
   simp[h,cl,this]
 |a::x,b::y,s,t=>by
  have ih:=Yo5 x y s t
  by_cases h1:a.toNat<b.toNat
  ·have hb:b.toNat≠0:=by omega
   by_cases ha:a.toNat=0
   ·have:0<b.toNat:=by omega
    simp[esc,ha,hb,cl,this]
   ·simp[esc,ha,hb,cl,h1]
  ·by_cases h2:b.toNat<a.toNat
   ·have ha:a.toNat≠0:=by omega
    by_cases hb:b.toNat=0
    ·have:0<a.toNat:=by omega
     simp[esc,ha,hb,cl,this]
    ·simp[esc,ha,hb,cl,h1,h2]
   ·have:a=b:=UInt8.toNat_inj.1 (by omega)
    subst this
    have e:cl (a::x) (a::y)=cl x y:=by simp[cl]
    rw[e,<-ih]
    simp only[esc,YHA]
    exact YCx _ _ _
def be:Nat->Nat->List UInt8
 |0,_=>[]
 |k+1,n=>UInt8.ofNat (n/256^k % 256)::be k n
theorem YeX: ∀(k n:Nat),be k n=be k (n % 256^k)
 |0,n=>rfl
 |k+1,n=>by
  have h1:n % 256^(k+1)/256^k % 256=n/256^k % 256:=by
   rw[Nat.pow_succ,Nat.mod_mul_right_div_self,Nat.mod_mod]
  have h2:n % 256^(k+1) % 256^k=n % 256^k:=Nat.mod_mod_of_dvd _ (Nat.pow_dvd_pow 256 (Nat.le_succ k))
  simp only[be]
  rw[h1,YeX k n,YeX k (n % 256^(k+1)),h2]
theorem Yo6: ∀(k m n:Nat) (s t:List UInt8),m<256^k->n<256^k->cl (be k m++s) (be k n++t)=if m<n then-1 else if n<m then 1 else cl s t
 |0,m,n,s,t,hm,hn=>by
  simp at hm hn;subst hm;subst hn;rfl
 |k+1,m,n,s,t,hm,hn=>by
  have hp:0<256^k:=Nat.pow_pos (by decide)
  rw[Nat.pow_succ]at hm hn
  have qm:m/256^k<256:=Nat.div_lt_of_lt_mul hm
  have qn:n/256^k<256:=Nat.div_lt_of_lt_mul hn
  have em:=Nat.div_add_mod m (256^k)
  have en:=Nat.div_add_mod n (256^k)
  have lm:=Nat.mod_lt m hp
  have ln:=Nat.mod_lt n hp
  have tm:(UInt8.ofNat (m/256^k % 256)).toNat=m/256^k:=by simp_all
  have tn:(UInt8.ofNat (n/256^k % 256)).toNat=n/256^k:=by simp_all
  simp only[be,YHJ,cl,tm,tn]
  have mono: ∀{a b c d:Nat},a<b->c<256^k->256^k*a+c<256^k*b+d:=fun{a b c d} h1 h2=>by
   have:256^k*(a+1)<=256^k*b:=Nat.mul_le_mul_left _ h1
   grind
  by_cases h1:m/256^k<n/256^k
  ·grind
  ·by_cases h2:n/256^k<m/256^k
   ·grind
   ·have e:m/256^k=n/256^k:=by omega
    simp only[h1,h2,if_false]
    rw[YeX k m,YeX k n,Yo6 k _ _ s t lm ln]
    grind
theorem Yca(a b:ByteArray):bl (a++b)=bl a++bl b:=by rfl
theorem Ybd(l:List Int):bl (YDa l)=l.map fun n=>UInt8.ofNat n.toNat:=by rfl
theorem YeY(s:ByteArray)(n:Nat):YC6 s n=(((s.data.getD n 0).toNat:Nat):Int):=by rfl
theorem YCy(x y:ByteArray):cmpS x y=cl (bl x) (bl y):=by
 have key: ∀k n,n+k=min x.size y.size->(match YC7 (fS x y) k n (.inr (x,y))with| .inl i=>i| .inr _=>sg x.size y.size)=cl ((bl x).drop n) ((bl y).drop n):=by
  intro k
  induction k with
  |zero=>
   intro n hn
   simp only[YC7]
   rcases Nat.lt_trichotomy x.size y.size with h|h|h
   ·have e1:(bl x).drop n=[]:=List.drop_eq_nil_of_le (by rw[Ybn];omega)
    rw[e1,YeK y n (by omega)]
    have:(x.size:Int)<y.size:=by omega
    simp[cl,sg,this]
   ·have e1:(bl x).drop n=[]:=List.drop_eq_nil_of_le (by rw[Ybn];omega)
    have e2:(bl y).drop n=[]:=List.drop_eq_nil_of_le (by rw[Ybn];omega)
    rw[e1,e2,h];simp[cl,sg]
   ·have e1:(bl y).drop n=[]:=List.drop_eq_nil_of_le (by rw[Ybn];omega)
    rw[e1,YeK x n (by omega)]
    have a1:(y.size:Int)<x.size:=by omega
    have a2: ¬ (x.size:Int)<y.size:=by omega
    simp[cl,sg,a1,a2]
  |succ k ih=>
   intro n hn
   rw[YeK x n (by omega),YeK y n (by omega)]
   simp only[YC7,fS,YeY,cl]
   by_cases h1:(x.data.getD n 0).toNat< (y.data.getD n 0).toNat
   ·have a1: ¬ ((x.data.getD n 0).toNat:Int)=((y.data.getD n 0).toNat:Int):=by omega
    simp only[YIc,cond_true,sg]
    simp_all
   ·by_cases h2:(y.data.getD n 0).toNat< (x.data.getD n 0).toNat
    ·have a1: ¬ ((x.data.getD n 0).toNat:Int)=((y.data.getD n 0).toNat:Int):=by omega
     have a2: ¬ ((x.data.getD n 0).toNat:Int)< ((y.data.getD n 0).toNat:Int):=by omega
     have a3:((y.data.getD n 0).toNat:Int)< ((x.data.getD n 0).toNat:Int):=by omega
     rw[decide_eq_false a1];simp only[YIc,cond_true,sg]
     simp_all
    grind
 have:=key (min x.size y.size) 0 (by omega)
 trivial
def num8(n:Int):List UInt8:=be 8 (n+9223372036854775808).toNat
def kb(v:Int×Int×ByteArray):List UInt8:=UInt8.ofNat v.1.toNat::(if v.1=1\/v.1=3 then num8 v.2.1 else if v.1=2 then esc (bl v.2.2)++[0,1]else[])
def I64(n:Int):Prop:= -9223372036854775808<=n/\n<=9223372036854775807
theorem YeZ{v:Int×Int×ByteArray}(h:vB v=true):(v.1=0/\v.2.1=0/\v.2.2=YIk #[])\/(v.1=1/\v.2.2=YIk #[])\/(v.1=2/\v.2.1=0/\v.2.2.size<=200)\/(v.1=3/\v.2.2=YIk #[]):=by
 obtain⟨a,b,c⟩:=v
 have he:=Yc0 a b c
 unfold q6 at he
 grind
theorem Yo7(a b:Int)(ha:I64 a)(hb:I64 b)(s t:List UInt8):cl (num8 a++s) (num8 b++t)=if sg a b=0 then cl s t else sg a b:=by
 unfold num8
 obtain⟨a1,a2⟩:=ha
 obtain⟨b1,b2⟩:=hb
 rw[Yo6 8 _ _ s t (by omega) (by omega)]
 unfold sg
 grind
theorem Yhu(a:Int):sg a a=0:=sg_zero.2 rfl
theorem YCz{v w:Int×Int×ByteArray}(hv:vB v=true)(hw:vB w=true)(iv:I64 v.2.1)(iw:I64 w.2.1)(s t:List UInt8):cl (kb v++s) (kb w++t)=if cmpV v w=0 then cl s t else cmpV v w:=by
 have kv:=YeZ hv
 have kw:=YeZ hw
 by_cases hk:v.1=w.1
 ·have e1:sg v.1 w.1=0:=sg_zero.2 hk
  have e2:cmpV v w=if sg v.2.1 w.2.1=0 then cl (bl v.2.2) (bl w.2.2)else sg v.2.1 w.2.1:=by
   unfold cmpV
   rw[e1,YCy]
   simp
  have e3: ∀x y:List UInt8,cl ((UInt8.ofNat v.1.toNat::x)++s) ((UInt8.ofNat w.1.toNat::y)++t)=cl (x++s) (y++t):=fun x y=>by
   rw[hk];simp[cl]
  unfold kb
  rw[e3,e2]
  rcases kv with⟨g1,g2,g3⟩| ⟨g1,g3⟩| ⟨g1,g2,g3⟩| ⟨g1,g3⟩
  ·rcases kw with⟨k1,k2,k3⟩| ⟨k1,k3⟩| ⟨k1,k2,k3⟩| ⟨k1,k3⟩<;>try omega
   simp[g1,k1,g2,k2,g3,k3,Yhu,Yb9]
  ·rcases kw with⟨k1,k2,k3⟩| ⟨k1,k3⟩| ⟨k1,k2,k3⟩| ⟨k1,k3⟩<;>try omega
   simp only[g1,k1,g3,k3,true_or,if_true,Yb9,Yo7 _ _ iv iw]
   omega
  ·rcases kw with⟨k1,k2,k3⟩| ⟨k1,k3⟩| ⟨k1,k2,k3⟩| ⟨k1,k3⟩<;>try omega
   have q: ¬ ((2:Int)=1\/(2:Int)=3):=by decide
   simp only[g1,k1,g2,k2,q,if_false,if_true,Yhu,YHA,Yo5]
  ·rcases kw with⟨k1,k2,k3⟩| ⟨k1,k3⟩| ⟨k1,k2,k3⟩| ⟨k1,k3⟩<;>try(rw[g1,k1]at hk;exact absurd hk (by decide))
   simp only[g1,k1,g3,k3,or_true,if_true,Yb9,Yo7 _ _ iv iw]
   omega
 ·have e1:sg v.1 w.1≠0:=fun h=>hk (sg_zero.1 h)
  have e2:cmpV v w=sg v.1 w.1:=by unfold cmpV;grind
  have r1:0<=v.1/\v.1<=3:=by omega
  have r2:0<=w.1/\w.1<=3:=by omega
  have t1:(UInt8.ofNat v.1.toNat).toNat=v.1.toNat:=by simp;omega
  have t2:(UInt8.ofNat w.1.toNat).toNat=w.1.toNat:=by simp;omega
  rw[e2,if_neg e1]
  unfold kb
  simp only[YHJ,cl,t1,t2]
  unfold sg
  grind
def kl(l:Vals):List UInt8:=l.flatMap kb
def Ok(l:Vals):Prop:= ∀v∈l,vB v=true/\I64 v.2.1
theorem Yo8{a b:Vals}(h:a.length=b.length)(ha:Ok a)(hb:Ok b):cl (kl a) (kl b)=cmpL a b:=by
 have key: ∀k n,n+k=a.length->cl (kl (a.drop n)) (kl (b.drop n))=(match YC7 (fL a b) k n (.inr (a,b))with| .inl i=>i| .inr _=>sg a.length b.length):=by
  intro k
  induction k with
  |zero=>
   intro n hn
   rw[List.drop_eq_nil_of_le (by omega),List.drop_eq_nil_of_le (by omega)]
   simp only[YC7,h,Yhu];rfl
  |succ k ih=>
   intro n hn
   have d1:a.drop n=a.getD n zV::a.drop (n+1):=by
    rw[List.drop_eq_getElem_cons (by omega),YHP,YHm (by omega)];rfl
   have d2:b.drop n=b.getD n zV::b.drop (n+1):=by
    rw[List.drop_eq_getElem_cons (by omega),YHP,YHm (by omega)];rfl
   obtain⟨p1,p2⟩:=ha (a.getD n zV) (Yaj (by omega))
   obtain⟨q1,q2⟩:=hb (b.getD n zV) (Yaj (by omega))
   rw[d1,d2]
   simp only[kl,List.flatMap_cons]
   rw[YCz p1 q1 p2 q2]
   simp only[YC7,fL]
   by_cases hc:cmpV (a.getD n zV) (b.getD n zV)=0
   ·rw[if_pos hc,decide_eq_true hc]
    exact ih (n+1) (by omega)
   simp_all
 unfold cmpL
 grind
theorem YCA{a b:Vals}(h:a.length=b.length)(ha:Ok a)(hb:Ok b):kl a=kl b↔a=b:=by
 constructor
 ·intro e
  have:=Yo8 h ha hb
  rw[e,Yb9]at this
  exact cmpL_zero.1 this.symm
 simp_all
theorem YG0{x:Nat}(h:x<2^63):x^^^2^63=x+2^63:=by
 apply Nat.eq_of_testBit_eq
 intro i
 rw[Nat.testBit_xor,Nat.add_comm x]
 by_cases hi:i=63
 ·grind
 ·rw[Nat.testBit_two_pow_of_ne (Ne.symm hi)]
  rcases Nat.lt_or_gt_of_ne hi with h1|h1
  ·rw[Nat.testBit_two_pow_add_gt h1];simp
  ·have e1:x.testBit i=false:=Nat.testBit_lt_two_pow (Nat.lt_trans h (Nat.pow_lt_pow_right (by decide) h1))
   have e2:(2^63+x).testBit i=false:=Nat.testBit_lt_two_pow (by
    have:2^64<=2^i:=Nat.pow_le_pow_right (by decide) h1
    omega)
   simp_all
theorem xor63'{x:Nat}(h:x<2^63):(x+2^63)^^^2^63=x:=by
 rw[<-YG0 h,Nat.xor_assoc,Nat.xor_self,Nat.xor_zero]
theorem w64(n:Int):YIl .u64 n=n % 18446744073709551616:=by
 rfl
theorem w8(n:Int):YIl .u8 n=n % 256:=by
 rfl
theorem YCB{n:Int}(h:I64 n):bits .xor .u64 (YIl .u64 n) 9223372036854775808=(((n+9223372036854775808).toNat:Nat):Int):=by
 obtain⟨h1,h2⟩:=h
 rw[w64]
 have hm:n % 18446744073709551616=(((n % 18446744073709551616).toNat:Nat):Int):=by omega
 rw[hm]
 have hx:(BitVec.ofInt 64 (((n % 18446744073709551616).toNat:Nat):Int)^^^BitVec.ofInt 64 ((9223372036854775808:Nat):Int)).toNat=(n % 18446744073709551616).toNat^^^2^63:=by
  grind
 have hv:(n % 18446744073709551616).toNat^^^2^63=(n+9223372036854775808).toNat:=by
  by_cases hn:0<=n
  ·have:(n % 18446744073709551616).toNat=n.toNat:=by omega
   rw[this,YG0 (by omega)];omega
  ·have:(n % 18446744073709551616).toNat=(n+9223372036854775808).toNat+2^63:=by omega
   rw[this,xor63' (by omega)]
 show YIl .u64 ((BitVec.ofInt 64 (((n % 18446744073709551616).toNat:Nat):Int)^^^BitVec.ofInt 64 ((9223372036854775808:Nat):Int)).toNat:Nat)=_
 rw[hx,hv,w64]
 omega
def YFI(N k:Nat):Int:=YIl .u8 ((N:Int).fdiv (2^(56-8*k)))
def YEL(N:Nat)(out:ByteArray):Nat->ByteArray
 |0=>out
 |k+1=>YEL N out k++YDa [YFI N k]
theorem Yo9(N k:Nat):YFI N k=((N/2^(56-8*k) % 256:Nat):Int):=by
 unfold YFI
 rw[w8]
 grind
theorem Ypa(a b:ByteArray):(a++b).size=a.size+b.size:=ByteArray.size_append
theorem Yhv(l:List Int):(YDa l).size=l.length:=by simp[YDa,ByteArray.size]
theorem Ypb(N:Nat)(out:ByteArray): ∀k,(YEL N out k).size=out.size+k
 |0=>rfl
 |k+1=>by simp only[YEL,Ypa,Yhv,Ypb N out k,List.length_singleton];omega
theorem Ypc(N:Nat)(out:ByteArray):bl (YEL N out 8)=bl out++be 8 N:=by
 simp only[YEL,Yca,Ybd,Yo9,YHn,YHp,YIf,YHA,List.singleton_append,be]
 rfl
theorem Ypd(n:Int)(out:ByteArray)(h:I64 n)(ho:out.size+8<=maxEl):q43 loO n out=some (YEL (n+9223372036854775808).toNat out 8):=by
 unfold q43
 rw[YCB h]
 generalize(n+9223372036854775808).toNat=N
 have hL:YgD loO ((N:Int),56,out)=some (YEL N out 8):=by
  refine Yau (N:=8) (st:=fun k=>((N:Int),56-8*(k:Int),YEL N out k)) rfl ?_ (fun k hk=> ?_)
  ·rfl
  ·have e1:decide ((0:Int)<=56-8*(k:Int))=true:=by grind
   have e2:YIl .i64 (56-8*(k:Int)-8)=56-8*((k+1:Nat):Int):=by rw[wr6 (by omega) (by omega)];omega
   have e3:min (56-8*(k:Int)).toNat (IntKind.bits .u64)=56-8*k:=by
    have:IntKind.bits .u64=64:=rfl
    omega
   have e4:inB [YFI N k]=true:=by
    have:=Yo9 N k
    simp only[inB,List.all_cons,List.all_nil,Bool.and_true,YIa,decide_eq_true_eq]
    omega
   simp only[YgC,e1,cond_true,e3]
   rw[chkT _ (by omega)]
   show(bif inB [YFI N k]then _ else none)=_
   rw[e4,cond_true,chkT _ (by rw[Ypb];grind),e2];rfl
 simp_all
theorem Ype: ∀a b:List UInt8,esc (a++b)=esc a++esc b
 | [],b=>rfl
 |x::a,b=>by simp[esc,Ype a b]
theorem Ypf: ∀a:List UInt8,(esc a).length<=2*a.length
 | []=>by trivial
 |x::a=>by
  have:=Ypf a
  simp only[esc,List.length_append,YHD]
  grind
def outE(s out:ByteArray):Nat->ByteArray
 |0=>out
 |n+1=>bif decide (YC6 s n=0)then(outE s out n++YDa [YC6 s n])++YDa [255]else outE s out n++YDa [YC6 s n]
theorem Yhw(s out:ByteArray): ∀n,(outE s out n).size<=out.size+2*n
 |0=>by simp[outE]
 |n+1=>by
  have:=Yhw s out n
  simp only[outE]
  cases decide (YC6 s n=0)<;>simp[Yhv]<;>omega
theorem Ypg(s out:ByteArray): ∀n,n<=s.size->bl (outE s out n)=bl out++esc ((bl s).take n)
 |0,_=>by simp[outE,esc]
 |n+1,h=>by
  have ih:=Ypg s out n (by omega)
  rw[YBV s n (by omega),Ype]
  have hb:UInt8.ofNat (YC6 s n).toNat=s.data.getD n 0:=by rw[YeY];simp
  simp only[outE]
  by_cases h0:YC6 s n=0
  ·have hz:(s.data.getD n 0).toNat=0:=by rw[YeY]at h0;omega
   have hz':s.data.getD n 0=0:=UInt8.toNat_inj.1 hz
   rw[decide_eq_true h0,cond_true,Yca,Yca,ih,Ybd,Ybd]
   simp only[YHn,YHp,hb,esc,hz',YHA,List.append_nil]
   rfl
  ·have hz: ¬ (s.data.getD n 0).toNat=0:=by rw[YeY]at h0;omega
   rw[decide_eq_false h0,cond_false,Yca,ih,Ybd]
   simp only[YHn,YHp,hb,esc,hz,if_false,YHA,List.append_nil]
theorem YCC(v:Int×Int×ByteArray)(out:ByteArray)(hs:v.2.2.size<=200)(ho:out.size<=1000):YgE loO ((v.2.2.size:Int),0,v.1,v.2.1,v.2.2,out)=some (outE v.2.2 out v.2.2.size):=by
 have hm:maxEl=1073741824:=rfl
 refine Yau (N:=v.2.2.size) (st:=fun n=>((v.2.2.size:Int),(n:Int),v.1,v.2.1,v.2.2,outE v.2.2 out n)) rfl ?_ (fun n hn=> ?_)
 ·simp[Yef]
 ·have e1:decide ((n:Int)< (v.2.2.size:Int))=true:=by simp_all
  have e2:YIl .i64 ((n:Int)+1)=((n+1:Nat):Int):=by rw[wr6 (by omega) (by omega)];omega
  have r:=Yhn v.2.2 n
  have e3:inB [YC6 v.2.2 n]=true:=by
   simp only[inB,List.all_cons,List.all_nil,Bool.and_true,YIa,decide_eq_true_eq];omega
  have e4:inB [(255:Int)]=true:=rfl
  have hz:=Yhw v.2.2 out n
  simp only[Yef,e1,e2,e3,e4,cond_true]
  rw[chkT _ (by omega),chkT _ (by grind),chkT _ (by omega),chkT _ (by simp[Yhv];omega)]
  simp only[outE]
  grind
def keyB(v:Int×Int×ByteArray):ByteArray:=((q44 loO v.1 v.2.1 v.2.2).getD (YIk #[],0)).1
theorem Yph{v:Int×Int×ByteArray}(hv:vB v=true)(hi:I64 v.2.1):q44 loO v.1 v.2.1 v.2.2=some (keyB v,0)/\bl (keyB v)=kb v:=by
 have hm:maxEl=1073741824:=rfl
 have hc:=YeZ hv
 have ew:YIl .u8 v.1=v.1:=by rw[w8];omega
 have ei:inB [v.1]=true:=by simp only[inB,List.all_cons,List.all_nil,Bool.and_true,YIa,decide_eq_true_eq];omega
 have hsz:(YDa [v.1]).size=1:=by rfl
 have main: ∃k,q44 loO v.1 v.2.1 v.2.2=some (k,0)/\bl k=kb v:=by
  unfold q44
  rw[Yc0,YC5]
  simp only[hv,YIb,cond_false,ew,ei,cond_true]
  rcases hc with⟨g1,g2,g3⟩| ⟨g1,g3⟩| ⟨g1,g2,g3⟩| ⟨g1,g3⟩
  ·have a1:decide (v.1=1)=false:=by simp_all
   have a3:decide (v.1=3)=false:=by simp_all
   have a2:decide (v.1=2)=false:=by simp_all
   simp only[a1,a3,cond_false,YbJ,a2,YC5]
   refine⟨_,rfl,?_⟩
   rw[Ybd];unfold kb;grind
  ·have a1:decide (v.1=1)=true:=by simp_all
   simp only[a1,cond_true,YbJ]
   rw[Ypd _ _ hi (by omega),YC5,YC5]
   refine⟨_,rfl,?_⟩
   rw[Ypc,Ybd];unfold kb num8;grind
  ·have a1:decide (v.1=1)=false:=by simp_all
   have a3:decide (v.1=3)=false:=by simp_all
   have a2:decide (v.1=2)=true:=by simp_all
   have e4:inB [(0:Int),1]=true:=rfl
   have hz:=Yhw v.2.2 (YDa [v.1]) v.2.2.size
   simp only[a1,a3,cond_false,YbJ,a2,cond_true]
   rw[YCC v _ g3 (by omega),YC5,e4,cond_true,chkT _ (by grind),YC5]
   refine⟨_,rfl,?_⟩
   rw[Yca,Ypg _ _ _ (YHR _),Ybd,Ybd];unfold kb
   have ht:(bl v.2.2).take v.2.2.size=bl v.2.2:=List.take_of_length_le (by rw[Ybn];omega)
   simp_all
  ·have a1:decide (v.1=1)=false:=by simp_all
   have a3:decide (v.1=3)=true:=by simp_all
   simp only[a1,a3,cond_false,YbJ,cond_true]
   rw[Ypd _ _ hi (by omega),YC5,YC5]
   refine⟨_,rfl,?_⟩
   rw[Ypc,Ybd];unfold kb num8;grind
 obtain⟨k,h1,h2⟩:=main
 have:keyB v=k:=by unfold keyB;simp_all
 simp_all
theorem Yhx: ∀k n,(be k n).length=k
 |0,_=>rfl
 |k+1,n=>by simp[be,Yhx k]
theorem Ypi{v:Int×Int×ByteArray}(hv:vB v=true):(kb v).length<=403:=by
 unfold kb num8
 rcases YeZ hv with⟨g1,g2,g3⟩| ⟨g1,g3⟩| ⟨g1,g2,g3⟩| ⟨g1,g3⟩
 ·grind
 ·simp[g1,Yhx]
 ·have:=Ypf (bl v.2.2)
  rw[Ybn]at this
  grind
 ·simp[g1,Yhx]
def kOut(l:Vals):Nat->ByteArray
 |0=>YIk #[]
 |n+1=>kOut l n++keyB (l.getD n zV)
theorem Yhy{l:Vals}(h:Ok l): ∀n,n<=l.length->bl (kOut l n)=kl (l.take n)/\ (kOut l n).size<=403*n
 |0,_=>⟨rfl,YHR _⟩
 |n+1,hn=>by
  obtain⟨i1,i2⟩:=Yhy h n (by omega)
  obtain⟨p1,p2⟩:=h (l.getD n zV) (Yaj (by omega))
  obtain⟨_,q2⟩:=Yph p1 p2
  refine⟨?_,?_⟩
  ·simp only[kOut]
   rw[Yca,i1,q2,Ybc (d:=zV) (by omega)]
   simp[kl]
  ·simp only[kOut,Ypa]
   have:=Ypi p1
   have hl:(keyB (l.getD n zV)).size=(kb (l.getD n zV)).length:=by rw[<-q2,Ybn]
   omega
def keyL(l:Vals):ByteArray:=kOut l l.length
theorem Ye0{l:Vals}(h:Ok l):bl (keyL l)=kl l:=by
 have:=(Yhy h l.length (YHR _)).1
 rwa[YHz]at this
theorem YCD{a b:Vals}(h:a.length=b.length)(ha:Ok a)(hb:Ok b):keyL a=keyL b↔a=b:=by
 constructor
 ·intro e
  rw[<-YCA h ha hb,<-Ye0 ha,<-Ye0 hb,e]
 simp_all
end
end Go.Abs.G47
namespace Go.Abs.G47
open Go Go.Abs
noncomputable section
def AllO(N:Nat)(L:List Vals):Prop:= ∀l∈L,Ok l/\l.length=N
theorem YCE{N:Nat}{a b:Vals}(ha:Ok a/\a.length=N)(hb:Ok b/\b.length=N):keyL a=keyL b↔a=b:=YCD (by omega) ha.1 hb.1
def hasV(L:List Vals)(l:Vals):Bool:=L.any fun x=>decide (x=l)
theorem hasV_iff{L:List Vals}{l:Vals}:hasV L l=true↔l∈L:=by
 unfold hasV
 simp
theorem Ye1(L:List Vals)(x l:Vals):hasV (L++[x]) l=(hasV L l||decide (x=l)):=by
 unfold hasV;simp
abbrev Ents:=List (Int×ByteArray×Vals)
def YF8(e:Int×Ents)(l:Vals):Int×Ents:=(mck eqS e.1 (keyL l) e.2,mpt eqS e.1 (keyL l) l e.2)
def mapOf(L:List Vals):Int×Ents:=L.foldl YF8 (0,[])
theorem Ye2(L:List Vals)(l:Vals):mapOf (L++[l])=YF8 (mapOf L) l:=by unfold mapOf;simp
theorem YET{α:Type}{P:List α->Prop}(h0:P [])(h1: ∀L l,P L->P (L++[l]))(L:List α):P L:=by
 have: ∀n (L:List α),L.length=n->P L:=by
  intro n
  induction n with
  |zero=>simp_all
  |succ n ih=>
   intro L h
   have hne:L≠ []:=by grind
   rw[<-List.dropLast_concat_getLast hne]
   simp_all
 simp_all
theorem YCF(L:List Vals):((mapOf L).2.map (·.1)).Nodup/\ ∀b∈ (mapOf L).2.map (·.1),b< (mapOf L).1:=by
 induction L using YET with
 |h0=>trivial
 |h1 L l ih=>rw[Ye2];exact YB2 ih.1 ih.2
theorem Ypj{N:Nat}{L:List Vals}(hL:AllO N L): ∀l,Ok l/\l.length=N->mfd eqS (keyL l) (mapOf L).2=bif hasV L l then some l else none:=by
 induction L using YET with
 |h0=>intro l _;rfl
 |h1 L x ih=>
  intro l hl
  have ih:=ih (fun y hy=>hL y (List.mem_append_left _ hy)) l hl
  have hx:=hL x (List.mem_append_right _ (YHF.2 rfl))
  rw[Ye2]
  show mfd eqS (keyL l) (mpt eqS _ (keyL x) x _)=_
  rw[Yhs,ih]
  by_cases e:l=x
  ·subst e;simp[eqS,Ye1]
  ·have:eqS (keyL l) (keyL x)=false:=by unfold eqS;rw[decide_eq_false_iff_not,YCE hl hx];exact e
   rw[this]
   rw[Ye1,decide_eq_false (fun h=>e h.symm),Bool.or_false];rfl
theorem Ypk{N:Nat}{L:List Vals}{l:Vals}(hL:AllO N (L++[l])):(mapOf (L++[l])).2.map (·.2.1)=bif hasV L l then(mapOf L).2.map (·.2.1)else(mapOf L).2.map (·.2.1)++[keyL l]:=by
 rw[Ye2]
 show(mpt eqS _ (keyL l) l _).map (·.2.1)=_
 rw[Yht,Ypj (fun y hy=>hL y (List.mem_append_left _ hy)) l (hL l (List.mem_append_right _ (YHF.2 rfl)))]
 grind
theorem Ypl{N:Nat}{L:List Vals}(hL:AllO N L):(mapOf L).2.length<=L.length:=by
 induction L using YET with
 |h0=>trivial
 |h1 L x ih=>
  have ih:=ih (fun y hy=>hL y (List.mem_append_left _ hy))
  have:=congrArg List.length (Ypk hL)
  grind
def leR(a b:Vals):Prop:=le8 (kl a) (kl b)=true
def insR:List Vals->Vals->List Vals->List Vals
 | [],x,Q=>x::Q
 |y::P,x,Q=>bif decide (cmpL x y<0)then insR P x (y::Q)else(y::P).reverse++x::Q
theorem Ypm: ∀(P:List Vals) (x:Vals) (Q:List Vals),(insR P x Q).Perm (P.reverse++x::Q)
 | [],x,Q=>List.Perm.refl _
 |y::P,x,Q=>by
  simp only[insR]
  cases decide (cmpL x y<0)with
  |true=>
   refine(Ypm P x (y::Q)).trans ?_
   rw[List.reverse_cons,YHA]
   exact List.Perm.append_left _ (List.Perm.swap ..)
  |false=>rfl
theorem Ypn{N:Nat}{x:Vals}(hx:Ok x/\x.length=N): ∀(P Q:List Vals),(∀p∈P,Ok p/\p.length=N)->(P.reverse++Q).Pairwise leR->(∀q∈Q,leR x q)->(insR P x Q).Pairwise leR
 | [],Q,_,h,hq=>List.pairwise_cons.2 ⟨hq,h⟩
 |y::P,Q,hP,h,hq=>by
  have hy:=hP y (YHs ..)
  have ec:cl (kl x) (kl y)=cmpL x y:=Yo8 (by omega) hx.1 hy.1
  rw[List.reverse_cons,YHA]at h
  simp only[insR]
  cases hd:decide (cmpL x y<0)with
  |true=>
   have hxy:leR x y:=by unfold leR;rw[YeW,ec];grind
   refine Ypn hx P (y::Q) (fun p hp=>hP p (YHv _ hp)) h (fun q hq'=> ?_)
   grind
  |false=>
   have hd': ¬cmpL x y<0:=by simp_all
   have hyx:leR y x:=by
    unfold leR
    cases h1:le8 (kl y) (kl x)with
    |true=>rfl
    |false=>
     have:=YdX (kl y) (kl x)
     rw[h1,Bool.false_or,YeW,ec,decide_eq_true_eq]at this
     have h0:cl (kl x) (kl y)=0:=by omega
     rw[Yo4 h0,YeW,Yb9]at h1
     trivial
   rw[cond_false,List.reverse_cons,YHA]
   obtain⟨p1,p2,p3⟩:=List.pairwise_append.1 h
   obtain⟨p4,p5⟩:=List.pairwise_cons.1 p2
   refine List.pairwise_append.2 ⟨p1,List.pairwise_cons.2 ⟨fun q hq'=> ?_,List.pairwise_cons.2 ⟨hq,p5⟩⟩,fun a ha b hb=> ?_⟩
   ·rcases YHt.1 hq' with rfl|hq'
    ·omega
    simp_all
   ·have hay:=p3 a ha y (YHs ..)
    rcases YHt.1 hb with rfl|hb
    ·omega
    ·rcases YHt.1 hb with rfl|hb
     ·exact YdW _ _ _ hay hyx
     simp_all
def YEU(R:List Vals)(l:Vals):List Vals:=bif hasV R l then R else insR R.reverse l []
def rowsR(L:List Vals):List Vals:=L.foldl YEU []
theorem Yc3(L:List Vals)(l:Vals):rowsR (L++[l])=YEU (rowsR L) l:=by unfold rowsR;simp
theorem Yhz(R:List Vals)(l:Vals):(insR R.reverse l []).Perm (R++[l]):=by
 have:=Ypm R.reverse l []
 simp_all
theorem Ypo(L:List Vals): ∀l,hasV (rowsR L) l=hasV L l:=by
 induction L using YET with
 |h0=>intro l;rfl
 |h1 L x ih=>
  intro l
  rw[Yc3]
  unfold YEU
  rw[ih x,Ye1]
  cases hx:hasV L x with
  |true=>
   grind
  |false=>
   rw[cond_false]
   have:hasV (insR (rowsR L).reverse x []) l=hasV (rowsR L++[x]) l:=(Yhz _ x).any_eq
   rw[this,Ye1,ih l]
theorem rowsR_mem{L:List Vals}{r:Vals}:r∈rowsR L↔r∈L:=by
 rw[<-hasV_iff,Ypo,hasV_iff]
theorem Ye3(L:List Vals):(rowsR L).length<=L.length:=by
 induction L using YET with
 |h0=>trivial
 |h1 L x ih=>
  rw[Yc3]
  unfold YEU
  cases hasV (rowsR L) x with
  |true=>grind
  |false=>rw[cond_false,(Yhz _ x).length_eq];simp_all
theorem YCG{N:Nat}{L:List Vals}(hL:AllO N L):(rowsR L).Pairwise leR:=by
 induction L using YET with
 |h0=>exact List.Pairwise.nil
 |h1 L x ih=>
  have hL':AllO N L:=fun y hy=>hL y (List.mem_append_left _ hy)
  have ih:=ih hL'
  rw[Yc3]
  unfold YEU
  cases hasV (rowsR L) x with
  |true=>exact ih
  |false=>
   refine Ypn (N:=N) (hL x (List.mem_append_right _ (YHF.2 rfl))) _ _ (fun p hp=>hL' _ (rowsR_mem.1 (List.mem_reverse.1 hp))) ?_ (fun q hq=>by cases hq)
   simp_all
theorem Ypp{N:Nat}{L:List Vals}(hL:AllO N L):((mapOf L).2.map (·.2.1)).Perm ((rowsR L).map keyL):=by
 induction L using YET with
 |h0=>rfl
 |h1 L x ih=>
  have ih:=ih (fun y hy=>hL y (List.mem_append_left _ hy))
  rw[Ypk hL,Yc3]
  unfold YEU
  rw[Ypo]
  cases hasV L x with
  |true=>exact ih
  |false=>
   refine(List.Perm.append_right [keyL x] ih).trans ?_
   have:=((Yhz (rowsR L) x).map keyL).symm
   simp_all
theorem YCH{N:Nat}{L:List Vals}(hL:AllO N L):YEp ((mapOf L).2.map (·.2.1))=(rowsR L).map keyL:=by
 rw[YoF (Ypp hL)]
 refine(Ygk (le:=fun a b:ByteArray=>le8 (bl a) (bl b)) (fun a b c h k=>YdW _ _ _ h k) (fun a b=>YdX _ _) (fun a b h k=>YBX (Ygl (bl a) (bl b) h k)) ?_ (List.Perm.refl _)).symm
 rw[List.pairwise_map]
 refine(List.Pairwise.imp_of_mem (fun{a b} ha hb h=> ?_) (YCG hL))
 have e1:bl (keyL a)=kl a:=Ye0 (hL _ (rowsR_mem.1 ha)).1
 have e2:bl (keyL b)=kl b:=Ye0 (hL _ (rowsR_mem.1 hb)).1
 rw[e1,e2];exact h
end
end Go.Abs.G47
namespace Go.Abs.G47
open Go Go.Abs
noncomputable section
def ansM(hd:List ByteArray)(σ:Asg Val):Vals:=hd.map fun v=>(σ v).getD zV
def goodV(v:Val):Prop:=vB v=true/\I64 v.2.1
def JV(σ:Asg Val):Prop:= ∀k v,σ k=some v->goodV v
theorem YhA{hd:List ByteArray}{σ:Asg Val}(h:JV σ):Ok (ansM hd σ)/\ (ansM hd σ).length=hd.length:=by
 refine⟨fun v hv=> ?_,by unfold ansM;simp⟩
 obtain⟨k,_,rfl⟩:=YHx.1 hv
 cases e:σ k with
 |none=>trivial
 |some w=>exact h k w e
theorem YhB: ∀{ps:List (ByteArray×Val)} {us:Vals} {σ σ':Asg Val},JV σ->(∀u∈us,goodV u)->tsM σ ps us=some σ'->JV σ'
 | [],us,σ,σ',h,_,e=>by injection e with e;simp_all
 |_::_,[],_,_,_,_,e=>by cases e
 |p::ps,u::us,σ,σ',h,hu,e=>by
  simp only[tsM]at e
  cases h1:tmM σ p.1 p.2 u with
  |none=>simp_all
  |some σ1=>
   rw[h1]at e
   refine YhB (σ:=σ1) ?_ (fun v hv=>hu v (YHv _ hv)) (show tsM σ1 ps us=some σ' from e)
   unfold tmM at h1
   by_cases h0:p.1=nul0
   ·simp_all
   ·rw[if_neg h0]at h1
    cases hs:σ p.1 with
    |some w=>
     simp_all
    |none=>
     rw[hs]at h1;injection h1 with h1;subst h1
     intro k v hk
     unfold upd at hk
     by_cases hx:k=p.1
     ·simp_all
     ·rw[if_neg hx]at hk;exact h k v hk
theorem Ypq: ∀{L:List (List Term×Rws)} {σ:Asg Val} {r:List Int},JV σ->(∀q∈L,∀row∈q.2,∀v∈row.2,goodV v)-> ∀w∈wyM L σ r,JV w.2
 | [],σ,r,h,_,w,hw=>by rw[wyM,YHF]at hw;simp_all
 |q::L,σ,r,h,hg,w,hw=>by
  rw[wyM,List.mem_flatMap]at hw
  obtain⟨row,hr,hw⟩:=hw
  cases hx:tsM σ (pV q.1) row.2 with
  |none=>simp_all
  |some σ'=>
   rw[hx]at hw
   exact Ypq (YhB h (hg q (YHs ..) row hr) hx) (fun p hp=>hg p (YHv _ hp)) w hw
theorem YhC: ∀(L:List (List Term×Rws)) (σ:Asg Val) (r:List Int),(∀q∈L,q.2.length<=6)->(wyM L σ r).length<=6^L.length
 | [],σ,r,_=>YHR _
 |q::L,σ,r,h=>by
  have hq:=h q (YHs ..)
  have: ∀R:Rws,(R.flatMap fun row=>match tsM σ (pV q.1) row.2 with|some σ'=>wyM L σ' (r++[row.1])|none=>[]).length<=R.length*6^L.length:=by
   intro R
   induction R with
   |nil=>simp
   |cons row R ih=>
    rw[List.flatMap_cons,List.length_append,YHD,YHZ,Nat.one_mul,Nat.add_comm (R.length*_)]
    refine Nat.add_le_add ?_ ih
    cases tsM σ (pV q.1) row.2 with
    |none=>simp
    |some σ'=>exact YhC L σ' _ (fun p hp=>h p (YHv _ hp))
  refine YHV (this q.2) ?_
  rw[YHD,Nat.pow_succ,Nat.mul_comm]
  exact Nat.mul_le_mul_left _ hq
theorem tAns(hd:List ByteArray)(l0:List Atom)(tb:List Tabl)(clk:Int)(l:Ent Val)(m2 m3:Bool)(rs:List Int)(e:E)(hh:hd.length<=maxEl):
  q42 loO hd l0 tb clk l m2 m3 rs e.1 e.2.1 e.2.2=some (hd,l0,tb,clk,l,m2,m3,rs,e.1,e.2.1,e.2.2,ansM hd (lk l)):=by
 unfold q42
 have:YgB loO (hd,(hd.length:Int),0,hd,l0,tb,clk,l,m2,m3,rs,e.1,e.2.1,e.2.2,[])=some (hd,l0,tb,clk,l,m2,m3,rs,e.1,e.2.1,e.2.2,ansM hd (lk l)):=by
  refine Yau (st:=fun n=>(hd,(hd.length:Int),(n:Int),hd,l0,tb,clk,l,m2,m3,rs,e.1,e.2.1,e.2.2,ansM (hd.take n) (lk l))) (N:=hd.length) rfl ?_ (fun n hn=> ?_)
  ·simp only[Yee,nlI,cond_false,YHz]
  ·simp only[Yee,ltI hn,cond_true,inc hn hh,YIf]
   rw[chkT _ (by omega),chkT _ (by unfold ansM;grind),Ybc (d:=nul0) hn]
   have: ∀k,mgt eqS k l zV=(lk l k).getD zV:=fun k=>by rfl
   rw[this]
   unfold ansM
   simp
 simp_all
def seeA(hd:List ByteArray):Way->E->Bool×E:=fun w e=>
 let k:=YF8 (e.1,e.2.1) (ansM hd w.2)
 (decide ((k.2.length:Int)<=10000),(k.1,k.2,e.2.2))
theorem tSee(hd:List ByteArray)(l0:List Atom)(tb:List Tabl)(clk:Int)(l:Ent Val)(m2 m3:Bool)(rs:List Int)(e:E)(hh:hd.length<=1000)(hj:JV (lk l)):
  q48 loO hd l0 e.1 e.2.1 e.2.2 tb clk l m2 m3 rs=some ((seeA hd (rs,lk l) e).1,hd,l0,(seeA hd (rs,lk l) e).2.1,(seeA hd (rs,lk l) e).2.2.1,(seeA hd (rs,lk l) e).2.2.2,tb,clk,l,m2,m3,rs):=by
 have hm:maxEl=1073741824:=rfl
 unfold q48
 rw[tAns hd l0 tb clk l m2 m3 rs e (by omega),YC5]
 rw[chkT _ rfl,chkT _ rfl]
 obtain⟨ok,hl⟩:=YhA (hd:=hd) hj
 generalize hA:ansM hd (lk l)=A at*
 have e4:YgF loO ((A.length:Int),0,hd,l0,e.1,e.2.1,e.2.2,tb,clk,l,m2,m3,rs,A,nul0)=some (hd,l0,e.1,e.2.1,e.2.2,tb,clk,l,m2,m3,rs,A,keyL A):=by
  refine Yau (st:=fun n=>((A.length:Int),(n:Int),hd,l0,e.1,e.2.1,e.2.2,tb,clk,l,m2,m3,rs,A,kOut A n)) (N:=A.length) rfl ?_ (fun n hn=> ?_)
  ·simp only[Yeg,nlI,cond_false];rfl
  ·obtain⟨p1,p2⟩:=ok (A.getD n zV) (Yaj (by omega))
   obtain⟨q1,q2⟩:=Yph p1 p2
   have hz:=(Yhy ok n (by omega)).2
   have hz':(keyB (A.getD n zV)).size<=403:=by rw[<-Ybn,q2];exact Ypi p1
   simp only[Yeg,ltI hn,cond_true,inc hn (show A.length<=maxEl by omega),YIf]
   rw[chkT _ (by omega),q1,YC5]
   simp only[q46,q45,YC5]
   rw[chkT _ trivial,chkT _ (by omega),YC5];rfl
 rw[e4,YC5]
 simp only[q47,YC5,seeA,hA,YF8]
theorem Ypr(hd:List ByteArray): ∀(ws:List Way) (pre:List Vals) (m:Bool),(∀w∈ws,JV w.2)->AllO hd.length pre->pre.length+ws.length<=10000->
  visit (seeA hd) ws ((mapOf pre).1,(mapOf pre).2,m)=(true,(mapOf (pre++ws.map fun w=>ansM hd w.2)).1,(mapOf (pre++ws.map fun w=>ansM hd w.2)).2,m)
 | [],pre,m,_,_,_=>by simp[visit]
 |w::ws,pre,m,hj,hp,hl=>by
  have hw:=YhA (hd:=hd) (hj w (YHs ..))
  have hp':AllO hd.length (pre++[ansM hd w.2]):=fun x hx=>by
   rcases List.mem_append.1 hx with h|h
   ·exact hp x h
   simp_all
  have hlen:=Ypl hp'
  rw[List.length_append,List.length_singleton]at hlen
  rw[YHD]at hl
  have es:seeA hd w ((mapOf pre).1,(mapOf pre).2,m)=(true,(mapOf (pre++[ansM hd w.2])).1,(mapOf (pre++[ansM hd w.2])).2,m):=by
   unfold seeA
   rw[Ye2]at hlen⊢
   rw[show(((mapOf pre).1,(mapOf pre).2):Int×Ents)=mapOf pre from rfl]
   simp only
   rw[decide_eq_true (by omega)]
  simp only[visit]
  rw[es]
  simp only
  rw[Ypr hd ws _ m (fun v hv=>hj v (YHv _ hv)) hp' (by grind)]
  simp
def tbs(db:List Tabl)(l:List Atom):List Tabl:=l.map fun a=>tabO db a.1
theorem tNew(db:List Tabl)(hd:List ByteArray)(l:List Atom)(hdb:db.length<=maxEl)(hl:l.length<=maxEl):q41 loO db hd l=some (hd,l,tbs db l,0,[],false,false,[]):=by
 unfold q41
 have:YgA loO (l,(l.length:Int),0,db,hd,l,[],0,[],false,false,[])=some (hd,l,tbs db l,0,[],false,false,[]):=by
  refine Yau (st:=fun n=>(l,(l.length:Int),(n:Int),db,hd,l,tbs db (l.take n),0,[],false,false,[])) (N:=l.length) rfl ?_ (fun n hn=> ?_)
  ·simp only[Yed,nlI,cond_false,YHz]
  ·simp only[Yed,ltI hn,cond_true,inc hn hl,YIf]
   rw[chkT _ (by omega),YGW _ _ hdb,YC5,chkT _ (by unfold tbs;grind),Ybc (d:=zA) hn]
   unfold tbs
   simp
 simp_all
def YEr(db:List Tabl)(l:List Atom):List Way:=wyM (PR l (tbs db l)) (fun _=>none) []
structure QOk(db:List Tabl)(hd:List ByteArray)(l:List Atom):Prop where
 tb:TbOk l (tbs db l)
 hn:hd.length<=10
 dn:db.length<=maxEl
 sm:sumT l<=maxEl
 row: ∀n,n<l.length->((tbs db l).getD n zT).2.2.length<=6
 val: ∀n,n<l.length-> ∀row∈ ((tbs db l).getD n zT).2.2,∀v∈row.2,goodV v
theorem YhD{l:List Atom}{tb:List Tabl}(h:l.length=tb.length){q:List Term×Rws}(hq:q∈PR l tb): ∃n,n<l.length/\q=((l.getD n zA).2,(tb.getD n zT).2.2):=by
 obtain⟨n,hn,e⟩:=YHM.1 hq
 unfold PR at hn
 rw[List.length_zipWith]at hn
 refine⟨n,by omega,?_⟩
 rw[<-e]
 unfold PR
 simp_all
theorem QOk.JV{db:List Tabl}{hd:List ByteArray}{l:List Atom}(h:QOk db hd l): ∀w∈YEr db l,JV w.2:=
 Ypq (fun k v e=>by cases e) (fun q hq row hr v hv=>by
  obtain⟨n,hn,rfl⟩:=YhD h.tb.len hq
  exact h.val n hn row hr v hv)
theorem QOk.len{db:List Tabl}{hd:List ByteArray}{l:List Atom}(h:QOk db hd l):(YEr db l).length<=6^l.length:=by
 refine YHV (YhC _ _ _ (fun q hq=> ?_)) ?_
 ·obtain⟨n,hn,rfl⟩:=YhD h.tb.len hq
  exact h.row n hn
 ·refine Nat.pow_le_pow_right (by omega) ?_
  unfold PR;grind
def anss(db:List Tabl)(hd:List ByteArray)(l:List Atom):List Vals:=(YEr db l).map fun w=>ansM hd w.2
theorem QOk.all{db:List Tabl}{hd:List ByteArray}{l:List Atom}(h:QOk db hd l):AllO hd.length (anss db hd l):=fun x hx=>by
 obtain⟨w,hw,rfl⟩:=YHx.1 hx
 exact YhA (h.JV w hw)
theorem YCI(l:List ByteArray)(hl:l.length<=maxEl):q65 loO l=some (YEp l):=by
 cases l with
 |nil=>exact(congrArg (fun lo=>q65 lo []) (Yba 100)).symm.trans (by kernel_rfl)
 |cons a r=>
  show(bif YHT (a::r).length maxEl then some (YEp (a::r))else none)=_
  rw[Nat.ble_eq_true_of_le hl];rfl
theorem YF9{db:List Tabl}{hd:List ByteArray}{l:List Atom}(h:QOk db hd l)(hq:qI db hd l=0)(hw:(YEr db l).length<=10000):q66 loO db hd l=some (rowsR (anss db hd l),0):=by
 have hm:maxEl=1073741824:=rfl
 have hh:=h.hn
 have hs:=h.tb.sm
 unfold q66
 rw[tQ db hd l (by omega) h.sm,YC5,hq]
 rw[tNew db hd l h.dn (by omega),YC5]
 obtain⟨clk',l',e⟩:=run (see:=seeA hd) (I:=fun _=>True) (J:=JV) (hd:=hd) (l0:=l) (tb:=tbs db l) (m2:=false) (m3:=false) (fun _ _ _ _=>trivial) h.tb (fun i hi row hr σ σ' hj ht=>YhB hj (h.val i hi row hr) ht) (fun clk l1 rs e _ hk hj _=>tSee hd l (tbs db l) clk l1 false false rs e (by omega) hj) 0 [] (0,[],false) List.nodup_nil (fun k v e=>by cases e) trivial
 rw[e,YC5]
 rw[chkT _ rfl]
 have hv:=Ypr hd (YEr db l) [] false h.JV (fun _ hx=>by cases hx) (by simp_all)
 rw[show visit (seeA hd) (wyM (PR l (tbs db l)) (lk []) []) (0,[],false)=_ from hv]
 have hA:=h.all
 have hml:=Ypl hA
 have hal:(anss db hd l).length<=10000:=by unfold anss;simp_all
 have hrl:=Ye3 (anss db hd l)
 rw[show((YEr db l).map fun w=>ansM hd w.2)=anss db hd l from rfl]
 have hj:YcR loO ([],(mapOf (anss db hd l)).1,(mapOf (anss db hd l)).2,false)=some (rowsR (anss db hd l),0):=by
  refine YoH (YCF _).1 (by omega) ?_
  show YH2 (q65 loO ((mapOf (anss db hd l)).2.map (·.2.1))) _=_
  rw[YCI _ (by grind),YC5,YCH hA]
  rw[chkT _ (by rw[<-(Ypp hA).length_eq])]
  have e3:YgL loO ((((rowsR (anss db hd l)).map keyL).length:Int),0,[],(rowsR (anss db hd l)).map keyL,(mapOf (anss db hd l)).1,(mapOf (anss db hd l)).2,false)=some (rowsR (anss db hd l)):=by
   refine Yau (st:=fun n=>((((rowsR (anss db hd l)).map keyL).length:Int),(n:Int),(rowsR (anss db hd l)).take n,(rowsR (anss db hd l)).map keyL,(mapOf (anss db hd l)).1,(mapOf (anss db hd l)).2,false)) (N:=(rowsR (anss db hd l)).length) rfl ?_ (fun n hn=> ?_)
   ·simp only[Yek,YHC,nlI,cond_false,YHz]
   ·simp only[Yek,YHC,ltI hn,cond_true,inc hn (show(rowsR (anss db hd l)).length<=maxEl by omega),YIf]
    have ek:((rowsR (anss db hd l)).map keyL).getD n nul0=keyL ((rowsR (anss db hd l)).getD n []):=by
     simp_all
    have hmem:=rowsR_mem.1 (Yaj (d:=([]:Vals)) hn)
    have eg:mgt eqS (keyL ((rowsR (anss db hd l)).getD n [])) (mapOf (anss db hd l)).2 []=(rowsR (anss db hd l)).getD n []:=by
     unfold mgt
     rw[Ypj hA _ (hA _ hmem),hasV_iff.2 hmem];rfl
    rw[chkT _ (by omega),chkT _ (by grind),ek,eg,Ybc (d:=([]:Vals)) hn]
  simp_all
 simp_all
end
end Go.Abs.G47
namespace Go.Abs.G47
open Go Go.Abs
noncomputable section
end
end Go.Abs.G47
namespace Go.Abs.G47
open Go Go.Abs
noncomputable section
def SzT(l:List Term):Prop:= ∀t∈l,t.2.2.2.size<=maxEl
theorem YGj(a b:Term)(ha:a.2.2.2.size<=maxEl)(hb:b.2.2.2.size<=maxEl):q127 loO a.1 a.2.1 a.2.2.1 a.2.2.2 b.1 b.2.1 b.2.2.1 b.2.2.2=some (decide (a=b)):=by
 unfold q127
 obtain⟨a0,a1⟩:=a
 obtain⟨b0,b1⟩:=b
 by_cases h:a0=b0
 ·rw[Yo1 a1 b1 ha hb,YC5]
  have:decide (cmpV a1 b1=0)=decide (a1=b1):=by rw[decide_eq_decide];exact cmpV_zero
  simp_all
 simp_all
theorem Yps{p:Nat->Bool}: ∀(k n:Nat),idxR p (k+1) n=bif decide (0<=idxR p k n)then idxR p k n else bif p (n+k)then((n+k:Nat):Int)else-1
 |0,n=>by
  unfold idxR
  cases hp:p n<;>simp[YC7,hp]
 |k+1,n=>by
  have e: ∀j,idxR p (j+1) n=bif p n then(n:Int)else idxR p j (n+1):=fun j=>by
   unfold idxR
   cases hp:p n<;>simp[YC7,hp]
  rw[e (k+1),e k]
  cases hp:p n with
  |true=>simp
  |false=>
   simp only[cond_false]
   rw[Yps k (n+1),show n+1+k=n+(k+1) by omega]
theorem YCJ{p q:Nat->Bool}(k n:Nat)(h: ∀m,n<=m->m<n+k->p m=q m):idxR p k n=idxR q k n:=by
 unfold idxR
 rw[Yhl k n (fun m h1 h2=>by rw[h m h1 h2])]
theorem YCK(N:List ByteArray)(x k:ByteArray):idxI (N++[x]) k=bif decide (0<=idxI N k)then idxI N k else bif decide (k=x)then(N.length:Int)else-1:=by
 unfold idxI
 rw[List.length_append,List.length_singleton,Yps]
 have e:idxR (fun m=>decide (k=(N++[x]).getD m nul0)) N.length 0=idxR (fun m=>decide (k=N.getD m nul0)) N.length 0:=YCJ _ _ fun m _ h=>by grind
 simp_all
theorem YhE(N:List ByteArray)(k:ByteArray):(∃m:Nat,idxI N k=(m:Int)/\m<N.length/\N.getD m nul0=k)\/(idxI N k= -1/\k∉N):=by
 rcases YbK (p:=fun m=>decide (k=N.getD m nul0)) (k:=N.length) (n:=0)with⟨m,_,h2,h3,h4⟩| ⟨h1,h2⟩
 ·exact .inl ⟨m,h4,by omega,(of_decide_eq_true h3).symm⟩
 ·refine .inr ⟨h1,fun hm=> ?_⟩
  have:=Yc2 N k
  rw[inL_iff.2 hm]at this
  have h1:idxI N k= -1:=h1
  simp_all
def YDt(N:List ByteArray)(T:List Term):Asg Term:=fun k=>bif decide (0<=idxI N k)then some (T.getD (idxI N k).toNat zM)else none
theorem YCL{N:List ByteArray}{T:List Term}(hl:N.length=T.length){x:ByteArray}(u:Term)(hx:idxI N x<0):YDt (N++[x]) (T++[u])=upd (YDt N T) x u:=by
 funext k
 unfold YDt upd
 rw[YCK]
 rcases YhE N k with⟨m,h1,h2,h3⟩| ⟨h1,h2⟩
 ·grind
 grind
structure GB(N:List ByteArray)(T:List Term):Prop where
 len:N.length=T.length
 sz:SzT T
theorem YhF{T:List Term}(h:SzT T)(n:Nat):(T.getD n zM).2.2.2.size<=maxEl:=by
 by_cases hn:n<T.length
 ·exact h _ (Yaj hn)
 ·rw[YHP,YHN (by omega)];trivial
theorem rTm{N:List ByteArray}{T:List Term}(g:GB N T)(t u:Term)(hN:N.length+1<=maxEl)(ht:t.2.2.2.size<=maxEl)(hu:u.2.2.2.size<=maxEl):
  ∃N' T',q128 loO N T t.1 t.2.1 t.2.2.1 t.2.2.2 u.1 u.2.1 u.2.2.1 u.2.2.2=some (N',T',(tmM (YDt N T) t.1 t u).isSome)/\GB N' T'/\N'.length<=N.length+1/\ ∀σ',tmM (YDt N T) t.1 t u=some σ'->YDt N' T'=σ':=by
 unfold q128 tmM
 by_cases h0:t.1=nul0
 ·refine⟨N,T,?_,g,by omega,?_⟩
  ·rw[decide_eq_true h0,cond_true,YGj t u ht hu,YC5,if_pos h0]
   grind
  simp_all
 ·rw[if_neg h0,decide_eq_false h0,cond_false,Ybo _ _ (by omega),YC5]
  rcases YhE N t.1 with⟨m,h1,h2,h3⟩| ⟨h1,h2⟩
  ·have e0:decide ((0:Int)<=(m:Int))=true:=by simp
   have eb:YDt N T t.1=some (T.getD m zM):=by unfold YDt;simp_all
   rw[h1,e0,cond_true,eb]
   have:=g.len
   refine⟨N,T,?_,g,by omega,?_⟩
   ·rw[chkT _ (by omega)]
    simp only[YIf]
    rw[YGj (T.getD m zM) u (YhF g.sz m) hu,YC5]
    grind
   simp
  ·have e0:decide ((0:Int)<= -1)=false:=rfl
   have eb:YDt N T t.1=none:=by unfold YDt;simp_all
   rw[h1,e0,cond_false,eb]
   have:=g.len
   refine⟨N++[t.1],T++[u],?_,⟨by simp_all,fun v hv=> ?_⟩,by simp,?_⟩
   ·rw[chkT _ (by omega),chkT _ (by trivial),chkT _ (by omega),chkT _ (by simp_all)]
    rfl
   ·rcases List.mem_append.1 hv with h|h
    ·exact g.sz v h
    simp_all
   ·intro σ' h
    injection h with h;subst h
    exact YCL g.len u (by omega)
theorem YCM(a0:ByteArray)(ts us:List Term)(v0:List ByteArray)(v1:List Term)(h:ts.length=us.length)(hm:us.length<=maxEl)(ht:SzT ts)(hu:SzT us): ∀(k n:Nat),n+k=us.length-> ∀(N:List ByteArray) (T:List Term),GB N T->N.length+k<=maxEl->
  ∃N' T',YcX loO (us,true,(n:Int),N,T,a0,ts,v0,v1)=some ((tsM (YDt N T) ((pT ts).drop n) (us.drop n)).isSome,N',T',v0,v1)/\GB N' T'/\N'.length<=N.length+k/\ ∀σ',tsM (YDt N T) ((pT ts).drop n) (us.drop n)=some σ'->YDt N' T'=σ':=by
 intro k
 induction k with
 |zero=>
  intro n hn N T g hN
  have e:n=us.length:=by omega
  subst e
  refine⟨N,T,?_,g,by omega,?_⟩
  ·show YDk _ _=_
   rw[Yaw]
   simp only[YcW,nlI,cond_false]
   rw[List.drop_of_length_le (l:=pT ts) (by simp_all)]
   rfl
  ·rw[List.drop_of_length_le (l:=pT ts) (by simp_all)]
   intro σ' h;injection h
 |succ k ih=>
  intro n hn N T g hN
  have hlt:n<us.length:=by omega
  have e1:(pT ts).drop n=((ts.getD n zM).1,ts.getD n zM)::(pT ts).drop (n+1):=by
   rw[Yb8 (d:=(zM.1,zM)) (by simp_all)]
   simp_all
  obtain⟨N1,T1,r1,r2,r3,r4⟩:=rTm g (ts.getD n zM) (us.getD n zM) (by omega) (YhF ht n) (YhF hu n)
  have hs:YcX loO (us,true,(n:Int),N,T,a0,ts,v0,v1)=YcX loO (us,(tmM (YDt N T) (ts.getD n zM).1 (ts.getD n zM) (us.getD n zM)).isSome,((n+1:Nat):Int),N1,T1,a0,ts,v0,v1):=by
   show YDk _ _=YDk _ _
   rw[Yaw]
   simp only[YcW,ltI hlt,cond_true,YIf,inc hlt hm]
   rw[chkT _ (by omega),chkT _ (by omega),r1,YC5]
  rw[e1,Yb8 (l:=us) (d:=zM) hlt,hs]
  simp only[tsM]
  cases hx:tmM (YDt N T) (ts.getD n zM).1 (ts.getD n zM) (us.getD n zM)with
  |none=>
   refine⟨N1,T1,?_,r2,by omega,fun σ' h=>by cases h⟩
   show YDk _ _=_
   rw[Yaw]
   simp only[YcW,Option.isSome_none,cond_false]
   simp
  |some σ1=>
   obtain⟨N',T',q1,q2,q3,q4⟩:=ih (n+1) (by omega) N1 T1 r2 (by omega)
   grind
def tsL(σ:Asg Term)(ts us:List Term):Option (Asg Term):=bif !decide ((ts.length:Int)=(us.length:Int))then none else tsM σ (pT ts) us
theorem rAt{N:List ByteArray}{T:List Term}(g:GB N T)(a0:ByteArray)(ts us:List Term)(ht:SzT ts)(hu:SzT us)(hN:N.length+ts.length<=maxEl):
  ∃N' T',q129 loO N T a0 ts us=some (N',T',(tsL (YDt N T) ts us).isSome)/\GB N' T'/\N'.length<=N.length+ts.length/\ ∀σ',tsL (YDt N T) ts us=some σ'->YDt N' T'=σ':=by
 unfold q129 tsL
 by_cases h:(ts.length:Int)=(us.length:Int)
 ·obtain⟨N',T',q1,q2,q3,q4⟩:=YCM a0 ts us [] [] (by omega) (by omega) ht hu us.length 0 (by omega) N T g (by omega)
  grind
 grind
end
end Go.Abs.G47
namespace Go.Abs.G47
open Go Go.Abs
noncomputable section
def vT(v:ByteArray):Term:=(v,0,0,nul0)
end
end Go.Abs.G47
namespace Go.Abs.G47
open Go Go.Abs
noncomputable section
theorem YhG{v:Int×Int×ByteArray}(h:vB v=true):v.2.2.size<=200:=by
 obtain⟨a,b,c⟩:=v
 unfold vB q6 at h
 by_cases h0:a=0<;>by_cases h1:a=1<;>by_cases h2:a=2<;>by_cases h3:a=3<;>by_cases h4:b=0<;>by_cases h5:1<=b<;>simp[h0,h1,h2,h3,h4,h5]at h<;>first| (subst h;exact YH0 _)|grind|omega
theorem Ypt{t:Term}(h:YDN t=true):t.2.2.2.size<=200:=by
 unfold YDN at h
 by_cases h0:t.1=nul0
 ·simp only[h0,decide_true,YIb,cond_false]at h
  exact YhG h
 ·simp only[h0,decide_false,YIc,cond_true,YIa,decide_eq_true_eq]at h
  rw[h.2.2.2.1];trivial
structure Wf(hd:List ByteArray)(l:List Atom):Prop where
 len:l.length<=6
 ne:l≠ []
 nm: ∀a∈l,YDy a.1=true
 tm: ∀a∈l,∀t∈a.2,YDN t=true
 hd: ∀n,n<hd.length->hd.getD n nul0∈YDx [] l/\hd.getD n nul0∉hd.take n
theorem Wf.sz{hd:List ByteArray}{l:List Atom}(h:Wf hd l): ∀a∈l,SzT a.2:=fun a ha t ht=>by
 have:=Ypt (h.tm a ha t ht)
 have:maxEl=1073741824:=rfl
 omega
theorem rGet{N:List ByteArray}{T:List Term}(hl:N.length=T.length)(k:ByteArray)(hN:N.length<=maxEl):q131 loO N T k=some ((YDt N T k).getD zM):=by
 unfold q131 YDt
 rw[Ybo _ _ hN,YC5]
 rcases YhE N k with⟨m,h1,h2,h3⟩| ⟨h1,h2⟩
 ·have e0:decide ((0:Int)<=(m:Int))=true:=by simp
  have e1:decide ((m:Int)<0)=false:=by simp
  rw[h1,e0,e1,cond_false,cond_true,chkT _ (by omega)]
  rfl
 simp_all
end
end Go.Abs.G47
namespace Go.Abs.G47
open Go Go.Abs
noncomputable section
def cT(v:Val):Term:=(nul0,v)
def cA(σ:Asg Val):Asg Term:=fun k=>(σ k).map cT
def dA(N:List ByteArray)(T:List Term):Asg Val:=fun k=>(YDt N T k).map (·.2)
theorem cT_inj{v w:Val}:cT v=cT w↔v=w:=⟨fun h=>(Prod.mk.inj h).2,fun h=>by rw[h]⟩
theorem YCN(σ:Asg Val)(x:ByteArray)(u:Val):upd (cA σ) x (cT u)=cA (upd σ x u):=by
 funext k
 unfold upd cA
 grind
theorem YCO(σ:Asg Val)(t:Term)(u:Val):tmM (cA σ) t.1 t (cT u)=(tmM σ t.1 t.2 u).map cA:=by
 unfold tmM
 by_cases h0:t.1=nul0
 ·rw[if_pos h0,if_pos h0]
  have:t=cT t.2:=by obtain⟨t0,t1⟩:=t;unfold cT;simp_all
  by_cases hc:t.2=u
  ·grind
  ·rw[if_neg hc,if_neg (fun h=>hc (cT_inj.1 (this.symm.trans h)))];rfl
 ·rw[if_neg h0,if_neg h0]
  cases hs:σ t.1 with
  |some w=>
   have:cA σ t.1=some (cT w):=by unfold cA;simp_all
   rw[this]
   simp only
   by_cases hc:w=u
   ·simp_all
   ·rw[if_neg hc,if_neg (fun h=>hc (cT_inj.1 h))];rfl
  |none=>
   have:cA σ t.1=none:=by unfold cA;simp_all
   rw[this]
   simp only[YCN,YH4]
theorem Ypu: ∀(ts:List Term) (us:Vals) (σ:Asg Val),tsM (cA σ) (pT ts) (us.map cT)=(tsM σ (pV ts) us).map cA
 | [],us,σ=>rfl
 |t::ts,[],σ=>rfl
 |t::ts,u::us,σ=>by
  show(tmM (cA σ) t.1 t (cT u)).bind (fun σ'=>tsM σ' (pT ts) (us.map cT))=Option.map cA ((tmM σ t.1 t.2 u).bind fun σ'=>tsM σ' (pV ts) us)
  rw[YCO]
  cases tmM σ t.1 t.2 u with
  |none=>rfl
  |some σ1=>exact Ypu ts us σ1
theorem YCP{N:List ByteArray}{T:List Term}{σ:Asg Val}(h:YDt N T=cA σ):dA N T=σ:=by
 funext k
 unfold dA
 rw[h]
 unfold cA
 cases σ k<;>rfl
theorem YG1(r0:Int)(us:Vals)(h:us.length<=maxEl):q123 loO r0 us=some (us.map cT):=by
 unfold q123
 have:Yhc loO (0,r0,us,[])=some (us.map cT):=by
  refine Yau (st:=fun n=>((n:Int),r0,us,(us.take n).map cT)) (N:=us.length) rfl ?_ (fun n hn=> ?_)
  ·simp only[YeD,nlI,cond_false,YHz]
  ·simp only[YeD,ltI hn,cond_true,inc hn h,YIf]
   rw[chkT _ (by omega),chkT _ (by grind),Ybc (d:=zV) hn,List.map_append]
   rfl
 simp_all
abbrev RWay:=List Int×List ByteArray×List Term
def fWy(w:RWay):Way:=(w.1,dA w.2.1 w.2.2)
structure GW(n:Nat)(w:RWay):Prop where
 gb:GB w.2.1 w.2.2
 ca:YDt w.2.1 w.2.2=cA (dA w.2.1 w.2.2)
 ln:w.2.1.length<=n
abbrev WRec:=List Tabl×List Atom×List Int×List ByteArray×List Term->Option (List RWay)
theorem YCQ(rec:WRec)(db:List Tabl)(a:Atom)(rest:List Atom){rs:List Int}{N:List ByteArray}{T:List Term}{m:Nat}(g:GW m (rs,N,T))(tn:ByteArray)(ta:List ByteArray)(R:Rws)(hrl:R.length<=6)
  (har: ∀row∈R,row.2.length=a.2.length/\ ∀v∈row.2,v.2.2.size<=maxEl) (hsz:SzT a.2) (hm:m+a.2.length<=maxEl) (hrs:rs.length<=1000)
  {L:List (List Term×Rws)} {B:Nat} (hB:6*B+6<=maxEl) (hLB: ∀σ r,(wyM L σ r).length<=B)
  (hrec: ∀id N T,GW (m+a.2.length) (rs++[id],N,T)-> ∃ws,rec (db,rest,rs++[id],N,T)=some ws/\ws.map fWy=wyM L (dA N T) (rs++[id])/\ ∀w∈ws,GW maxEl w):
  ∀(k n:Nat),n+k=R.length-> ∀out:List RWay,out.length<=n*B->(∀w∈out,GW maxEl w)-> ∃out',YcY loO rec (a::rest,(n:Int),db,rs,N,T,tn,ta,R,out)=some out'/\
   out'.map fWy=out.map fWy++((R.drop n).flatMap fun row=>match tsM (dA N T) (pV a.2) row.2 with|some σ'=>wyM L σ' (rs++[row.1])|none=>[])/\ ∀w∈out',GW maxEl w:=by
 have hM:maxEl=1073741824:=rfl
 intro k
 induction k with
 |zero=>
  intro n hn out ho hg
  have e:n=R.length:=by omega
  subst e
  refine⟨out,?_,by simp,hg⟩
  show YDk _ _=_
  rw[Yaw]
  simp only[Yb5,nlI,cond_false]
 |succ k ih=>
  intro n hn out ho hg
  have hlt:n<R.length:=by omega
  have hnB:(n+1)*B<=6*B:=YHY _ (by omega)
  have hnB':(n+1)*B=n*B+B:=by grind
  rw[Yb8 (d:=zR) hlt,List.flatMap_cons]
  obtain⟨hr1,hr2⟩:=har _ (Yaj (d:=zR) hlt)
  generalize hq:R.getD n zR=row at*
  have nx:YIl .i64 ((n:Int)+1)=((n+1:Nat):Int):=inc hlt (by omega)
  have step: ∀s',Yb5 loO rec (a::rest,(n:Int),db,rs,N,T,tn,ta,R,out)=s'->YcY loO rec (a::rest,(n:Int),db,rs,N,T,tn,ta,R,out)=(match s' with|some (.inl s)=>YcY loO rec s|some (.inr x)=>some x|none=>none):=by
   intro s' hs;subst hs
   show YDk _ _=_
   rw[Yaw]
   rcases Yb5 loO rec (a::rest,(n:Int),db,rs,N,T,tn,ta,R,out)with _| (_|_)<;>rfl
  have hal:=g.ln
  simp only at hal
  obtain⟨N',T',q1,q2,q3,q4⟩:=rAt (N:=N) (T:=T) g.gb a.1 a.2 (row.2.map cT) hsz (fun t ht=>by
   obtain⟨v,hv,rfl⟩:=YHx.1 ht;exact hr2 v hv) (by omega)
  have gca:=g.ca
  simp only at gca
  have ets:tsL (YDt N T) a.2 (row.2.map cT)=(tsM (dA N T) (pV a.2) row.2).map cA:=by
   unfold tsL
   rw[decide_eq_true (by simp_all)]
   simp only[YIb,cond_false]
   rw[gca,Ypu]
  rw[ets]at q1 q4
  simp only[Yb5,ltI hlt,cond_true,YIf,hq,nx]at step
  rw[chkT _ (by simp),chkT _ (by omega),YG1 _ _ (by omega),YC5]at step
  rw[show((a::rest).getD 0 (YIk #[],[]):Atom)=a from rfl,q1,YC5]at step
  cases hx:tsM (dA N T) (pV a.2) row.2 with
  |none=>
   rw[hx]at step
   simp only[Option.map_none,Option.isSome_none,cond_false]at step
   obtain⟨out',o1,o2,o3⟩:=ih (n+1) (by omega) out (by omega) hg
   simp_all
  |some σ1=>
   rw[hx]at step q4
   have e4:=q4 _ rfl
   have ed:=YCP e4
   simp only[YH4,Option.isSome_some,cond_true]at step
   rw[chkT _ (by grind),chkT _ (by omega),chkT _ (by omega),chkT _ (by grind),show List.drop 1 (List.take (a::rest).length (a::rest))=rest by simp]at step
   obtain⟨ws,w1,w2,w3⟩:=hrec row.1 N' T' ⟨q2,by simp_all,by grind⟩
   rw[ed]at w2
   have hwl:ws.length<=B:=by grind
   rw[w1,YC5,chkT _ (by omega)]at step
   obtain⟨out',o1,o2,o3⟩:=ih (n+1) (by omega) (out++ws) (by grind) (fun w hw=>by
    grind)
   simp_all
theorem Ypv(db:List Tabl)(hdb:db.length<=maxEl)(j:Nat): ∀(l:List Atom),l.length<=6->(∀a∈l,0<=tabI db a.1)->(∀a∈l,(tabO db a.1).2.2.length<=6)->(∀a∈l,∀row∈ (tabO db a.1).2.2,row.2.length=a.2.length/\ ∀v∈row.2,v.2.2.size<=maxEl)->(∀a∈l,SzT a.2)->
  ∀(m:Nat) (rs:List Int) (N:List ByteArray) (T:List Term),GW m (rs,N,T)->m+sumT l<=maxEl->rs.length+l.length<=1000-> ∃ws,Ya9 loO (l.length+1+j) (db,l,rs,N,T)=some ws/\ws.map fWy=wyM (PR l (tbs db l)) (dA N T) rs/\ ∀w∈ws,GW maxEl w
 | [],_,_,_,_,_,m,rs,N,T,g,hm,_=>by
   refine⟨[(rs,N,T)],?_,rfl,fun w hw=> ?_⟩
   ·rw[show([]:List Atom).length+1+j=j+1 by grind];rfl
   ·rw[YHF]at hw;subst hw;exact⟨g.gb,g.ca,by have:=g.ln;omega⟩
 |a::rest,h6,h0,hr,har,hsz,m,rs,N,T,g,hm,hrs=>by
  have hM:maxEl=1073741824:=rfl
  have es:sumT (a::rest)=a.2.length+sumT rest:=rfl
  have ha:=YHs (a:=a) (l:=rest)
  rw[YHD]at h6 hrs
  have hwy: ∀σ r,(wyM (PR rest (tbs db rest)) σ r).length<=46656:=fun σ r=>by
   refine YHV (YhC _ _ _ (fun q hq=> ?_)) ?_
   ·obtain⟨n,hn,rfl⟩:=YhD (by unfold tbs;simp) hq
    have:(tbs db rest).getD n zT=tabO db (rest.getD n zA).1:=by
     unfold tbs;simp_all
    grind
   ·refine YHV (Nat.pow_le_pow_right (by omega) (show _<=6 from ?_)) (by decide)
    unfold PR tbs;grind
  have ht:=h0 a ha
  have eO:tabO db a.1=db.getD (tabI db a.1).toNat zT:=by unfold tabO;simp_all
  rw[show(a::rest).length+1+j=(rest.length+1+j)+1 by grind]
  obtain⟨out,o1,o2,o3⟩:=YCQ (Ya9 loO (rest.length+1+j)) db a rest g (tabO db a.1).1 (tabO db a.1).2.1 (tabO db a.1).2.2 (hr a ha) (har a ha) (hsz a ha) (by omega) (by omega) (B:=46656) (by omega) hwy
   (fun id N T g'=>Ypv db hdb j rest (by omega) (fun b hb=>h0 b (YHv _ hb)) (fun b hb=>hr b (YHv _ hb)) (fun b hb=>har b (YHv _ hb)) (fun b hb=>hsz b (YHv _ hb)) (m+a.2.length) (rs++[id]) N T g' (by omega) (by grind))
   (tabO db a.1).2.2.length 0 (by omega) [] (YH0 _) (fun _ h=>nomatch h)
  rw[YHG]at o2
  rw[show((0:Nat):Int)=0 from rfl]at o1
  refine⟨out,?_,o2,o3⟩
  show YeE loO (Ya9 loO (rest.length+1+j)) db (a::rest) rs N T=_
  unfold YeE
  have e0:decide (((a::rest).length:Int)=0)=false:=by rfl
  rw[e0,cond_false,chkT _ (by simp)]
  show YH2 (q109 loO db a.1) _=_
  have hlt:tabI db a.1< (db.length:Int):=by
   rcases YbK (p:=tabP db a.1) (k:=db.length) (n:=0)with⟨x,_,h2,_,h4⟩| ⟨h1,_⟩
   ·have:tabI db a.1=(x:Int):=h4
    omega
   ·have:tabI db a.1= -1:=h1
    omega
  rw[rTab db a.1 hdb,YC5,chkT _ (by omega),<-eO,o1,YC5]
theorem Ypw: ∀n x y,Ya9 loO n x=some y->Ya9 loO (n+1) x=some y
 |0,_,_,h=>by cases h
 |n+1,x,y,h=>by
  have ih:=Ypw n
  have h':YeE loO (Ya9 loO n) x.1 x.2.1 x.2.2.1 x.2.2.2.1 x.2.2.2.2=some y:=h
  refine YE6 h' (fun h=>h) fun h=>chkm h fun h=>YF6 h fun _ h=>chkm h fun h=>YF7 h (fun z hz=> ?_) fun _ h=>h
  refine YoX (fun s q hs=> ?_) hz
  exact YE6 hs (fun h=>chkm h fun h=>chkm h fun h=>YF6 h fun _ h=>YF6 h fun _ h=>YE6 h (fun h=>chkm h fun h=>chkm h fun h=>chkm h fun h=>chkm h fun h=>YF7 h (ih _) fun _ h=>h) fun h=>h) fun h=>h
structure ROk(db:List Tabl)(l:List Atom):Prop where
 ix: ∀a∈l,0<=tabI db a.1
 sz: ∀a∈l,SzT a.2
theorem Ypx(db:List Tabl){l:List Atom}{n:Nat}(hn:n<l.length):(tbs db l).getD n zT=tabO db (l.getD n zA).1:=by
 unfold tbs;simp_all
theorem QOk.at{db:List Tabl}{hd:List ByteArray}{l:List Atom}(h:QOk db hd l){a:Atom}(ha:a∈l):(tabO db a.1).2.2.length<=6/\ ∀row∈ (tabO db a.1).2.2,row.2.length=a.2.length/\ ∀v∈row.2,v.2.2.size<=maxEl:=by
 have hM:maxEl=1073741824:=rfl
 obtain⟨n,hn,e⟩:=YHM.1 ha
 have e':l.getD n zA=a:=by simp_all
 have h1:=h.row n hn
 have h2:=h.tb.ar n hn
 have h3:=h.val n hn
 rw[Ypx db hn,e']at h1 h2 h3
 exact⟨h1,fun row hr=>⟨h2 row hr,fun v hv=>by have:=YhG (h3 row hr v hv).1;omega⟩⟩
theorem YHj{db:List Tabl}{hd:List ByteArray}{l:List Atom}(h:QOk db hd l)(r:ROk db l): ∃ws,q130 loO db l [] [] []=some ws/\ws.map fWy=YEr db l/\ ∀w∈ws,w.2.1.length=w.2.2.length/\w.2.1.length<=maxEl:=by
 obtain⟨ws,h1,h2,h3⟩:=Ypv db h.dn 0 l h.tb.sm r.ix (fun a ha=>(h.at ha).1) (fun a ha=>(h.at ha).2) r.sz 0 [] [] [] ⟨⟨rfl,fun t ht=>nomatch ht⟩,by rfl,YHR _⟩ (by have:=h.sm;omega) (by have:=h.tb.sm;grind)
 exact⟨ws,Ygc Ypw (n:=0) (by rw[YHX];exact h1),h2,fun w hw=>⟨(h3 w hw).gb.len,(h3 w hw).ln⟩⟩
end
end Go.Abs.G47
namespace Go.Abs.G47
open Go Go.Abs
noncomputable section
theorem YGE(hd:List ByteArray)(l:List Atom)(rs:List Int){N:List ByteArray}{T:List Term}(hl:N.length=T.length)(hN:N.length<=maxEl)(hh:hd.length<=maxEl):q132 loO hd l rs N T=some (ansM hd (dA N T)):=by
 unfold q132
 have:Yhe loO (0,hd,l,rs,N,T,[])=some (ansM hd (dA N T)):=by
  refine Yau (st:=fun n=>((n:Int),hd,l,rs,N,T,ansM (hd.take n) (dA N T))) (N:=hd.length) rfl ?_ (fun n hn=> ?_)
  ·simp only[YeF,nlI,cond_false,YHz]
  ·simp only[YeF,ltI hn,cond_true,inc hn hh,YIf]
   rw[chkT _ (by omega),rGet hl _ hN,YC5,chkT _ (by unfold ansM;grind),Ybc (d:=nul0) hn]
   have: ∀k,((YDt N T k).getD zM).2=(dA N T k).getD zV:=fun k=>by unfold dA;cases YDt N T k<;>rfl
   rw[this]
   unfold ansM
   simp
 simp_all
theorem rIn(L:List Vals)(v:Vals)(hL:L.length<=maxEl)(hs: ∀x∈L,SzV x)(hv:SzV v):q135 loO L v=some (hasV L v):=by
 unfold q135
 have:Yhg loO (L,v,0)=some (YC7 (R:=Bool⊕Unit) (fun m=>bif decide (L.getD m []=v)then some (.inl true)else none) L.length 0 (.inr ())):=by
  refine Yak (fun n=>(L,v,(n:Int))) _ L.length _ rfl ?_ (fun n hn=> ?_)
  ·simp only[YeG,nlI,cond_false]
  ·simp only[YeG,ltI hn,cond_true,inc hn hL,YIf]
   rw[chkT _ (by omega),Yo3 _ _ (hs _ (Yaj hn)) hv,YC5]
   grind
 rw[this,YC5,YeN]
 have e:anyN (fun m=>decide (L.getD m []=v)) L.length 0=hasV L v:=YeT (fun x=>decide (x=v)) L []
 rw[e]
 cases hasV L v<;>rfl
theorem rIns{W:List RWay}{i:Int}{hd:List ByteArray}{l:List Atom}{x:Vals}(hx:SzV x): ∀(P Q:List Vals),(∀p∈P,SzV p)->(P.length+Q.length+1<=100000)->
  Yhh loO (W,i,(P.length:Int),hd,l,P.reverse++x::Q)=some (W,i,hd,l,insR P x Q)
 | [],Q,_,_=>by
   show YDk _ _=_
   rw[Yaw]
   rfl
 |y::P,Q,hP,hl=>by
  have ih:=rIns (W:=W) (i:=i) (hd:=hd) (l:=l) hx P (y::Q) (fun p hp=>hP p (YHv _ hp)) (by grind)
  show YDk _ _=_
  rw[Yaw]
  have hlen:((y::P).reverse++x::Q).length=P.length+Q.length+2:=by grind
  have e0:((y::P).length:Int)=((P.length+1:Nat):Int):=rfl
  have e1:decide ((0:Int)< ((P.length+1:Nat):Int))=true:=by simp
  have e2:YIl .i64 (((P.length+1:Nat):Int)-1)=(P.length:Int):=by rw[wr6 (by omega) (by omega)];omega
  have eL:(y::P).reverse++x::Q=P.reverse++y::x::Q:=by simp
  have g1:(P.reverse++y::x::Q).getD P.length []=y:=by
   simp
  have g2:(P.reverse++y::x::Q).getD (P.length+1) []=x:=by
   simp
  have hst:YeH loO (W,i,((y::P).length:Int),hd,l,(y::P).reverse++x::Q)=some (bif decide (cmpL x y<0)then .inl (W,i,(P.length:Int),hd,l,P.reverse++x::y::Q)else .inr (W,i,hd,l,P.reverse++y::x::Q)):=by
   rw[e0]
   rw[eL]at hlen⊢
   simp only[YeH,e1,cond_true,e2,YIf]
   rw[chkT _ (by omega),chkT _ (by omega),g1,g2,Yo2 _ _ hx (hP y (YHs ..)),YC5]
   cases decide (cmpL x y<0)with
   |false=>rfl
   |true=>
    rw[chkT _ (by omega),chkT _ (by omega),chkT _ (by omega),chkT _ (by grind)]
    simp
  rw[hst]
  simp only[insR]
  cases decide (cmpL x y<0)with
  |true=>exact ih
  |false=>simp
theorem YhH{a:Vals}(h:Ok a)(hl:a.length<=1000):SzV a:=by
 have hM:maxEl=1073741824:=rfl
 exact⟨by omega,fun v hv=>by have:=YhG (h v hv).1;omega⟩
theorem YCR{α β:Type}(f:α->β){L:List α}{n:Nat}{d:α}(h:n<L.length):(L.take (n+1)).map f=(L.take n).map f++[f (L.getD n d)]:=by
 rw[Ybc (d:=d) h,List.map_append];rfl
theorem YGa{db:List Tabl}{hd:List ByteArray}{l:List Atom}(h:QOk db hd l)(r:ROk db l)(hq:qI db hd l=0)(hw:(YEr db l).length<=10000):q136 loO db hd l=some (rowsR (anss db hd l),0):=by
 have hM:maxEl=1073741824:=rfl
 have hh:=h.hn
 unfold q136
 rw[rQ db hd l (by omega) h.sm,YC5,hq]
 simp
 obtain⟨ws,w1,w2,w3⟩:=YHj h r
 rw[w1,YC5]
 have hA:=h.all
 have ea:anss db hd l=ws.map fun w=>ansM hd (dA w.2.1 w.2.2):=by
  unfold anss;rw[<-w2,YHI];rfl
 have hl:ws.length<=10000:=by grind
 have e6:Yhi loO (ws,0,hd,l,[])=some (rowsR (anss db hd l)):=by
  rw[ea]at hA⊢
  refine Yau (st:=fun n=>(ws,(n:Int),hd,l,rowsR ((ws.take n).map fun w=>ansM hd (dA w.2.1 w.2.2)))) (N:=ws.length) rfl ?_ (fun n hn=> ?_)
  ·simp only[YeI,nlI,cond_false,YHz]
  ·obtain⟨g1,g2⟩:=w3 _ (Yaj (d:=([],[],[])) hn)
   have hsub: ∀x∈ (ws.take n).map (fun w=>ansM hd (dA w.2.1 w.2.2)),Ok x/\x.length=hd.length:=fun x hx=>by
    rw[List.map_take]at hx
    exact hA x (List.mem_of_mem_take hx)
   have hx:=hA _ (List.mem_map_of_mem (f:=fun w:RWay=>ansM hd (dA w.2.1 w.2.2)) (Yaj (d:=([],[],[])) hn))
   rw[YCR _ (d:=(([],[],[]):RWay)) hn,Yc3]
   have hlen:=Ye3 ((ws.take n).map fun w=>ansM hd (dA w.2.1 w.2.2))
   rw[YHC,List.length_take]at hlen
   simp only[YeI,ltI hn,cond_true,inc hn (show ws.length<=maxEl by omega),YIf]
   rw[chkT _ (by omega),YGE hd l _ g1 g2 (by omega),YC5]
   generalize hX:ansM hd (dA (ws.getD n ([],[],[])).2.1 (ws.getD n ([],[],[])).2.2)=x at*
   generalize hR:rowsR ((ws.take n).map fun w=>ansM hd (dA w.2.1 w.2.2))=R at*
   have hRs: ∀y∈R,SzV y:=fun y hy=>by
    rw[<-hR,rowsR_mem]at hy
    exact YhH (hsub y hy).1 (by grind)
   have hxs:SzV x:=YhH hx.1 (by omega)
   rw[rIn R x (by omega) hRs hxs,YC5]
   unfold YEU
   cases hasV R x with
   |true=>rfl
   |false=>
    simp only[cond_false]
    rw[chkT _ (by grind)]
    have ek:YIl .i64 (((R++[x]).length:Int)-1)=(R.reverse.length:Int):=by
     rw[wr6 (by simp) (by grind)];simp
    have:=rIns (W:=ws) (i:=(n:Int)) (hd:=hd) (l:=l) hxs R.reverse [] (fun p hp=>hRs p (List.mem_reverse.1 hp)) (by grind)
    rw[List.reverse_reverse]at this
    rw[ek,this,YC5]
    simp only[inc hn (show ws.length<=maxEl by omega)]
 rw[e6,YC5]
 have hrl:=Ye3 (anss db hd l)
 grind
theorem YG2(L:List Vals)(hl:L.length<=maxEl)(hs: ∀x∈L,SzV x):q137 loO L L=some true:=by
 unfold q137
 have:Yhj loO (L,L,0)=some (.inr ()):=by
  refine Yau (st:=fun n=>(L,L,(n:Int))) (N:=L.length) rfl ?_ (fun n hn=> ?_)
  ·simp only[YeJ,nlI,cond_false]
  ·simp only[YeJ,ltI hn,cond_true,inc hn hl,YIf]
   have:=hs _ (Yaj (d:=([]:Vals)) hn)
   rw[chkT _ (by omega),chkT _ (by omega),Yo3 _ _ this this,YC5,decide_eq_true rfl]
   rfl
 simp
 rw[this,YC5,YB8]
end
end Go.Abs.G47
namespace Go.Abs.G47
open Go Go.Abs
noncomputable section
abbrev zS:ByteArray:=nul0
theorem idx_no{l:List ByteArray}{v:ByteArray}:idxI l v<0↔v∉l:=by
 rw[<-decide_eq_true_iff (p:=idxI l v<0),YeS,Bool.not_eq_true',<-Bool.not_eq_true,inL_iff]
theorem Ypy{n N:Nat}(hn:n<N)(hN:N<=1073741824):YIl .i64 ((n:Int)+1)=((n+1:Nat):Int):=inc hn hN
theorem YCS(c:Int): ∃v,q117 loO c=some v/\goodV v:=by
 have g: ∀a b:Int,∀s:ByteArray,vB (a,b,s)=true->(decide (-9223372036854775808<=b)&&decide (b<=9223372036854775807))=true->goodV (a,b,s):=fun a b s h1 h2=>by
  simp at h2
  trivial
 have v0: ∀n:Int,vB (1,n,YIk #[])=true:=fun n=>by rfl
 unfold q117
 rw[chkT _ (by decide)]
 by_cases h0:c.tmod 12=0
 ·simp_all
 rw[decide_eq_false h0]
 by_cases h1:c.tmod 12=1
 ·simp_all
 rw[decide_eq_false h1]
 by_cases h2:c.tmod 12=2
 ·simp_all
 rw[decide_eq_false h2]
 by_cases h3:c.tmod 12=3
 ·exact⟨_,by rw[decide_eq_true h3];rfl,g _ _ _ (by rfl) (by decide)⟩
 rw[decide_eq_false h3]
 by_cases h4:c.tmod 12=4
 ·exact⟨_,by rw[decide_eq_true h4];rfl,g _ _ _ (by rfl) (by decide)⟩
 rw[decide_eq_false h4]
 by_cases h5:c.tmod 12=5
 ·exact⟨_,by rw[decide_eq_true h5];rfl,g _ _ _ (by rfl) (by decide)⟩
 rw[decide_eq_false h5]
 by_cases h6:c.tmod 12=6
 ·exact⟨_,by rw[decide_eq_true h6];rfl,g _ _ _ (by rfl) (by decide)⟩
 rw[decide_eq_false h6]
 by_cases h7:c.tmod 12=7
 ·exact⟨_,by rw[decide_eq_true h7];rfl,g _ _ _ (by rfl) (by decide)⟩
 rw[decide_eq_false h7]
 by_cases h8:c.tmod 12=8
 ·simp_all
 rw[decide_eq_false h8]
 by_cases h9:c.tmod 12=9
 ·exact⟨_,by rw[decide_eq_true h9];rfl,g _ _ _ (by rfl) (by decide)⟩
 rw[decide_eq_false h9]
 by_cases h10:c.tmod 12=10
 ·exact⟨_,by rw[decide_eq_true h10];rfl,g _ _ _ (by rfl) (by decide)⟩
 simp_all
def ofV(c:Int):Int×Int×ByteArray:=(q117 loO c).getD zV
theorem Yc4(c:Int):q117 loO c=some (ofV c)/\goodV (ofV c):=by
 obtain⟨v,h,g⟩:=YCS c
 have:ofV c=v:=by unfold ofV;simp_all
 simp_all
structure GT(nm:ByteArray)(attrs:List ByteArray)(rows:Rws):Prop where
 nm:YDy nm=true
 na:attrs.length<=16
 nr:rows.length<=1000
 at': ∀a∈attrs,YDy a=true
 nd:attrs.Nodup
 ids:((0:Int)::rows.map (·.1)).Pairwise (· < ·)
 len: ∀r∈rows,r.2.length=attrs.length
 ok: ∀r∈rows,∀v∈r.2,vB v=true
theorem Ypz{attrs:List ByteArray}(h:attrs.Nodup){n:Nat}(hn:n<attrs.length):attrs.getD n zS∉attrs.take n:=by
 intro hm
 rw[<-List.take_append_drop n attrs,List.nodup_append]at h
 refine h.2.2 _ hm _ ?_ rfl
 rw[YHP,YHm hn]
 exact List.mem_drop_iff_getElem.2 ⟨0,by omega,by simp⟩
theorem YCT{nm:ByteArray}{attrs:List ByteArray}{rows:Rws}(g:GT nm attrs rows):YDB nm attrs rows=0:=by
 have hA:anyN (fA attrs) attrs.length 0=false:=by
  rw[<-Bool.not_eq_true,Yb7]
  rintro⟨m,_,h2,h3⟩
  have hm:m<attrs.length:=by omega
  unfold fA at h3
  rw[g.at' _ (Yaj hm),YIb,Bool.false_or,decide_eq_true_eq]at h3
  have:=idx_no.2 (Ypz g.nd hm)
  grind
 have hR:YC7 (fV attrs rows) rows.length 0 (.inr ())= .inr ():=by
  refine YeL _ _ (fun m _ hm=> ?_)
  have hm:m<rows.length:=by omega
  have hmem:=Yaj (d:=zR) hm
  have hid:YEk rows m< (rows.getD m zR).1:=by
   have hp:=List.pairwise_iff_getElem.1 g.ids
   have e:(rows.getD m zR).1=((0:Int)::rows.map (·.1))[m+1]'(by simp_all):=by
    simp_all
   cases m with
   |zero=>rw[e];exact hp 0 1 (by simp) (by simp_all) (by omega)
   |succ k=>
    have e2:YEk rows (k+1)=((0:Int)::rows.map (·.1))[k+1]'(by grind):=by
     show(rows.getD k zR).1=_
     grind
    rw[e,e2];exact hp (k+1) (k+2) _ _ (by omega)
  unfold fV
  have hv:vsB (rows.getD m zR).2=true:=by
   unfold vsB
   rw[Bool.not_eq_true',<-Bool.not_eq_true,Yb7]
   rintro⟨k,_,h2,h3⟩
   rw[g.ok _ hmem _ (Yaj (by omega))]at h3
   cases h3
  rw[decide_eq_false (by omega),g.len _ hmem,decide_eq_true rfl,hv];rfl
 have h1:=g.na
 have h2:=g.nr
 unfold YDB
 rw[g.nm,decide_eq_false (by omega),decide_eq_false (by omega),hA,hR];rfl
abbrev nmL:List ByteArray:=[(YIk #[97]),(YIk #[98]),(YIk #[99]),(YIk #[100]),(YIk #[101]),(YIk #[102]),(YIk #[103]),(YIk #[104])]
def cellV(codes:List Int)(k:Nat):Int×Int×ByteArray:=if k<codes.length then ofV (codes.getD k 0)else ofV 0
def recR(n:Nat)(g:Int)(rows:List (List Int)):Rws:=tab rows.length fun i=>(1+(i:Int)*g,tab n (cellV (rows.getD i [])))
theorem YCU(n i:Nat)(a b:Int)(rows:List (List Int))(hi:i<rows.length)(hn:n<=5)(v4:ByteArray)(v5:List ByteArray)(v6:Rws)(t:ByteArray)(id:Int)(h3:List ByteArray)(h4:Rws):
  Yg6 loO ((n:Int),(i:Int),0,a,b,rows,v4,v5,v6,t,id,h3,h4,[])=some ((n:Int),(i:Int),a,b,rows,v4,v5,v6,t,id,h3,h4,tab n (cellV (rows.getD i []))):=by
 have hm:maxEl=1073741824:=rfl
 refine Yau (N:=n) (st:=fun k=>((n:Int),(i:Int),(k:Int),a,b,rows,v4,v5,v6,t,id,h3,h4,tab k (cellV (rows.getD i [])))) ?_ ?_ (fun k hk=> ?_)
 ·rfl
 ·simp[Yez]
 ·have e1:decide ((k:Int)< (n:Int))=true:=by simp_all
  have e2:=Ypy hk (by omega)
  simp only[Yez,e1,cond_true,e2,YIf]
  rw[chkT _ (by omega),<-Yb6]
  by_cases hc:k< (rows.getD i []).length
  ·have ec:cellV (rows.getD i []) k=ofV ((rows.getD i []).getD k 0):=by unfold cellV;simp_all
   rw[decide_eq_true (by omega:(k:Int)< ((rows.getD i []).length:Int)),cond_true,chkT _ (by omega),chkT _ (by omega),(Yc4 _).1,YC5,ec,chkT _ (by rw[YaB];grind)]
  ·have ec:cellV (rows.getD i []) k=ofV 0:=by unfold cellV;simp_all
   rw[decide_eq_false (by omega: ¬ (k:Int)< ((rows.getD i []).length:Int)),cond_false,(Yc4 _).1,YC5,ec,chkT _ (by rw[YaB];grind)]
theorem YCV(n:Nat)(a b:Int)(rows:List (List Int))(hr:rows.length<=8)(hn:n<=5)(hb0:0<=b):q118 loO a b rows (n:Int)=some (YIk #[114],nmL.take n,recR n (1+b.tmod 3) rows):=by
 have hm:maxEl=1073741824:=rfl
 have hg0:0<=b.tmod 3:=Int.tmod_nonneg _ hb0
 have hg1:b.tmod 3<3:=Int.tmod_lt_of_pos _ (by decide)
 have hL:Yg7 loO ((n:Int),0,a,b,rows,zS,[],[],YIk #[114],nmL.take n,[])=some (zS,[],[],YIk #[114],nmL.take n,recR n (1+b.tmod 3) rows):=by
  refine Yau (N:=rows.length) (st:=fun i=>((n:Int),(i:Int),a,b,rows,zS,[],[],YIk #[114],nmL.take n,tab i fun i=>(1+(i:Int)*(1+b.tmod 3),tab n (cellV (rows.getD i []))))) ?_ ?_ (fun i hi=> ?_)
  ·rfl
  ·simp[YeA,recR]
  ·have e1:decide ((i:Int)< (rows.length:Int))=true:=by simp_all
   have e2:=Ypy hi (by omega)
   have hprod:(i:Int)*(1+b.tmod 3)<=24/\0<=(i:Int)*(1+b.tmod 3):=by
    refine⟨?_,Int.mul_nonneg (by omega) (by omega)⟩
    have h1:(i:Int)*(1+b.tmod 3)<=(i:Int)*3:=Int.mul_le_mul_of_nonneg_left (by omega) (by omega)
    omega
   have e3:YIl .i64 (1+b.tmod 3)=1+b.tmod 3:=wr6 (by omega) (by omega)
   have e4:YIl .i64 ((i:Int)*(1+b.tmod 3))=(i:Int)*(1+b.tmod 3):=wr6 (by omega) (by omega)
   have e5:YIl .i64 (1+(i:Int)*(1+b.tmod 3))=1+(i:Int)*(1+b.tmod 3):=wr6 (by omega) (by omega)
   have e6:YIl .i64 (b.tmod 3)=b.tmod 3:=wr6 (by omega) (by omega)
   simp only[YeA,e1,cond_true,e3,e4,e5,e6]
   rw[chkT _ (by decide),YCU n i a b rows hi hn,YC5,<-Yb6]
   simp only[e2]
   rw[chkT _ (by rw[YaB];grind)]
 unfold q118
 have e0:(nmL.take (n:Int).toNat).drop 0=nmL.take n:=by rfl
 rw[chkT _ (by grind)]
 rw[e0,chkT _ (by grind),hL,YC5]
theorem YhI{n:Nat}{g:Int}{rows:List (List Int)}{r:Int×Vals}(h:r∈recR n g rows):r.2.length=n/\ ∀v∈r.2,goodV v:=by
 obtain⟨i,hi,rfl⟩:=YHx.1 h
 refine⟨YaB _ _,fun v hv=> ?_⟩
 obtain⟨k,hk,rfl⟩:=YHx.1 hv
 unfold cellV
 split
 ·exact(Yc4 _).2
 trivial
theorem YCW(nm:ByteArray)(hnm:YDy nm=true)(n:Nat)(g:Int)(rows:List (List Int))(hr:rows.length<=8)(hn:n<=5)(hg:1<=g):GT nm (nmL.take n) (recR n g rows):=by
 have hnl:(nmL.take n).length=n:=by grind
 have nB: ∀a∈nmL,YDy a=true:=by
  trivial
 refine⟨hnm,by omega,by unfold recR;rw[YaB];omega,fun a ha=>nB a (List.mem_of_mem_take ha),List.Nodup.sublist (List.take_sublist _ _) (by decide),?_,fun r hr=>by rw[(YhI hr).1,hnl],fun r hr v hv=>((YhI hr).2 v hv).1⟩
 have e:(recR n g rows).map (·.1)=tab rows.length fun i=>1+(i:Int)*g:=by unfold recR tab;simp
 rw[e,List.pairwise_cons]
 constructor
 ·intro x hx
  obtain⟨i,hi,rfl⟩:=YHx.1 hx
  have:=Int.mul_nonneg (show(0:Int)<=(i:Int) by omega) (show 0<=g by omega)
  omega
 ·unfold tab
  rw[List.pairwise_map]
  refine List.Pairwise.imp (fun{a b} h=> ?_) List.pairwise_lt_range
  have h1:((a:Int)+1)*g<=(b:Int)*g:=Int.mul_le_mul_of_nonneg_right (by omega) (by omega)
  grind
abbrev nm3:List ByteArray:=[(YIk #[114]),(YIk #[115]),(YIk #[116])]
def drT(d:List (Int×Int×List (List Int)))(i:Nat):Tabl:=
 (nm3.getD i nul0,nmL.take (((d.getD i (0,0,[])).1.tmod 4).tmod 6).toNat,recR (((d.getD i (0,0,[])).1.tmod 4).tmod 6).toNat (1+(d.getD i (0,0,[])).2.1.tmod 3) (d.getD i (0,0,[])).2.2)
structure DOk(db:List Tabl):Prop where
 len:db.length<=3
 gt: ∀t∈db,GT t.1 t.2.1 t.2.2
 na: ∀t∈db,t.2.1.length<=5
 rs: ∀t∈db,t.2.2.length<=6
 gv: ∀t∈db,∀r∈t.2.2,∀v∈r.2,goodV v
 nd:(db.map (·.1)).Nodup
theorem YpA{n:Int}(h:0<=n)(h':n<=255): ∃m:Nat,(n.tmod 4).tmod 6=(m:Int)/\m<=3/\YIl .i64 ((n.tmod 4).tmod 6)=(m:Int):=by
 have h1:=Int.tmod_nonneg 4 h
 have h2:n.tmod 4<4:=Int.tmod_lt_of_pos _ (by decide)
 have h3:(n.tmod 4).tmod 6=n.tmod 4:=Int.tmod_eq_of_lt h1 (by omega)
 refine⟨(n.tmod 4).toNat,by omega,by omega,?_⟩
 rw[h3,wr6 (by omega) (by omega)];omega
theorem YG3(a b:Int)(rows:List (List Int))(ha:0<=a)(ha':a<=255)(hb:0<=b):q119 loO (a.tmod 4) b rows 6=some (bif decide ((6:Int)< (rows.length:Int))then(nul0,[],[],false)else((YIk #[114]),nmL.take ((a.tmod 4).tmod 6).toNat,recR ((a.tmod 4).tmod 6).toNat (1+b.tmod 3) rows,true)):=by
 unfold q119
 by_cases h6:(6:Int)< (rows.length:Int)
 ·simp_all
 ·rw[decide_eq_false h6,cond_false,cond_false,chkT _ (by decide)]
  obtain⟨m,h1,h2,h3⟩:=YpA ha ha'
  rw[h3,YCV m _ b rows (by omega) (by omega) hb,YC5,h1]
  rfl
theorem YG4(d:List (Int×Int×List (List Int)))(hd: ∀x∈d,0<=x.1/\x.1<=255/\0<=x.2.1): ∃db ok,q120 loO d=some (db,ok)/\DOk db:=by
 have hm:maxEl=1073741824:=rfl
 unfold q120
 have e3:Yg8 loO (d,0,[],[])=some (YC7 (R:=(Bool×List Tabl)⊕ (List (Int×Int×List (List Int))×List Tabl×List Tabl)) (fun m=>bif decide ((6:Int)< ((d.getD m (0,0,[])).2.2.length:Int))then some (.inl (false,[]))else none) (min d.length 3) 0 (.inr (d,[],tab (min d.length 3) (drT d)))):=by
  refine Yak (fun n=>(d,(n:Int),[],tab n (drT d))) _ (min d.length 3) _ rfl ?_ (fun n hn=> ?_)
  ·by_cases h:d.length<=3
   ·rw[Nat.min_eq_left h]
    simp only[YcS,nlI,cond_false]
   ·rw[Nat.min_eq_right (by omega)]
    have e:decide (((3:Nat):Int)< (d.length:Int))=true:=by grind
    have e':decide (((3:Nat):Int)<3)=false:=rfl
    simp only[YcS,e,e',cond_true,cond_false]
  ·have h1:decide ((n:Int)< (d.length:Int))=true:=by grind
   have h2:decide ((n:Int)<3)=true:=by grind
   obtain⟨p1,p2,p3⟩:=hd _ (Yaj (d:=(0,0,[])) (show n<d.length by omega))
   simp only[YcS,h1,h2,cond_true,YIf]
   rw[chkT _ (by omega),chkT _ (by decide),chkT _ (by omega),chkT _ (by omega),YG3 _ _ _ p1 p2 p3,YC5]
   have e2:YIl .i64 ((n:Int)+1)=((n+1:Nat):Int):=by rw[wr6 (by omega) (by omega)];omega
   by_cases h6:(6:Int)< ((d.getD n (0,0,[])).2.2.length:Int)
   ·simp_all
   ·rw[decide_eq_false h6]
    simp only[cond_false,YIb]
    rw[chkT _ (by simp_all),chkT _ (by rw[YaB];grind),e2,<-Yb6]
    rfl
 rw[e3,YC5]
 rcases Ybb (f:=fun m=>bif decide ((6:Int)< ((d.getD m (0,0,[])).2.2.length:Int))then some (.inl (false,[]))else none) (r0:=(.inr (d,[],tab (min d.length 3) (drT d)):(Bool×List Tabl)⊕ (List (Int×Int×List (List Int))×List Tabl×List Tabl))) (min d.length 3) 0 with⟨m,r,g1,g2,g3,g4⟩| ⟨g1,g2⟩
 ·rw[g4]
  cases hc:decide ((6:Int)< ((d.getD m (0,0,[])).2.2.length:Int))with
  |false=>grind
  |true=>
   rw[hc]at g3;injection g3 with g3;subst g3
   exact⟨[],false,rfl,YH0 _,(fun t h=>nomatch h),(fun t h=>nomatch h),(fun t h=>nomatch h),(fun t h=>nomatch h),List.nodup_nil⟩
 ·rw[g1]
  refine⟨tab (min d.length 3) (drT d),decide ((d.length:Int)<=3),rfl,?_⟩
  have hN:min d.length 3<=d.length/\min d.length 3<=3:=⟨Nat.min_le_left ..,Nat.min_le_right ..⟩
  generalize min d.length 3=N at*
  have hall: ∀i,i<N-> ∃n:Nat,n<=3/\ (drT d i)=(nm3.getD i nul0,nmL.take n,recR n (1+(d.getD i (0,0,[])).2.1.tmod 3) (d.getD i (0,0,[])).2.2)/\ (d.getD i (0,0,[])).2.2.length<=6/\1<=1+(d.getD i (0,0,[])).2.1.tmod 3:=fun i hi=>by
   obtain⟨p1,p2,p3⟩:=hd _ (Yaj (d:=(0,0,[])) (show i<d.length by omega))
   obtain⟨m,q1,q2,_⟩:=YpA p1 p2
   refine⟨m,q2,by unfold drT;simp_all,?_,by grind⟩
   grind
  have hn3: ∀i,i<3->YDy (nm3.getD i nul0)=true:=fun i hi=>YHB.1 (show nm3.all YDy=true by rfl) _ (Yaj hi)
  have hmem: ∀t∈tab N (drT d),∃i,i<N/\t=drT d i:=fun t ht=>by
   unfold tab at ht
   grind
  refine⟨by rw[YaB];omega,fun t ht=> ?_,fun t ht=> ?_,fun t ht=> ?_,fun t ht r hr v hv=> ?_,?_⟩
  ·obtain⟨i,hi,rfl⟩:=hmem t ht
   obtain⟨n,h1,h2,h3,h4⟩:=hall i hi
   rw[h2]
   exact YCW _ (hn3 i (by omega)) n _ _ (by omega) (by omega) h4
  ·grind
  ·obtain⟨i,hi,rfl⟩:=hmem t ht
   obtain⟨n,h1,h2,h3,h4⟩:=hall i hi
   rw[h2]
   show(recR n _ _).length<=6
   unfold recR;rw[YaB];exact h3
  ·obtain⟨i,hi,rfl⟩:=hmem t ht
   obtain⟨n,h1,h2,h3,h4⟩:=hall i hi
   rw[h2]at hr
   exact(YhI hr).2 v hv
  ·have e:(tab N (drT d)).map (·.1)=nm3.take N:=by
    unfold tab
    rw[YHI]
    match N,hN.2 with
    |0,_=>rfl
    |1,_=>rfl
    |2,_=>rfl
    |3,_=>rfl
   rw[e]
   exact List.Nodup.sublist (List.take_sublist _ _) (by decide)
theorem YCX{l:List ByteArray}(h:l.Nodup){i j:Nat}(hi:i<l.length)(hj:j<l.length)(e:l[i]=l[j]):i=j:=by
 have h:=List.pairwise_iff_getElem.1 h
 grind
theorem DOk.get{db:List Tabl}(h:DOk db){n:Nat}(hn:n<db.length):tabI db (db.getD n zT).1=(n:Int):=by
 rcases YbK (p:=tabP db (db.getD n zT).1) (k:=db.length) (n:=0)with⟨m,_,h2,h3,h4⟩| ⟨h1,h2⟩
 ·have e:(db.getD m zT).1=(db.getD n zT).1:=of_decide_eq_true h3
  have hm:m<db.length:=by omega
  have:m=n:=YCX h.nd (by simp_all) (by simp_all) (by
   simp_all)
  have h4:tabI db (db.getD n zT).1=(m:Int):=h4
  omega
 ·have:=h2 n (YH0 _) (by omega)
  unfold tabP at this
  simp_all
theorem DOk.tab{db:List Tabl}(h:DOk db){n:Nat}(hn:n<db.length):tabO db (db.getD n zT).1=db.getD n zT:=by
 unfold tabO
 rw[h.get hn,decide_eq_true (by omega),cond_true,YIf]
theorem DOk.valid{db:List Tabl}(h:DOk db):dbI db=0:=by
 unfold dbI
 have hl:=h.len
 rw[decide_eq_false (by omega),cond_false,YeL _ _ (fun m _ hm=> ?_)]
 have hm':m<db.length:=by omega
 have g:=h.gt _ (Yaj (d:=zT) hm')
 unfold fD
 rw[YCT g]
 have hneg:decide (0<=tabI (db.take m) (db.getD m zT).1)=false:=by
  rw[decide_eq_false_iff_not]
  rcases YbK (p:=tabP (db.take m) (db.getD m zT).1) (k:=(db.take m).length) (n:=0)with⟨x,_,h2,h3,h4⟩| ⟨h1,h2⟩
  ·exfalso
   rw[YHX,List.length_take]at h2
   have e:((db.take m).getD x zT).1=(db.getD m zT).1:=of_decide_eq_true h3
   have a1:=h.get (n:=x) (by omega)
   have a2:=h.get hm'
   grind
  ·have h1:tabI (db.take m) (db.getD m zT).1= -1:=h1
   omega
 grind
abbrev nm4:List ByteArray:=[(YIk #[120]),(YIk #[121]),(YIk #[122]),(YIk #[119])]
def vn(c:Int):ByteArray:=nm4.getD (c.tmod 4).toNat nul0
theorem rVar(c:Int)(h:0<=c):q121 loO c=some (vn c):=by
 have h1:=Int.tmod_nonneg 4 h
 have h2:c.tmod 4<4:=Int.tmod_lt_of_pos _ (by decide)
 unfold q121
 rw[chkT _ (by decide),chkT _ ⟨h1,h2⟩]
 rfl
theorem YCY(c:Int)(h:0<=c):YDy (vn c)=true/\vn c≠nul0:=by
 have h2:c.tmod 4<4:=Int.tmod_lt_of_pos _ (by decide)
 unfold vn
 have hm:nm4.getD (c.tmod 4).toNat nul0∈nm4:=Yaj (show(c.tmod 4).toNat<4 by omega)
 refine⟨YHB.1 (show nm4.all YDy=true by rfl) _ hm,fun e=> ?_⟩
 grind
def cdT(c:Int):Term:=if 4<=c then cT (ofV (YIl .u8 (c-4)))else vT (vn c)
theorem YCZ(c:Int)(h:0<=c):YDN (cdT c)=true:=by
 unfold cdT YDN
 by_cases h4:4<=c
 ·rw[if_pos h4]
  have:=(Yc4 (YIl .u8 (c-4))).2.1
  trivial
 ·rw[if_neg h4]
  obtain⟨n1,n2⟩:=YCY c h
  simp only[vT,n1,n2,decide_false,decide_true,YIc,cond_true,YIe]
theorem rJ(c:Int)(hc:0<=c)(i k:Int)(db:List Tabl)(xh:List Int)(xa:List (Int×List Int))(v0:List ByteArray)(v1:List Atom)(t0:ByteArray)(t1:List ByteArray)(t2:Rws)(a9:ByteArray)(h6:List ByteArray)(h7:List Atom)(h8:List Term)(h:h8.length+1<=maxEl):
  YcT loO (i,k,c,db,xh,xa,v0,v1,t0,t1,t2,a9,h6,h7,h8)=some (i,k,db,xh,xa,v0,v1,t0,t1,t2,a9,h6,h7,h8++[cdT c]):=by
 simp only[YcT]
 rw[rVar c hc,YC5]
 unfold cdT
 by_cases h4:4<=c
 ·rw[decide_eq_true h4,cond_true,(Yc4 _).1,YC5,chkT _ (by trivial),if_pos h4];rfl
 ·rw[decide_eq_false h4,cond_false,chkT _ (by trivial),if_neg h4];rfl
def cdAt(codes:List Int)(k:Nat):Int:=if k<codes.length then codes.getD k 0 else 0
theorem YpB{codes:List Int}(h: ∀c∈codes,0<=c)(k:Nat):0<=cdAt codes k:=by
 unfold cdAt
 split
 ·simp_all
 trivial
def qAt(db:List Tabl)(xa:List (Int×List Int))(i:Nat):Atom:=
 let t:=db.getD ((xa.getD i (0,[])).1.tmod (db.length:Int)).toNat zT
 (t.1,tab t.2.1.length fun k=>cdT (cdAt (xa.getD i (0,[])).2 k))
structure GQ(db:List Tabl)(hd:List ByteArray)(l:List Atom):Prop where
 len:l.length<=3
 ne:1<=l.length
 at': ∀a∈l,∃n,n<db.length/\a.1=(db.getD n zT).1/\a.2.length=(db.getD n zT).2.1.length
 tm: ∀a∈l,∀t∈a.2,YDN t=true
 hl:hd.length<=4
 hv: ∀v∈hd,v∈YDx [] l
 nd:hd.Nodup
def hdF(vs:List ByteArray)(xh:List Int):Nat->List ByteArray
 |0=>[]
 |n+1=>bif inL vs (vn (xh.getD n 0))&& !inL (hdF vs xh n) (vn (xh.getD n 0))then hdF vs xh n++[vn (xh.getD n 0)]else hdF vs xh n
theorem YhJ(vs:List ByteArray)(xh:List Int): ∀n,(hdF vs xh n).length<=n/\ (∀v∈hdF vs xh n,v∈vs)/\ (hdF vs xh n).Nodup
 |0=>⟨YHR _,fun v h=>(by cases h),List.nodup_nil⟩
 |n+1=>by
  obtain⟨h1,h2,h3⟩:=YhJ vs xh n
  simp only[hdF]
  cases hc:inL vs (vn (xh.getD n 0))&& !inL (hdF vs xh n) (vn (xh.getD n 0))with
  |false=>grind
  |true=>
   rw[YIa,Bool.not_eq_true',<-Bool.not_eq_true,inL_iff,inL_iff]at hc
   grind
theorem YG5{db:List Tabl}(h:DOk db)(xh:List Int)(xa:List (Int×List Int))(hxh: ∀c∈xh,0<=c)(hxa: ∀x∈xa,0<=x.1/\x.1<=255/\ ∀c∈x.2,0<=c):
  ∃hd l ok,q122 loO db xh xa=some (hd,l,ok)/\ (ok=true->GQ db hd l):=by
 have hm:maxEl=1073741824:=rfl
 have hdl:=h.len
 unfold q122
 by_cases h0:(db.length:Int)=0
 ·simp_all
 by_cases h1:(xa.length:Int)<1
 ·simp_all
 by_cases h3:(3:Int)< (xa.length:Int)
 ·simp_all
 rw[decide_eq_false h0,decide_eq_false h1,decide_eq_false h3]
 simp only[cond_false]
 have hix: ∀i,i<xa.length->0<=(xa.getD i (0,[])).1.tmod (db.length:Int)/\ (xa.getD i (0,[])).1.tmod (db.length:Int)< (db.length:Int):=fun i hi=>
  ⟨Int.tmod_nonneg _ (hxa _ (Yaj hi)).1,Int.tmod_lt_of_pos _ (by omega)⟩
 have e12:Yha loO (0,db,xh,xa,[],[],[],[])=some (xh,xa,[],[],[],tab xa.length (qAt db xa)):=by
  refine Yau (st:=fun i=>((i:Int),db,xh,xa,[],[],[],tab i (qAt db xa))) (N:=xa.length) rfl ?_ (fun i hi=> ?_)
  ·simp only[YeC,nlI,cond_false]
  ·obtain⟨p1,p2,p3⟩:=hxa _ (Yaj (d:=(0,[])) hi)
   obtain⟨q1,q2⟩:=hix i hi
   have w1:YIl .i64 (xa.getD i (0,[])).1=(xa.getD i (0,[])).1:=wr6 (by omega) (by omega)
   simp only[YeC,ltI hi,cond_true,YIf,w1]
   rw[chkT _ (by omega),chkT _ h0,chkT _ ⟨q1,q2⟩]
   have hna:(db.getD ((xa.getD i (0,[])).1.tmod (db.length:Int)).toNat zT).2.1.length<=5:=h.na _ (Yaj (by omega))
   have hq:qAt db xa i=((db.getD ((xa.getD i (0,[])).1.tmod (db.length:Int)).toNat zT).1,tab (db.getD ((xa.getD i (0,[])).1.tmod (db.length:Int)).toNat zT).2.1.length fun k=>cdT (cdAt (xa.getD i (0,[])).2 k)):=rfl
   rw[<-Yb6,hq]
   generalize db.getD ((xa.getD i (0,[])).1.tmod (db.length:Int)).toNat zT=t at*
   have e15:Yg9 loO ((i:Int),0,db,xh,xa,[],[],t.1,t.2.1,t.2.2,t.1,[],tab i (qAt db xa),[])=some ((i:Int),db,xh,xa,[],[],t.1,[],tab i (qAt db xa),tab t.2.1.length fun k=>cdT (cdAt (xa.getD i (0,[])).2 k)):=by
    refine Yau (st:=fun k=>((i:Int),(k:Int),db,xh,xa,[],[],t.1,t.2.1,t.2.2,t.1,[],tab i (qAt db xa),tab k fun k=>cdT (cdAt (xa.getD i (0,[])).2 k))) (N:=t.2.1.length) rfl ?_ (fun k hk=> ?_)
    ·simp only[YeB,nlI,cond_false]
    ·have hc:=YpB p3 k
     simp only[YeB,ltI hk,cond_true,YIf]
     rw[chkT _ (by omega),<-Yb6]
     by_cases hkc:k< (xa.getD i (0,[])).2.length
     ·have ec:cdAt (xa.getD i (0,[])).2 k=(xa.getD i (0,[])).2.getD k 0:=by unfold cdAt;omega
      rw[decide_eq_true (by omega:(k:Int)< ((xa.getD i (0,[])).2.length:Int)),cond_true,chkT _ (by omega),chkT _ (by omega),rJ _ (ec▸hc) _ _ _ _ _ _ _ _ _ _ _ _ _ _ (by rw[YaB];omega),YC5,ec]
      simp only[inc hk (show t.2.1.length<=maxEl by omega)]
     ·have ec:cdAt (xa.getD i (0,[])).2 k=0:=by unfold cdAt;omega
      rw[decide_eq_false (by omega: ¬ (k:Int)< ((xa.getD i (0,[])).2.length:Int)),cond_false,rJ _ (Int.le_refl _) _ _ _ _ _ _ _ _ _ _ _ _ _ _ (by rw[YaB];omega),YC5,ec]
      simp only[inc hk (show t.2.1.length<=maxEl by omega)]
   rw[e15,YC5]
   dsimp only
   rw[chkT _ (by rw[YaB];grind)]
   simp only[inc hi (show xa.length<=maxEl by omega)]
 rw[e12,YC5]
 dsimp only
 have hsum: ∀n,n<=3->sumT (tab n (qAt db xa))<=5*n\/ ¬n<=xa.length:=by
  intro n
  induction n with
  |zero=>intro _;exact .inl (YHR _)
  |succ n ih=>
   intro h3
   by_cases hx:n+1<=xa.length
   ·rcases ih (by omega)with hs|hs
    ·refine .inl ?_
     rw[<-Yb6]
     have hq:=hix n (by omega)
     have:(qAt db xa n).2.length<=5:=by
      unfold qAt
      simp only[YaB]
      exact h.na _ (Yaj (by omega))
     unfold sumT at hs⊢
     grind
    ·omega
   omega
 have hs:sumT (tab xa.length (qAt db xa))<=15:=by
  grind
 rw[YGZ _ (by rw[YaB];omega) (by omega),YC5]
 have hvl:=YeR (tab xa.length (qAt db xa)) []
 simp only[List.length_nil,YHX]at hvl
 generalize hL:tab xa.length (qAt db xa)=l at*
 have e3:Yhb loO (YDx [] l,0,xh,xa,[],[],l,[])=some ([],[],l,hdF (YDx [] l) xh (min xh.length 4)):=by
  refine Yau (st:=fun n=>(YDx [] l,(n:Int),xh,xa,[],[],l,hdF (YDx [] l) xh n)) (N:=min xh.length 4) rfl ?_ (fun n hn=> ?_)
  ·by_cases h4:xh.length<=4
   ·rw[Nat.min_eq_left h4]
    simp only[YcU,nlI,cond_false]
   ·rw[Nat.min_eq_right (by omega)]
    have e:decide (((4:Nat):Int)< (xh.length:Int))=true:=by grind
    have e':decide (((4:Nat):Int)<4)=false:=rfl
    simp only[YcU,e,e',cond_true,cond_false]
  ·have a1:decide ((n:Int)< (xh.length:Int))=true:=by grind
   have a2:decide ((n:Int)<4)=true:=by grind
   have e2:YIl .i64 ((n:Int)+1)=((n+1:Nat):Int):=by rw[wr6 (by omega) (by omega)];omega
   have hc:=hxh _ (Yaj (d:=0) (show n<xh.length by omega))
   have hf:=(YhJ (YDx [] l) xh n).1
   simp only[YcU,a1,a2,cond_true,e2,YIf]
   rw[chkT _ (by omega),rVar _ hc,YC5,Ybo _ _ (by omega),YC5,Ybo _ _ (by omega),YC5,Yc2,YeS,chkT _ (by grind)]
   simp only[hdF]
   grind
 rw[e3,YC5]
 obtain⟨f1,f2,f3⟩:=YhJ (YDx [] l) xh (min xh.length 4)
 have hll:l.length=xa.length:=by rw[<-hL,YaB]
 refine⟨hdF (YDx [] l) xh (min xh.length 4),l,true,rfl,fun _=>⟨by omega,by omega,fun a ha=> ?_,fun a ha t ht=> ?_,by omega,f2,f3⟩⟩
 ·rw[<-hL]at ha
  unfold tab at ha
  obtain⟨i,hi,rfl⟩:=YHx.1 ha
  have hi':i<xa.length:=by simp_all
  obtain⟨q1,q2⟩:=hix i hi'
  exact⟨_,by omega,rfl,by unfold qAt;simp only[YaB]⟩
 ·rw[<-hL]at ha
  unfold tab at ha
  obtain⟨i,hi,rfl⟩:=YHx.1 ha
  have hi':i<xa.length:=by simp_all
  unfold qAt at ht
  simp only[tab]at ht
  obtain⟨k,hk,rfl⟩:=YHx.1 ht
  exact YCZ _ (YpB (hxa _ (Yaj hi')).2.2 k)
end
end Go.Abs.G47
namespace Go.Abs.G47
open Go Go.Abs
noncomputable section
theorem GQ.rok{db:List Tabl}{hd:List ByteArray}{l:List Atom}(h:DOk db)(g:GQ db hd l):ROk db l:=by
 refine⟨fun a ha=> ?_,fun a ha t ht=> ?_⟩
 ·obtain⟨n,hn,e,_⟩:=g.at' a ha
  rw[e,h.get hn];omega
 ·have hM:maxEl=1073741824:=rfl
  have:=Ypt (g.tm a ha t ht)
  omega
theorem GQ.tabs{db:List Tabl}{hd:List ByteArray}{l:List Atom}(h:DOk db)(g:GQ db hd l){a:Atom}(ha:a∈l):tabO db a.1∈db/\ (tabO db a.1).2.1.length=a.2.length:=by
 obtain⟨n,hn,e,e2⟩:=g.at' a ha
 rw[e,h.tab hn]
 simp_all
theorem GQ.sum{db:List Tabl}{hd:List ByteArray}{l:List Atom}(h:DOk db)(g:GQ db hd l):sumT l<=15:=by
 have:sumT l<=l.length*5:=YCo fun n hn=>by
  have:=g.tabs h (Yaj (d:=zA) hn)
  have:=h.na _ this.1
  omega
 have:=g.len
 omega
theorem GQ.qok{db:List Tabl}{hd:List ByteArray}{l:List Atom}(h:DOk db)(g:GQ db hd l):QOk db hd l:=by
 have hM:maxEl=1073741824:=rfl
 have hs:=g.sum h
 have hl:=g.len
 have hh:=g.hl
 have hd':=h.len
 have key: ∀n,n<l.length->((tbs db l).getD n zT)∈db/\ ((tbs db l).getD n zT).2.1.length=(l.getD n zA).2.length:=fun n hn=>by
  rw[Ypx db hn];exact g.tabs h (Yaj hn)
 refine⟨⟨by unfold tbs;simp,by omega,fun n hn=> ?_,fun n hn=> ?_,fun n hn row hr=> ?_⟩,by omega,by omega,by omega,fun n hn=>h.rs _ (key n hn).1,fun n hn row hr v hv=>h.gv _ (key n hn).1 row hr v hv⟩
 ·have:=Yc1 hn;omega
 ·have:=h.rs _ (key n hn).1;omega
 ·rw[(h.gt _ (key n hn).1).len row hr,(key n hn).2]
theorem GQ.qI{db:List Tabl}{hd:List ByteArray}{l:List Atom}(h:DOk db)(g:GQ db hd l):qI db hd l=0:=by
 unfold G47.qI
 have hl:=g.len
 have hn:=g.ne
 rw[h.valid,decide_eq_true rfl,decide_eq_false (by omega),decide_eq_false (by omega)]
 rw[YeL _ _ (fun m _ hm=> ?_)]
 ·have:YES hd l=true:=by
   unfold YES
   rw[Bool.not_eq_true',<-Bool.not_eq_true,Yb7]
   rintro⟨m,_,h2,h3⟩
   have hm:m<hd.length:=by omega
   unfold fHd at h3
   rw[inL_iff.2 (g.hv _ (Yaj hm)),Bool.true_and,Bool.not_not,inL_iff]at h3
   exact Ypz g.nd hm h3
  simp_all
 ·have hm':m<l.length:=by omega
  have hmem:=Yaj (d:=zA) hm'
  obtain⟨t1,t2⟩:=g.tabs h hmem
  unfold fQ
  rw[decide_eq_true ((g.rok h).ix _ hmem),decide_eq_true (by rw[t2])]
  have:badT (l.getD m zA).2=false:=by
   unfold badT
   rw[YeT (fun t=> !YDN t) _ zM,List.any_eq_false]
   intro t ht
   rw[g.tm _ hmem t ht];simp
  simp_all
theorem GQ.few{db:List Tabl}{hd:List ByteArray}{l:List Atom}(h:DOk db)(g:GQ db hd l):(YEr db l).length<=216:=
 YHV (g.qok h).len (Nat.pow_le_pow_right (by omega) g.len)
theorem GQ.lists{db:List Tabl}{hd:List ByteArray}{l:List Atom}(h:DOk db)(g:GQ db hd l):(rowsR (anss db hd l)).length<=maxEl/\ ∀x∈rowsR (anss db hd l),SzV x:=by
 have hM:maxEl=1073741824:=rfl
 have:=g.few h
 have h2:=Ye3 (anss db hd l)
 have hh:=g.hl
 have h3:(anss db hd l).length=(YEr db l).length:=by unfold anss;simp
 refine⟨by omega,fun x hx=> ?_⟩
 have:=(g.qok h).all x (rowsR_mem.1 hx)
 exact YhH this.1 (by omega)
theorem rng8{n:Int}(h:(Ty.i .u8).rng n):0<=n/\n<=255:=by
 have h':(Lit.int .u8 n).wf=true:=h
 simp only[Lit.wf,YIa,decide_eq_true_eq]at h'
 trivial
theorem YC0(d:List (Int×Int×List (List Int)))(xh:List Int)(xa:List (Int×List Int))(hd: ∀x∈d,0<=x.1/\x.1<=255/\0<=x.2.1)(hxh: ∀c∈xh,0<=c)(hxa: ∀x∈xa,0<=x.1/\x.1<=255/\ ∀c∈x.2,0<=c):q138 loO d xh xa=some true:=by
 unfold q138
 obtain⟨db,ok,e1,D⟩:=YG4 d hd
 obtain⟨hd',l,ok2,e2,h2⟩:=YG5 D xh xa hxh hxa
 rw[e1,YC5,e2,YC5,aw,YC5,YC5]
 cases ok with
 |false=>rfl
 |true=>
  cases ok2 with
  |false=>rfl
  |true=>
   have g:=h2 rfl
   have hw:=g.few D
   obtain⟨s1,s2⟩:=g.lists D
   simp only[YIb,cond_false]
   rw[YF9 (g.qok D) (g.qI D) (by omega),YC5,YGa (g.qok D) (g.rok D) (g.qI D) (by omega),YC5]
   simp only[decide_true,cond_true]
   rw[YG2 _ s1 s2,YC5]
theorem YC1{d:List (Int×Int×List (List Int))}(h:(Ty.l (cs [.i .u8,.i .u8,.l (cs [.l (cs [.i .u8])])])).rng d): ∀x∈d,0<=x.1/\x.1<=255/\0<=x.2.1:=fun x hx=>by
 have h1:(cs [.i .u8,.i .u8,.l (cs [.l (cs [.i .u8])])]).rng x:=h x hx
 exact⟨(rng8 h1.1).1,(rng8 h1.1).2,(rng8 h1.2.1).1⟩
theorem YpC{l:List Int}(h:(Ty.l (cs [.i .u8])).rng l): ∀c∈l,0<=c:=fun c hc=>by
 have h1:(cs [.i .u8]).rng c:=h c hc
 exact(rng8 h1.1).1
theorem YC2{l:List (Int×List Int)}(h:(Ty.l (cs [.i .u8,.l (cs [.i .u8])])).rng l): ∀x∈l,0<=x.1/\x.1<=255/\ ∀c∈x.2,0<=c:=fun x hx=>by
 have h1:(cs [.i .u8,.l (cs [.i .u8])]).rng x:=h x hx
 exact⟨(rng8 h1.1).1,(rng8 h1.1).2,YpC h1.2.1⟩
theorem answ_fin(x:List (Int×Int×List (List Int))×List Int×List (Int×List Int))(hr:(cs [.l (cs [.i .u8,.i .u8,.l (cs [.l (cs [.i .u8])])]),.l (cs [.i .u8]),.l (cs [.i .u8,.l (cs [.i .u8])])]).rng x):q138 loO x.1 x.2.1 x.2.2=some true:=
 YC0 _ _ _ (YC1 hr.1) (YpC hr.2.1) (YC2 hr.2.2.1)
end
end Go.Abs.G47
