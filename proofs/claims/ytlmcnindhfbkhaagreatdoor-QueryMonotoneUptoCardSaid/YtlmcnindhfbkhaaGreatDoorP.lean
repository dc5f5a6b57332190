/- Helpers of the plain laws: loops as states by number, tables, short words. No condition. -/
import Derived.Test.YtlmcnindhfbkhaaGreatDoorB
import Derived.Test.YtlmcnindhfbkhaaGreatDoorG1
set_option linter.unusedVariables false
set_option linter.unusedSimpArgs false
set_option linter.unusedSectionVars false
open List renaming getElem?_eq_getElem → YF7, map_cons → YF9, getElem?_map → YGa, map_nil → YGb, mem_cons → YGe, mem_cons_self → YGf, mem_map → YGg, mem_cons_of_mem → YGj, append_assoc → YGl, take_length → YGm, all_eq_true → YGn, mem_singleton → YGo, length_map → YGp, length_cons → YGr, getD_eq_getElem?_getD → YGs, ext_getElem? → YGu, cons_append → YGv, mem_iff_getElem → YGw, map_map → YGx, drop_zero → YGz
open Nat renaming ble → YGD, le_refl → YGE, blt → YGF, le_trans → YGH, zero_add → YGJ, add_mul → YGL, zero_le → YGM
open Option renaming bind → YGO, bind_some → YGR, getD_some → YGT
open Bool renaming and_eq_true → YGW, not_true → YGX, not_false → YGY, eq_iff_iff → YGZ, and_self → YG0
open Int renaming toNat_natCast → YG1
open ByteArray renaming mk → YG6
open Go.IntKind renaming wrap → YG7
namespace Go.Abs
theorem wr6{n:Int}(h0: -9223372036854775808<=n)(h1:n<9223372036854775808):YG7 .i64 n=n:=by
 have e:(2:Int)^IntKind.bits .i64=18446744073709551616:=rfl
 have e':(2:Int)^(IntKind.bits .i64-1)=9223372036854775808:=rfl
 have s:IntKind.signed .i64=true:=rfl
 simp only[YG7,e,e',s,Bool.true_and,ge_iff_le,decide_eq_true_eq]
 omega
theorem chkT{β:Type}{p:Prop}[Decidable p](x:Option β)(h:p):chk p x=x:=by simp[chk,h]
theorem cT{β:Type}{p:Prop}[Decidable p](x y:β)(h:p):(bif decide p then x else y)=x:=by simp[h]
theorem YBw{α β:Type}(a:α)(f:α->Option β):YGO (some a) f=f a:=rfl
theorem YnR{S R:Type}{step:S->Option (S⊕R)}(st:Nat->S)(N:Nat)(r:R)(he:step (st N)=some (.inr r))(hs: ∀n,n<N->step (st n)=some (.inl (st (n+1)))): ∀k n,n+k=N->YBU step (st n)=some r
 |0,n,h=>by rw[YaV];simp_all
 |k+1,n,h=>by rw[YaV,hs n (by omega)];exact YnR st N r he hs k (n+1) (by omega)
theorem Yav{S R:Type}{step:S->Option (S⊕R)}{st:Nat->S}{N:Nat}{r:R}{s:S}(hst:s=st 0)(he:step (st N)=some (.inr r))(hs: ∀n,n<N->step (st n)=some (.inl (st (n+1)))):YBU step s=some r:=by
 subst hst;exact YnR st N r he hs N 0 (by omega)
def tab{α:Type}(n:Nat)(f:Nat->α):List α:=(List.range n).map f
theorem Yan{α:Type}(n:Nat)(f:Nat->α):(tab n f).length=n:=by simp[tab]
theorem YnS{α:Type}(n:Nat)(f:Nat->α)(i:Nat)(d:α)(h:i<n):(tab n f).getD i d=f i:=by simp[tab,YGs,h]
theorem YnT{α:Type}(n:Nat)(f:Nat->α)(i:Nat)(v:α):(tab n f).set i v=tab n (fun k=>if k=i then v else f k):=by
 apply YGu
 intro k
 by_cases h:k<n
 ·by_cases e:k=i
  ·subst e;simp[tab,h]
  ·simp[tab,h,e,Ne.symm e]
 ·simp[tab,h]
theorem YgO{α:Type}{n:Nat}{f g:Nat->α}(h: ∀k,k<n->f k=g k):tab n f=tab n g:=
 List.map_congr_left (fun k hk=>h k (by simp_all))
theorem Yb3{α:Type}(n:Nat)(f:Nat->α):tab n f++[f n]=tab (n+1) f:=by simp[tab,List.range_succ]
theorem YAm{α:Type}(l:List α)(d:α):l=tab l.length (fun k=>l.getD k d):=by
 apply List.ext_getElem (Yan _ _).symm
 intro k h1 h2
 simp only[tab,List.getElem_map,List.getElem_range,YGs,YF7 h1,YGT]
def bl(s:ByteArray):List UInt8:=s.data.toList
theorem Ybl(s:ByteArray):(bl s).length=s.size:=Array.length_toList
theorem Yep(s:ByteArray)(i:Nat)(h:i<s.size):(bl s).drop i=s.data.getD i 0::(bl s).drop (i+1):=by
 have h':i< (bl s).length:=by trivial
 rw[List.drop_eq_getElem_cons h']
 congr 1
 simp[bl,Array.getD]
 omega
theorem YAn(s:ByteArray)(i:Nat)(h:i<s.size):(bl s).take (i+1)=(bl s).take i++[s.data.getD i 0]:=by
 have h':i< (bl s).length:=by trivial
 rw[<-List.take_append_getElem h']
 congr 2
 simp[bl,Array.getD]
 omega
theorem YAo(a b:ByteArray)(i j:Nat):(YBx a i=YBx b j)↔a.data.getD i 0=b.data.getD j 0:=by
 simp only[YBx,YG1]
 constructor
 ·intro h
  have:(a.data.getD i 0).toNat=(b.data.getD j 0).toNat:=by omega
  exact UInt8.toNat_inj.1 this
 simp_all
theorem YAp{a b:ByteArray}(h:bl a=bl b):a=b:=by
 have:a.data=b.data:=by simpa[bl]using h
 cases a;simp_all
end Go.Abs
namespace Go.Abs.G47
open Go Go.Abs
set_option maxRecDepth 100000
abbrev Vals:=List (Int×Int×ByteArray)
abbrev Rws:=List (Int×Vals)
abbrev Tabl:=ByteArray×List ByteArray×Rws
abbrev Term:=ByteArray×Int×Int×ByteArray
abbrev Atom:=ByteArray×List Term
theorem YnW{clk:Int}{ents:List (Int×ByteArray×Vals)}{m2:Bool}
  {y} (hd:(ents.map (·.1)).Nodup) (hl:ents.length<=maxEl)
  (hy:Yb2 loO (ents.map (·.2.1),clk,clk,[],false,clk,ents,m2)=some y):
  YcN loO ([],clk,ents,m2)=some y:=by
 show rngF Yeb (YcM loO) (Yb2 loO) ([],clk,clk,[],false,clk,ents,m2)=some y
 refine Yse (YAq (p:=Yeb) (t:=YcM loO) (r:=Yb2 loO) (fun sn=>(sn.map (kAt (YG6 #[]) ents),clk,clk,sn,false,clk,ents,m2)) (B:=ents.map (·.1)) (c:=clk) hd (fun sn=>rfl) (fun sn b hb hn hsd hsB=> ?_) (fun sn hp=> ?_))
 ·obtain⟨e,he⟩:=YAs hb
  have hlen:sn.length<ents.length:=by
   have h1:(sn++[b]).Nodup:=by
    rw[List.nodup_append]
    exact⟨hsd,by simp,fun x hx y hy=>by rw[YGo]at hy;subst hy;intro e;subst e;exact hn hx⟩
   have:=List.Nodup.length_le_of_subset h1 (l₂:=ents.map (·.1)) (fun a ha=>by
    rcases List.mem_append.1 ha with ha|ha
    ·exact hsB a ha
    ·rw[YGo]at ha;subst ha;exact hb)
   simp at this;omega
  simp only[YcM,addI,List.getLast?_append,List.getLast?_singleton,Option.some_or,YGR,he,chk,decide_true,cond_true,YGp,List.length_singleton]
  have:decide (sn.length+1<=maxEl)=true:=by simp;omega
  simp only[this,cond_true,List.map_append,YF9,YGb,kAt,he]
 ·have hperm:(sn.map (kAt (YG6 #[]) ents)).Perm (ents.map (·.2.1)):=by
   rw[<-YAt (d:=YG6 #[]) hd];exact hp.map _
  rw[<-hy]
  show YGO (q65 loO (sn.map (kAt (YG6 #[]) ents))) _=YGO (q65 loO (ents.map (·.2.1))) _
  have e1:q65 loO (sn.map (kAt (YG6 #[]) ents))=q65 loO (ents.map (·.2.1)):=YAr hperm
  rw[e1]
  have e2:=hperm.length_eq
  congr 1
  funext y152
  rw[e2]
def nodB:List Int->Bool
 | []=>true
 |a::r=> !(r.any fun b=>decide (b=a))&&nodB r
theorem YnX: ∀{l:List Int},nodB l=true->l.Nodup
 | [],_=>List.nodup_nil
 |a::r,h=>by
  simp only[nodB,YGW,Bool.not_eq_true',List.any_eq_false,decide_eq_true_eq]at h
  exact List.nodup_cons.2 ⟨fun hm=>h.1 a hm rfl,YnX h.2⟩
def j18C(lo:Lo):(List ByteArray×Int×List (Int×ByteArray×Vals)×Bool)->Option (List Vals×Int):=fun x=>match x with
 | (keys,clk,ents,m2)=>bif keys.isEmpty&& (nodB (ents.map (·.1))&&YGD ents.length maxEl)then Yb2 lo (ents.map (·.2.1),clk,clk,[],false,clk,ents,m2)else none
theorem YAv{x y}(h:j18C loO x=some y):YcN loO x=some y:=by
 obtain⟨keys,clk,ents,m2⟩:=x
 unfold j18C at h
 obtain⟨e,hk⟩:=Yab h
 simp only[YGW,List.isEmpty_iff]at e
 obtain⟨rfl,e1,e2⟩:=e
 exact YnW (YnX e1) (by simpa using e2) hk
def YEi(lo:Lo)(db:List Tabl)(q0:List ByteArray)(q1:List Atom):Option (List Vals×Int):=
 YGO (q40 lo db q0 q1) fun y105=>bif(!decide (y105=(0:Int)))then(some ([],y105))else(YGO (q41 lo db q0 q1) fun y108=>YGO (q50 lo (0:Int) y108.1 y108.2.1 y108.2.2.1 y108.2.2.2.1 y108.2.2.2.2.1 y108.2.2.2.2.2.1 y108.2.2.2.2.2.2.1 y108.2.2.2.2.2.2.2 (0:Int) [] false) fun y163=>chk (y163.2.2.2.1.length=y108.2.2.1.length) (bif(!y163.1)then(some ([],(3:Int)))else(YGO (j18C lo ([],y163.2.2.2.2.2.2.2.2.1,y163.2.2.2.2.2.2.2.2.2.1,y163.2.2.2.2.2.2.2.2.2.2.1)) fun y228=>some (y228.1,y228.2))))
theorem YgP{α β:Type}{a:Option α}{f g:α->Option β}{y:β}(h: ∀z,f z=some y->g z=some y):YGO a f=some y->YGO a g=some y:=by
 cases a with
 |none=>intro h;cases h
 |some z=>exact h z
theorem YnY{β:Type}{b:Bool}{x x' z:Option β}{y:β}(h:x=some y->x'=some y):(bif b then z else x)=some y->(bif b then z else x')=some y:=by
 cases b with
 |true=>exact id
 |false=>exact h
theorem YAw{β:Type}{p:Prop}[Decidable p]{x x':Option β}{y:β}(h:x=some y->x'=some y):chk p x=some y->chk p x'=some y:=by
 unfold chk
 cases decide p with
 |true=>exact h
 |false=>exact id
theorem YAx{db q0 q1 y}:YEi loO db q0 q1=some y->q66 loO db q0 q1=some y:=by
 unfold YEi q66
 refine YgP fun _=>YnY (YgP fun _=>YgP fun z=>YAw (YnY ?_))
 intro h
 cases hj:j18C loO ([],z.2.2.2.2.2.2.2.2.1,z.2.2.2.2.2.2.2.2.2.1,z.2.2.2.2.2.2.2.2.2.2.1)with
 |none=>rw[hj]at h;cases h
 |some q=>rw[hj]at h;rw[YAv hj];exact h
noncomputable def R2:Int×Vals:=(q1 (loM 400) 1 [1,2]).getD (0,[])
noncomputable def R3:Int×Vals:=(q1 (loM 400) 2 [1,3]).getD (0,[])
noncomputable def R4:Int×Vals:=(q1 (loM 400) 3 [2,3]).getD (0,[])
noncomputable def R5:Int×Vals:=(q1 (loM 400) 1 [3]).getD (0,[])
noncomputable def T6:Term:=(q2 (loM 400) (YG6 #[120])).getD (YG6 #[],0,0,YG6 #[])
noncomputable def T7:Term:=(q2 (loM 400) (YG6 #[121])).getD (YG6 #[],0,0,YG6 #[])
noncomputable def EA:List Vals×Int:=(YEi (loM 400) [((YG6 #[114]),[(YG6 #[97]),(YG6 #[98])],[R2,R3,R4]),((YG6 #[115]),[(YG6 #[99])],[R5])] ([(YG6 #[120])]) ([((YG6 #[114]),[T6,T7]),((YG6 #[115]),[T7])])).getD ([],0)
theorem aw:q99 loO=some true:=by
 have e2:q1 loO 1 [1,2]=some R2:=(congrArg (fun l=>q1 l 1 [1,2]) (Ya9 400)).symm.trans (by kernel_rfl)
 have e3:q1 loO 2 [1,3]=some R3:=(congrArg (fun l=>q1 l 2 [1,3]) (Ya9 400)).symm.trans (by kernel_rfl)
 have e4:q1 loO 3 [2,3]=some R4:=(congrArg (fun l=>q1 l 3 [2,3]) (Ya9 400)).symm.trans (by kernel_rfl)
 have e5:q1 loO 1 [3]=some R5:=(congrArg (fun l=>q1 l 1 [3]) (Ya9 400)).symm.trans (by kernel_rfl)
 have e6:q2 loO (YG6 #[120])=some T6:=(congrArg (fun l=>q2 l (YG6 #[120])) (Ya9 400)).symm.trans (by kernel_rfl)
 have e7:q2 loO (YG6 #[121])=some T7:=(congrArg (fun l=>q2 l (YG6 #[121])) (Ya9 400)).symm.trans (by kernel_rfl)
 have eA:q66 loO [((YG6 #[114]),[(YG6 #[97]),(YG6 #[98])],[R2,R3,R4]),((YG6 #[115]),[(YG6 #[99])],[R5])] ([(YG6 #[120])]) ([((YG6 #[114]),[T6,T7]),((YG6 #[115]),[T7])])=some EA:=
  YAx ((congrArg (fun l=>YEi l [((YG6 #[114]),[(YG6 #[97]),(YG6 #[98])],[R2,R3,R4]),((YG6 #[115]),[(YG6 #[99])],[R5])] ([(YG6 #[120])]) ([((YG6 #[114]),[T6,T7]),((YG6 #[115]),[T7])])) (Ya9 400)).symm.trans (by kernel_rfl))
 unfold q99
 rw[e2,YBw,e3,YBw,e4,YBw,e5,YBw,e6,YBw,e7,YBw,YBw,eA,YBw,<-Ya9 400]
 show(_:Option Bool)=some true
 kernel_rfl
end Go.Abs.G47
namespace Go.Abs
def YBy{R:Type}(f:Nat->Option R):Nat->Nat->R->R
 |0,_,r0=>r0
 |k+1,n,r0=>match f n with
  |some r=>r
  |none=>YBy f k (n+1) r0
theorem YnZ{R:Type}{f g:Nat->Option R}{r0:R}: ∀(k n:Nat),(∀m,n<=m->m<n+k->f m=g m)->YBy f k n r0=YBy g k n r0
 |0,n,h=>rfl
 |k+1,n,h=>by
  simp only[YBy]
  rw[h n (YGE _) (by omega),YnZ k (n+1) (fun m h1 h2=>h m (by omega) (by omega))]
theorem Yao{S R:Type}{step:S->Option (S⊕R)}(st:Nat->S)(f:Nat->Option R)(N:Nat)(r0:R){s:S}(hst:s=st 0)(he:step (st N)=some (.inr r0))
  (hs: ∀n,n<N->step (st n)=some (match f n with|some r=>.inr r|none=>.inl (st (n+1)))):YBU step s=some (YBy f N 0 r0):=by
 subst hst
 have: ∀k n,n+k=N->YBU step (st n)=some (YBy f k n r0):=by
  intro k
  induction k with
  |zero=>intro n h;rw[YaV];simp only[Nat.add_zero]at h;subst h;rw[he];rfl
  |succ k ih=>
   intro n h
   rw[YaV,hs n (by omega)]
   simp only[YBy]
   grind
 simp_all
theorem Yeq{R:Type}{f:Nat->Option R}{r0:R}: ∀(k n:Nat),(∀m,n<=m->m<n+k->f m=none)->YBy f k n r0=r0
 |0,n,h=>rfl
 |k+1,n,h=>by
  simp only[YBy]
  rw[h n (YGE _) (by omega)]
  exact Yeq k (n+1) (fun m h1 h2=>h m (by omega) (by omega))
def anyN(p:Nat->Bool):Nat->Nat->Bool
 |0,_=>false
 |k+1,n=>p n||anyN p k (n+1)
def idxR(p:Nat->Bool)(k n:Nat):Int:=match YBy (R:=Int⊕Unit) (fun m=>bif p m then some (.inl (m:Int))else none) k n (.inr ())with
 | .inl i=>i
 | .inr _=> -1
theorem Yer(p:Nat->Bool): ∀k n,decide (0<=idxR p k n)=anyN p k n
 |0,n=>rfl
 |k+1,n=>by
  have:=Yer p k (n+1)
  unfold idxR at this⊢
  simp only[YBy,anyN]
  grind
theorem Yba{R:Type}{f:Nat->Option R}{r0:R}: ∀(k n:Nat),(∃m r,n<=m/\m<n+k/\f m=some r/\YBy f k n r0=r)\/(YBy f k n r0=r0/\ ∀m,n<=m->m<n+k->f m=none)
 |0,n=>.inr ⟨rfl,fun m h1 h2=>by omega⟩
 |k+1,n=>by
  simp only[YBy]
  cases hf:f n with
  |some r=>grind
  |none=>
   rcases Yba (f:=f) (r0:=r0) k (n+1)with⟨m,r,h1,h2,h3,h4⟩| ⟨h1,h2⟩
   ·grind
   grind
theorem YgQ(s:ByteArray)(i:Int):0<=YBx s i/\YBx s i<256:=by
 unfold YBx
 have:=(s.data.getD i.toNat 0).toNat_lt
 omega
theorem Yaj{α:Type}{l:List α}{n:Nat}{d:α}(h:n<l.length):l.getD n d∈l:=by
 simp_all
theorem YAy{a b:ByteArray}(hs:a.size=b.size)(h: ∀n:Nat,n<a.size->YBx a n=YBx b n):a=b:=by
 have:a.data=b.data:=by
  apply Array.ext hs
  intro i h1 h2
  have:=h i h1
  rw[YAo]at this
  unfold Array.getD at this
  rw[dif_pos h1,dif_pos h2]at this
  trivial
 cases a;simp_all
theorem YAz{α:Type}{a b:List α}{d:α}(hs:a.length=b.length)(h: ∀n,n<a.length->a.getD n d=b.getD n d):a=b:=by
 apply List.ext_getElem hs
 simp_all
theorem Yb4{p:Nat->Bool}: ∀{k n:Nat},anyN p k n=true↔ ∃m,n<=m/\m<n+k/\p m=true
 |0,n=>⟨fun h=>(by cases h),fun⟨m,h1,h2,_⟩=>(by omega)⟩
 |k+1,n=>by
  simp only[anyN,Bool.or_eq_true,Yb4 (k:=k) (n:=n+1)]
  grind
theorem YgR{R:Type}{p:Nat->Bool}(hit:Nat->R)(r0:R)(T:R->Bool)(h0:T r0=false)(h1: ∀m,T (hit m)=true): ∀k n,T (YBy (fun m=>bif p m then some (hit m)else none) k n r0)=anyN p k n
 |0,n=>h0
 |k+1,n=>by
  simp only[YBy,anyN]
  cases hp:p n with
  |true=>grind
  |false=>simpa using YgR hit r0 T h0 h1 k (n+1)
theorem Yn0{p:Nat->Bool}(b:Bool)(k n:Nat):YBy (R:=Bool⊕Unit) (fun m=>bif p m then some (.inl b)else none) k n (.inr ())=bif anyN p k n then .inl b else .inr ():=by
 induction k generalizing n with
 |zero=>rfl
 |succ k ih=>
  simp only[YBy,anyN]
  grind
theorem YbG{α:Type}{l:List α}{n:Nat}{d:α}(h:n<l.length):l.take (n+1)=l.take n++[l.getD n d]:=by
 simp_all
end Go.Abs
namespace Go.Abs.G47
open Go Go.Abs
noncomputable section
theorem Yn1{A B C:Type}(b:B)(f:A->Option C)(g:B->Option C):alt2 (.inr b:A⊕B) f g=g b:=rfl
def lt(c:Int):Bool:=decide (97<=c)&&decide (c<=122)||decide (65<=c)&&decide (c<=90)||decide (c=95)
theorem Yes(c:Int):q102 loO c=some (lt c):=by
 unfold q102 lt
 by_cases h1:(97:Int)<=c<;>by_cases h2:c<=(122:Int)<;>by_cases h3:(65:Int)<=c<;>by_cases h4:c<=(90:Int)<;>simp[h1,h2,h3,h4]
def fN(s:ByteArray)(n:Nat):Option (Bool⊕Unit):=
 bif lt (YBx s n)then none else bif decide (n=0)then some (.inl false)else bif decide (YBx s n<48)then some (.inl false)else bif decide ((57:Int)<YBx s n)then some (.inl false)else none
theorem YAA(s:ByteArray)(hs:s.size<=24):YfZ loO (s,(s.size:Int),0)=some (YBy (fN s) s.size 0 (.inr ())):=by
 refine Yao (fun n=>(s,(s.size:Int),(n:Int))) (fN s) s.size (.inr ()) rfl ?_ (fun n hn=> ?_)
 ·simp[YdP]
 ·have e1:decide ((n:Int)< (s.size:Int))=true:=by simp;omega
  have e2:YG7 .i64 ((n:Int)+1)=((n+1:Nat):Int):=by rw[wr6 (by omega) (by omega)];omega
  simp only[YdP,e1,cond_true,e2]
  rw[chkT _ (by omega)]
  unfold fN lt
  have e3:decide ((n:Int)=0)=decide (n=0):=by simp
  simp only[e3]
  generalize YBx s n=c
  by_cases h1:(97:Int)<=c<;>by_cases h2:c<=(122:Int)<;>by_cases h3:(65:Int)<=c<;>by_cases h4:c<=(90:Int)<;>by_cases h5:c=95<;>by_cases h6:n=0<;>by_cases h7:c<48<;>by_cases h8:(57:Int)<c<;>simp[h1,h2,h3,h4,h5,h6,h7,h8]
def nul:ByteArray:=YG6 #[110,117,108,108]
def YB2(s:ByteArray):Bool:=
 bif decide (s=YG6 #[])then false else bif decide ((24:Int)< (s.size:Int))then false else bif decide (s=nul)then false else
  match YBy (fN s) s.size 0 (.inr ())with| .inl b=>b| .inr _=>true
theorem Yn2(s:ByteArray):q3 loO s=some (YB2 s):=by
 unfold q3 YB2 nul
 by_cases h1:s=YG6 #[]
 ·simp[h1]
 ·by_cases h2:(24:Int)< (s.size:Int)
  ·simp[h1,h2]
  ·by_cases h3:s=YG6 #[110,117,108,108]
   ·simp[h1,h2,h3]
   ·simp only[h1,h2,h3,decide_false,cond_false]
    rw[YAA s (by omega)]
    simp only[YBw]
    cases YBy (fN s) s.size 0 (.inr ())<;>rfl
def fR(s:ByteArray)(n:Nat):Option (Bool⊕Unit):=
 bif lt (YBx s n)then none else bif decide (YBx s n<48)then some (.inl false)else bif decide ((57:Int)<YBx s n)then some (.inl false)else none
theorem Yn3(s:ByteArray)(hs:s.size<=24):Ynr loO (s,0)=some (YBy (fR s) s.size 0 (.inr ())):=by
 refine Yao (fun n=>(s,(n:Int))) (fR s) s.size (.inr ()) rfl ?_ (fun n hn=> ?_)
 ·simp[Ygx]
 ·have e1:decide ((n:Int)< (s.size:Int))=true:=by simp;omega
  have e2:YG7 .i64 ((n:Int)+1)=((n+1:Nat):Int):=by rw[wr6 (by omega) (by omega)];omega
  simp only[Ygx,e1,cond_true,e2,Yes,YBw]
  rw[chkT _ (by omega)]
  unfold fR
  generalize YBx s n=c
  have h0:(0:Int)<=(n:Int)/\ (n:Int)< (s.size:Int):=by omega
  cases lt c<;>by_cases h7:c<48<;>by_cases h8:(57:Int)<c<;>simp[h7,h8,chkT,h0]
theorem YFH(s:ByteArray):s.size=0↔s=YG6 #[]:=by
 constructor
 ·intro h
  have:s.data= #[]:=Array.eq_empty_of_size_eq_zero h
  cases s;simp_all
 ·intro h;subst h;rfl
theorem YAB(s:ByteArray):q103 loO s=some (YB2 s):=by
 unfold q103 YB2 nul
 by_cases h1:s=YG6 #[]
 ·subst h1;rfl
 ·have h1':s.size≠0:=fun h=>h1 ((YFH s).1 h)
  by_cases h2:(24:Int)< (s.size:Int)
  ·have: ¬ (s.size:Int)=0:=by omega
   simp[h1,h2,this]
  ·have h0: ¬ (s.size:Int)=0:=by omega
   simp only[h1,h2,h0,decide_false,cond_false,Yes,YBw]
   rw[chkT _ (by omega)]
   have hz:YBx s 0=YBx s ((0:Nat):Int):=rfl
   have hsz:s.size=(s.size-1)+1:=by omega
   cases hl:lt (YBx s 0)with
   |false=>
    have:YBy (fN s) s.size 0 (.inr ())= .inl false:=by
     rw[hsz];simp only[YBy,fN,<-hz,hl];rfl
    rw[this]
    by_cases h3:s=YG6 #[110,117,108,108]<;>simp[h3]
   |true=>
    have:YBy (fN s) s.size 0 (.inr ())=YBy (fR s) s.size 0 (.inr ()):=YnZ _ _ (fun m _ _=>by
     unfold fN fR
     by_cases hm:m=0
     ·subst hm;rw[<-hz,hl];rfl
     ·simp[hm])
    rw[this,Yn3 s (by omega)]
    by_cases h3:s=YG6 #[110,117,108,108]
    ·simp[h3]
    ·simp only[h3,decide_false,cond_false,YGX,YBw]
     cases YBy (fR s) s.size 0 (.inr ())<;>rfl
def idxI(l:List ByteArray)(v:ByteArray):Int:=idxR (fun m=>decide (v=l.getD m (YG6 #[]))) l.length 0
theorem YAC(l:List ByteArray)(v:ByteArray)(hl:l.length<=maxEl):q4 loO l v=some (idxI l v):=by
 have hm:maxEl=1073741824:=rfl
 have:Yf0 loO (l,v,(l.length:Int),0)=some (YBy (R:=Int⊕Unit) (fun m=>bif decide (v=l.getD m (YG6 #[]))then some (.inl (m:Int))else none) l.length 0 (.inr ())):=by
  refine Yao (fun n=>(l,v,(l.length:Int),(n:Int))) _ l.length (Sum.inr ()) rfl ?_ (fun n hn=> ?_)
  ·simp[YdQ]
  ·have e1:decide ((n:Int)< (l.length:Int))=true:=by simp;omega
   have e2:YG7 .i64 ((n:Int)+1)=((n+1:Nat):Int):=by rw[wr6 (by omega) (by omega)];omega
   simp only[YdQ,e1,cond_true,e2,YG1]
   rw[chkT _ (by omega)]
   cases decide (v=l.getD n (YG6 #[]))<;>rfl
 unfold q4 idxI idxR
 rw[this,YBw]
 cases YBy (R:=Int⊕Unit) (fun m=>bif decide (v=l.getD m (YG6 #[]))then some (.inl (m:Int))else none) l.length 0 (.inr ())<;>rfl
theorem Yn4(l:List ByteArray)(v:ByteArray)(hl:l.length<=maxEl):q5 loO l v=some (decide (0<=idxI l v)):=by
 unfold q5;rw[YAC l v hl];rfl
theorem YgS(l:List ByteArray)(v:ByteArray)(hl:l.length<=maxEl):q104 loO l v=some (idxI l v):=by
 have hm:maxEl=1073741824:=rfl
 have:Ygy loO (l,v,0)=some (YBy (R:=Int⊕Unit) (fun m=>bif decide (v=l.getD m (YG6 #[]))then some (.inl (m:Int))else none) l.length 0 (.inr ())):=by
  refine Yao (fun n=>(l,v,(n:Int))) _ l.length (Sum.inr ()) rfl ?_ (fun n hn=> ?_)
  ·simp[Yed]
  ·have e1:decide ((n:Int)< (l.length:Int))=true:=by simp;omega
   have e2:YG7 .i64 ((n:Int)+1)=((n+1:Nat):Int):=by rw[wr6 (by omega) (by omega)];omega
   have e3:decide (l.getD n (YG6 #[])=v)=decide (v=l.getD n (YG6 #[])):=by simp only[eq_comm]
   simp only[Yed,e1,cond_true,e2,YG1,e3]
   rw[chkT _ (by omega)]
   cases decide (v=l.getD n (YG6 #[]))<;>rfl
 unfold q104 idxI idxR
 rw[this,YBw]
 cases YBy (R:=Int⊕Unit) (fun m=>bif decide (v=l.getD m (YG6 #[]))then some (.inl (m:Int))else none) l.length 0 (.inr ())<;>rfl
def vB(v:Int×Int×ByteArray):Bool:=(q6 loO v.1 v.2.1 v.2.2).getD false
theorem Yet(a b:Int)(c:ByteArray):q6 loO a b c=some (vB (a,b,c)):=by
 unfold vB q6
 by_cases h0:a=0<;>by_cases h1:a=1<;>by_cases h2:a=2<;>by_cases h3:a=3<;>by_cases h4:b=0<;>by_cases h5:1<=b<;>simp[h0,h1,h2,h3,h4,h5]
abbrev zV:Int×Int×ByteArray:=(0,0,YG6 #[])
def vsB(l:Vals):Bool:= !anyN (fun m=> !vB (l.getD m zV)) l.length 0
theorem YAD(l:Vals)(hl:l.length<=maxEl):q10 loO l=some (vsB l):=by
 have hm:maxEl=1073741824:=rfl
 have:Yf1 loO (l,(l.length:Int),0)=some (YBy (R:=Int⊕Unit) (fun m=>bif !vB (l.getD m zV)then some (.inl (m:Int))else none) l.length 0 (.inr ())):=by
  refine Yao (fun n=>(l,(l.length:Int),(n:Int))) _ l.length (Sum.inr ()) rfl ?_ (fun n hn=> ?_)
  ·simp[YdR]
  ·have e1:decide ((n:Int)< (l.length:Int))=true:=by simp;omega
   have e2:YG7 .i64 ((n:Int)+1)=((n+1:Nat):Int):=by rw[wr6 (by omega) (by omega)];omega
   simp only[YdR,e1,cond_true,e2,YG1,q7,Yet,YBw]
   rw[chkT _ (by omega)]
   cases vB (l.getD n zV)<;>rfl
 have h2:q8 loO l=some (idxR (fun m=> !vB (l.getD m zV)) l.length 0):=by
  unfold q8 idxR
  rw[this,YBw]
  cases YBy (R:=Int⊕Unit) (fun m=>bif !vB (l.getD m zV)then some (.inl (m:Int))else none) l.length 0 (.inr ())<;>rfl
 unfold q10 q9 vsB
 rw[h2,YBw,YBw,Yer]
def fA(l:List ByteArray)(n:Nat):Bool:= !YB2 (l.getD n (YG6 #[]))||decide (0<=idxI (l.take n) (l.getD n (YG6 #[])))
abbrev zR:Int×Vals:=(0,[])
def YDc(rows:Rws):Nat->Int
 |0=>0
 |n+1=>(rows.getD n zR).1
def fV(attrs:List ByteArray)(rows:Rws)(n:Nat):Option (Int⊕Unit):=
 bif decide ((rows.getD n zR).1<=YDc rows n)then some (.inl 1)else bif !decide (((rows.getD n zR).2.length:Int)=(attrs.length:Int))then some (.inl 6)else bif !vsB (rows.getD n zR).2 then some (.inl 1)else none
def YB9(nm:ByteArray)(attrs:List ByteArray)(rows:Rws):Int:=
 bif !YB2 nm then 1 else bif decide ((16:Int)< (attrs.length:Int))then 3 else bif decide ((1000:Int)< (rows.length:Int))then 3 else bif anyN (fA attrs) attrs.length 0 then 1 else
  match YBy (fV attrs rows) rows.length 0 (.inr ())with| .inl i=>i| .inr _=>0
theorem YFI(nm:ByteArray)(attrs:List ByteArray)(rows:Rws):q11 loO nm attrs rows=some (YB9 nm attrs rows):=by
 have hm:maxEl=1073741824:=rfl
 unfold q11 YB9
 rw[Yn2,YBw]
 cases YB2 nm with
 |false=>rfl
 |true=>
  by_cases h1:(16:Int)< (attrs.length:Int)
  ·simp[h1]
  ·by_cases h2:(1000:Int)< (rows.length:Int)
   ·simp[h1,h2]
   ·simp only[h1,h2,decide_false,cond_false,YGX]
    have e20:Yf2 loO (attrs,(attrs.length:Int),0,nm,attrs,rows)=some (YBy (R:=Int⊕ (ByteArray×List ByteArray×Rws)) (fun m=>bif fA attrs m then some (.inl 1)else none) attrs.length 0 (.inr (nm,attrs,rows))):=by
     refine Yao (fun n=>(attrs,(attrs.length:Int),(n:Int),nm,attrs,rows)) _ attrs.length _ rfl ?_ (fun n hn=> ?_)
     ·simp[YdS]
     ·have e1:decide ((n:Int)< (attrs.length:Int))=true:=by simp;omega
      have e2:YG7 .i64 ((n:Int)+1)=((n+1:Nat):Int):=by rw[wr6 (by omega) (by omega)];omega
      simp only[YdS,e1,cond_true,e2,YG1,Yn2,YBw,YGz]
      rw[chkT _ (by omega),chkT _ (by omega),Yn4 _ _ (by simp;omega),YBw]
      unfold fA
      cases YB2 (attrs.getD n (YG6 #[]))<;>cases decide (0<=idxI (attrs.take n) (attrs.getD n (YG6 #[])))<;>rfl
    rw[e20,YBw]
    have hsc: ∀k n,YBy (R:=Int⊕ (ByteArray×List ByteArray×Rws)) (fun m=>bif fA attrs m then some (.inl 1)else none) k n (.inr (nm,attrs,rows))=bif anyN (fA attrs) k n then .inl 1 else .inr (nm,attrs,rows):=by
     intro k
     induction k with
     |zero=>intro n;rfl
     |succ k ih=>intro n;simp only[YBy,anyN];cases fA attrs n with
      |true=>rfl
      |false=>simpa using ih (n+1)
    rw[hsc]
    cases anyN (fA attrs) attrs.length 0 with
    |true=>rfl
    |false=>
     simp only[cond_false,alt2]
     have e3:Yf3 loO (0,rows,(rows.length:Int),0,nm,attrs,rows)=some (YBy (fV attrs rows) rows.length 0 (.inr ())):=by
      refine Yao (fun n=>(YDc rows n,rows,(rows.length:Int),(n:Int),nm,attrs,rows)) _ rows.length _ rfl ?_ (fun n hn=> ?_)
      ·simp[YdT]
      ·have e1:decide ((n:Int)< (rows.length:Int))=true:=by simp;omega
       have e2:YG7 .i64 ((n:Int)+1)=((n+1:Nat):Int):=by rw[wr6 (by omega) (by omega)];omega
       simp only[YdT,e1,cond_true,e2,YG1]
       rw[chkT _ (by omega)]
       unfold fV
       by_cases g1:(rows.getD n zR).1<=YDc rows n
       ·simp only[g1,decide_true,cond_true]
       ·by_cases g2:((rows.getD n zR).2.length:Int)=(attrs.length:Int)
        ·simp only[g1,g2,decide_false,decide_true,cond_false,YGX]
         rw[YAD _ (show(rows.getD n zR).2.length<=maxEl by omega),YBw]
         cases vsB (rows.getD n zR).2<;>rfl
        ·simp only[g1,g2,decide_false,cond_false,YGY,cond_true]
     rw[e3,YBw]
     cases YBy (fV attrs rows) rows.length 0 (.inr ())<;>rfl
end
end Go.Abs.G47
namespace Go.Abs.G47
open Go Go.Abs
noncomputable section
theorem inc{n N:Nat}(h:n<N)(hN:N<=maxEl):YG7 .i64 ((n:Int)+1)=((n+1:Nat):Int):=by
 have hm:maxEl=1073741824:=rfl
 rw[wr6 (by omega) (by omega)];omega
theorem ltI{n N:Nat}(h:n<N):decide ((n:Int)< (N:Int))=true:=by simp_all
theorem nlI(N:Nat):decide ((N:Int)< (N:Int))=false:=by simp
abbrev zT:Tabl:=(YG6 #[],[],[])
abbrev zA:Atom:=(YG6 #[],[])
abbrev zM:Term:=(YG6 #[],0,0,YG6 #[])
abbrev nul0:ByteArray:=YG6 #[]
def tabP(db:List Tabl)(nm:ByteArray)(n:Nat):Bool:=decide ((db.getD n zT).1=nm)
def tabI(db:List Tabl)(nm:ByteArray):Int:=idxR (tabP db nm) db.length 0
theorem Yn5(db:List Tabl)(nm:ByteArray)(h:db.length<=maxEl):q14 loO db nm=some (tabI db nm):=by
 have:Yf4 loO (db,(db.length:Int),0,nm)=some (YBy (R:=(Int×ByteArray)⊕ByteArray) (fun m=>bif tabP db nm m then some (.inl ((m:Int),nm))else none) db.length 0 (.inr nm)):=by
  refine Yao (fun n=>(db,(db.length:Int),(n:Int),nm)) _ db.length _ rfl ?_ (fun n hn=> ?_)
  ·simp[YdU]
  ·simp only[YdU,ltI hn,cond_true,inc hn h,YG1,q12,YBw]
   rw[chkT _ (by omega)]
   unfold tabP
   grind
 unfold q14 q13
 rw[this,YBw]
 unfold tabI idxR
 have key: ∀k n,(match YBy (R:=(Int×ByteArray)⊕ByteArray) (fun m=>bif tabP db nm m then some (.inl ((m:Int),nm))else none) k n (.inr nm)with| .inl i=>Sum.inl (β:=Unit) i.1| .inr _=>.inr ())=YBy (R:=Int⊕Unit) (fun m=>bif tabP db nm m then some (.inl (m:Int))else none) k n (.inr ()):=by
  intro k
  induction k with
  |zero=>intro n;rfl
  |succ k ih=>intro n;simp only[YBy];grind
 rw[<-key]
 cases YBy (R:=(Int×ByteArray)⊕ByteArray) (fun m=>bif tabP db nm m then some (.inl ((m:Int),nm))else none) db.length 0 (.inr nm)<;>rfl
def tabO(db:List Tabl)(nm:ByteArray):Tabl:=bif decide (0<=tabI db nm)then db.getD (tabI db nm).toNat zT else zT
theorem Yeu{p:Nat->Bool}: ∀{k n:Nat},(∃m,n<=m/\m<n+k/\p m=true/\idxR p k n=(m:Int))\/(idxR p k n= -1/\ ∀m,n<=m->m<n+k->p m=false)
 |0,n=>.inr ⟨rfl,fun m h1 h2=>by omega⟩
 |k+1,n=>by
  cases hp:p n with
  |true=>exact .inl ⟨n,YGE _,by omega,hp,by unfold idxR;simp[YBy,hp]⟩
  |false=>
   have e:idxR p (k+1) n=idxR p k (n+1):=by unfold idxR;simp[YBy,hp]
   rcases Yeu (p:=p) (k:=k) (n:=n+1)with⟨m,h1,h2,h3,h4⟩| ⟨h1,h2⟩
   ·grind
   grind
theorem YFJ(db:List Tabl)(nm:ByteArray)(h:db.length<=maxEl):q25 loO db nm=some ((tabO db nm).1,(tabO db nm).2.1,(tabO db nm).2.2,decide (0<=tabI db nm)):=by
 have:Yf6 loO (nm,db,(db.length:Int),0,nul0,[],[])=some (YBy (R:=(Bool×Tabl)⊕Tabl) (fun m=>bif tabP db nm m then some (.inl (true,db.getD m zT))else none) db.length 0 (.inr zT)):=by
  refine Yao (fun n=>(nm,db,(db.length:Int),(n:Int),nul0,[],[])) _ db.length _ rfl ?_ (fun n hn=> ?_)
  ·simp[YdW]
  ·simp only[YdW,ltI hn,cond_true,inc hn h,YG1]
   rw[chkT _ (by omega)]
   unfold tabP
   grind
 unfold q25
 rw[this,YBw]
 have key: ∀k n,YBy (R:=(Bool×Tabl)⊕Tabl) (fun m=>bif tabP db nm m then some (.inl (true,db.getD m zT))else none) k n (.inr zT)=bif decide (0<=idxR (tabP db nm) k n)then .inl (true,db.getD (idxR (tabP db nm) k n).toNat zT)else .inr zT:=by
  intro k
  induction k with
  |zero=>intro n;rfl
  |succ k ih=>
   intro n
   cases hp:tabP db nm n with
   |true=>unfold idxR;simp[YBy,hp]
   |false=>
    have e:idxR (tabP db nm) (k+1) n=idxR (tabP db nm) k (n+1):=by unfold idxR;simp[YBy,hp]
    rw[e,<-ih (n+1)]
    simp[YBy,hp]
 rw[key]
 unfold tabO tabI
 cases decide (0<=idxR (tabP db nm) db.length 0)<;>rfl
def fD(db:List Tabl)(n:Nat):Option (Int⊕Unit):=
 bif !decide (YB9 (db.getD n zT).1 (db.getD n zT).2.1 (db.getD n zT).2.2=0)then some (.inl (YB9 (db.getD n zT).1 (db.getD n zT).2.1 (db.getD n zT).2.2))else bif decide (0<=tabI (db.take n) (db.getD n zT).1)then some (.inl 5)else none
def dbI(db:List Tabl):Int:=bif decide ((50:Int)< (db.length:Int))then 3 else match YBy (fD db) db.length 0 (.inr ())with| .inl i=>i| .inr _=>0
theorem YAE(db:List Tabl):q15 loO db=some (dbI db):=by
 have hm:maxEl=1073741824:=rfl
 unfold q15 dbI
 by_cases h:(50:Int)< (db.length:Int)
 ·simp[h]
 ·have hl:db.length<=maxEl:=by omega
  simp only[h,decide_false,cond_false]
  have:Yf5 loO (db,(db.length:Int),0,db)=some (YBy (fD db) db.length 0 (.inr ())):=by
   refine Yao (fun n=>(db,(db.length:Int),(n:Int),db)) _ db.length _ rfl ?_ (fun n hn=> ?_)
   ·simp[YdV]
   ·simp only[YdV,ltI hn,cond_true,inc hn hl,YG1,YFI,YBw,YGz]
    rw[chkT _ (by omega),chkT _ (by omega),Yn5 _ _ (by grind),YBw]
    unfold fD
    grind
  rw[this,YBw]
  cases YBy (fD db) db.length 0 (.inr ())<;>rfl
theorem YAF(nm:ByteArray)(attrs:List ByteArray)(rows:Rws):YB9 nm attrs rows≠4:=by
 unfold YB9
 cases YB2 nm with
 |false=>simp
 |true=>
  cases decide ((16:Int)< (attrs.length:Int))with
  |true=>simp
  |false=>
   cases decide ((1000:Int)< (rows.length:Int))with
   |true=>simp
   |false=>
    cases anyN (fA attrs) attrs.length 0 with
    |true=>simp
    |false=>
     rcases Yba (f:=fV attrs rows) (r0:=.inr ()) rows.length 0 with⟨m,r,_,_,h3,h4⟩| ⟨h1,_⟩
     ·unfold fV at h3
      grind
     simp_all
theorem YAG(db:List Tabl):dbI db≠4:=by
 unfold dbI
 cases decide ((50:Int)< (db.length:Int))with
 |true=>simp
 |false=>
  rcases Yba (f:=fD db) (r0:=.inr ()) db.length 0 with⟨m,r,_,_,h3,h4⟩| ⟨h1,_⟩
  ·rw[h4]
   unfold fD at h3
   cases hv:decide (YB9 (db.getD m zT).1 (db.getD m zT).2.1 (db.getD m zT).2.2=0)with
   |false=>rw[hv]at h3;injection h3 with h3;subst h3;exact YAF _ _ _
   |true=>
    grind
  simp_all
theorem YgT{db:List Tabl}(h:dbI db=0):db.length<=50/\ ∀n,n<db.length->YB9 (db.getD n zT).1 (db.getD n zT).2.1 (db.getD n zT).2.2=0:=by
 unfold dbI at h
 by_cases h50:(50:Int)< (db.length:Int)
 ·simp_all
 ·refine⟨by omega,?_⟩
  rcases Yba (f:=fD db) (r0:=.inr ()) db.length 0 with⟨m,r,_,h2,h3,h4⟩| ⟨h1,hn⟩
  ·unfold fD at h3
   grind
  ·intro n hl
   have:=hn n (YGM _) (by omega)
   unfold fD at this
   grind
theorem YAH{nm:ByteArray}{attrs:List ByteArray}{rows:Rws}(h:YB9 nm attrs rows=0):YB2 nm=true:=by
 unfold YB9 at h
 grind
theorem YAI{db:List Tabl}(h:dbI db=0):tabI db nul0= -1:=by
 rcases Yeu (p:=tabP db nul0) (k:=db.length) (n:=0)with⟨m,_,h2,h3,_⟩| ⟨h1,_⟩
 ·exfalso
  have:=YAH ((YgT h).2 m (by omega))
  rw[of_decide_eq_true (show decide ((db.getD m zT).1=nul0)=true from h3)]at this
  trivial
 trivial
theorem YAJ(db:List Tabl):q24 loO db nul0 [] nul0 []=some (bif !decide (dbI db=0)then dbI db else 4):=by
 have hm:maxEl=1073741824:=rfl
 unfold q24
 rw[YAE,YBw]
 by_cases h:dbI db=0
 ·have hl:=(YgT h).1
  simp only[h,decide_true,YGX,cond_false]
  unfold q23
  rw[Yn5 _ _ (by omega),YBw,YBw,YAI h];rfl
 simp_all
theorem lexL(c:Int):q26 loO c=some (lt c):=Yes c
theorem lexD(c:Int):q27 loO c=some (decide (48<=c)&&decide (c<=57)):=by
 unfold q27
 grind
theorem YAK(s:ByteArray)(hs:s.size<=24):Yf7 loO (s,(s.size:Int),0)=some (YBy (fR s) s.size 0 (.inr ())):=by
 have hm:maxEl=1073741824:=rfl
 refine Yao (fun n=>(s,(s.size:Int),(n:Int))) (fR s) s.size (.inr ()) rfl ?_ (fun n hn=> ?_)
 ·simp[YdX]
 ·simp only[YdX,ltI hn,cond_true,inc hn (show s.size<=maxEl by omega),lexL,lexD,YBw]
  rw[chkT _ (by omega),chkT _ (by omega)]
  unfold fR
  grind
theorem lexN(s:ByteArray):q28 loO s=some (YB2 s):=by
 rw[<-YAB]
 unfold q28 q103
 by_cases h1:s=YG6 #[]
 ·subst h1;rfl
 ·have h1':s.size≠0:=fun h=>h1 ((YFH s).1 h)
  have h0: ¬ (s.size:Int)=0:=by omega
  by_cases h2:(24:Int)< (s.size:Int)
  ·simp_all
  ·by_cases h3:s=YG6 #[110,117,108,108]
   ·subst h3
    rfl
   ·simp only[h1,h2,h3,h0,decide_false,cond_false,lexL,Yes,YBw]
    rw[chkT _ (by omega),chkT _ (by omega),YAK s (by omega),Yn3 s (by omega),YBw]
def YCy(t:Term):Bool:=bif !decide (t.1=nul0)then YB2 t.1&& (decide (t.2.1=0)&& (decide (t.2.2.1=0)&& (decide (t.2.2.2=nul0)&&true)))else vB t.2
theorem YFY(t:Term):q29 loO t.1 t.2.1 t.2.2.1 t.2.2.2=some (YCy t):=by
 unfold q29 YCy
 rw[lexN,Yet,YBw,YBw]
 grind
def badT(l:List Term):Bool:=anyN (fun m=> !YCy (l.getD m zM)) l.length 0
theorem YFK(l:List Term)(h:l.length<=maxEl):q32 loO l=some (badT l):=by
 have:Yf8 loO (l,(l.length:Int),0)=some (YBy (R:=Int⊕Unit) (fun m=>bif !YCy (l.getD m zM)then some (.inl (m:Int))else none) l.length 0 (.inr ())):=by
  refine Yao (fun n=>(l,(l.length:Int),(n:Int))) _ l.length _ rfl ?_ (fun n hn=> ?_)
  ·simp[YdY]
  ·simp only[YdY,ltI hn,cond_true,inc hn h,YG1,q30]
   rw[chkT _ (by omega),YFY,YBw,YBw]
   grind
 unfold q32 q31 badT
 rw[this,YBw,<-Yer]
 unfold idxR
 cases YBy (R:=Int⊕Unit) (fun m=>bif !YCy (l.getD m zM)then some (.inl (m:Int))else none) l.length 0 (.inr ())<;>rfl
def addV(out:List ByteArray)(v:ByteArray):List ByteArray:=bif !decide (v=nul0)&&decide (idxI out v<0)then out++[v]else out
def YCh(out:List ByteArray)(l:List Term):List ByteArray:=l.foldl (fun o t=>addV o t.1) out
def YBS(out:List ByteArray)(l:List Atom):List ByteArray:=l.foldl (fun o a=>YCh o a.2) out
theorem YAL(out:List ByteArray)(v:ByteArray):(addV out v).length<=out.length+1:=by
 unfold addV
 grind
theorem YgU: ∀(l:List Term) (out:List ByteArray),(YCh out l).length<=out.length+l.length
 | [],out=>by simp[YCh]
 |t::l,out=>by
  have h1:=YgU l (addV out t.1)
  have h2:=YAL out t.1
  simp only[YCh,List.foldl_cons,YGr]at h1⊢
  omega
def sumT(l:List Atom):Nat:=(l.map fun a=>a.2.length).sum
theorem YgV: ∀(l:List Atom) (out:List ByteArray),(YBS out l).length<=out.length+sumT l
 | [],out=>by simp[YBS,sumT]
 |a::l,out=>by
  have h1:=YgV l (YCh out a.2)
  have h2:=YgU a.2 out
  simp only[YBS,sumT,List.foldl_cons,YF9,List.sum_cons]at h1⊢
  omega
theorem YgW{α β:Type}(f:β->α->β)(b:β){l:List α}{n:Nat}{d:α}(h:n<l.length):(l.take (n+1)).foldl f b=f ((l.take n).foldl f b) (l.getD n d):=by
 rw[YbG (d:=d) h,List.foldl_append];rfl
theorem YAM{l:List Nat}: ∀(n:Nat),(l.take n).sum<=l.sum:=by
 induction l with
 |nil=>simp
 |cons a r ih=>
  intro n
  cases n with
  |zero=>simp
  |succ n=>simp_all
theorem YAN(l:List Atom)(n:Nat):sumT (l.take n)<=sumT l:=by
 unfold sumT;rw[List.map_take];exact YAM n
theorem Yev{l:List Atom}{n:Nat}(h:n<l.length):sumT (l.take n)+(l.getD n zA).2.length<=sumT l:=by
 have:=YAN l (n+1)
 rw[YbG (d:=zA) h]at this
 unfold sumT at this⊢
 grind
theorem YFZ(l:List Atom)(h:l.length<=maxEl)(h2:sumT l<=maxEl):q113 loO l=some (YBS [] l):=by
 have inner: ∀(i:Nat) (out:List ByteArray),i<l.length->out.length<=sumT (l.take i)->Ygz loO (l,(i:Int),0,out)=some (l,(i:Int),YCh out (l.getD i zA).2):=by
  intro i out hi ho
  have hb:=Yev hi
  refine Yav (st:=fun n=>(l,(i:Int),(n:Int),YCh out ((l.getD i zA).2.take n))) (N:=(l.getD i zA).2.length) rfl ?_ (fun n hn=> ?_)
  ·simp only[Yee,YG1,nlI,cond_false,YGm]
   rw[chkT _ (by omega)]
  ·have ht:=YgU ((l.getD i zA).2.take n) out
   rw[List.length_take,Nat.min_eq_left (by omega)]at ht
   simp only[Yee,YG1,ltI hn,cond_true,inc hn (show(l.getD i zA).2.length<=maxEl by omega)]
   rw[chkT _ (by omega),chkT _ (by omega),chkT _ ⟨by omega,Int.ofNat_lt.2 hn⟩,YgS _ _ (by omega),YBw]
   have e:YCh out ((l.getD i zA).2.take (n+1))=addV (YCh out ((l.getD i zA).2.take n)) ((l.getD i zA).2.getD n zM).1:=YgW (fun o (t:Term)=>addV o t.1) out (d:=zM) hn
   rw[e]
   rw[chkT _ (by grind)]
   unfold addV
   grind
 have outer:YgA loO (l,0,[])=some (YBS [] l):=by
  refine Yav (st:=fun n=>(l,(n:Int),YBS [] (l.take n))) (N:=l.length) rfl ?_ (fun n hn=> ?_)
  ·simp only[Yef,nlI,cond_false,YGm]
  ·have hl:=YgV (l.take n) []
   simp at hl
   simp only[Yef,ltI hn,cond_true]
   rw[inner n _ hn hl,YBw]
   simp only[inc hn h]
   have e:YBS [] (l.take (n+1))=YCh (YBS [] (l.take n)) (l.getD n zA).2:=YgW (fun o (a:Atom)=>YCh o a.2) [] (d:=zA) hn
   rw[e]
 unfold q113
 simp_all
def inL(l:List ByteArray)(v:ByteArray):Bool:=l.any fun w=>decide (v=w)
theorem inL_iff{l:List ByteArray}{v:ByteArray}:inL l v=true↔v∈l:=by
 unfold inL;simp
theorem YgX(l:List ByteArray)(v:ByteArray):decide (0<=idxI l v)=inL l v:=by
 unfold idxI
 rw[Yer,YGZ,Yb4,inL_iff]
 constructor
 ·simp_all
 ·intro h
  obtain⟨m,hm,e⟩:=YGw.1 h
  exact⟨m,YGM _,by omega,by simp_all⟩
theorem YgY(l:List ByteArray)(v:ByteArray):decide (idxI l v<0)= !inL l v:=by
 rw[<-YgX];grind
theorem YAO(out:List ByteArray)(w v:ByteArray):v∈addV out w↔v∈out\/(v≠nul0/\w=v):=by
 unfold addV
 rw[YgY]
 by_cases h1:w=nul0
 ·grind
 ·by_cases h2:w∈out
  ·grind
  ·have h3:inL out w=false:=by rw[<-Bool.not_eq_true,inL_iff];exact h2
   grind
theorem Yn6: ∀(l:List Term) (out:List ByteArray) (v:ByteArray),v∈YCh out l↔v∈out\/(v≠nul0/\ ∃t∈l,t.1=v)
 | [],out,v=>by simp[YCh]
 |t::l,out,v=>by
  have:=Yn6 l (addV out t.1) v
  simp only[YCh,List.foldl_cons]at this⊢
  rw[this,YAO]
  grind
theorem YcU: ∀(l:List Atom) (out:List ByteArray) (v:ByteArray),v∈YBS out l↔v∈out\/(v≠nul0/\ ∃a∈l,∃t∈a.2,t.1=v)
 | [],out,v=>by simp[YBS]
 |a::l,out,v=>by
  have:=YcU l (YCh out a.2) v
  simp only[YBS,List.foldl_cons]at this⊢
  rw[this,Yn6]
  simp
  constructor
  ·rintro((h| ⟨h1,h2⟩)| ⟨h1,h2⟩)
   ·simp_all
   ·simp_all
   simp_all
  ·rintro(h| ⟨h1,h2|h2⟩)
   ·simp_all
   ·simp_all
   simp_all
def fHd(hd:List ByteArray)(at':List Atom)(n:Nat):Bool:=inL (YBS [] at') (hd.getD n nul0)&& !inL (hd.take n) (hd.getD n nul0)
def YDT(hd:List ByteArray)(at':List Atom):Bool:= !anyN (fun m=> !fHd hd at' m) hd.length 0
theorem YF0(l:List Term)(v:ByteArray)(h:l.length<=maxEl):q35 loO l v=some (anyN (fun m=>decide ((l.getD m zM).1=v)) l.length 0,v):=by
 have:Yf9 loO (l,(l.length:Int),0,v)=some (YBy (R:=(Int×ByteArray)⊕ByteArray) (fun m=>bif decide ((l.getD m zM).1=v)then some (.inl ((m:Int),v))else none) l.length 0 (.inr v)):=by
  refine Yao (fun n=>(l,(l.length:Int),(n:Int),v)) _ l.length _ rfl ?_ (fun n hn=> ?_)
  ·simp[YdZ]
  ·simp only[YdZ,ltI hn,cond_true,inc hn h,YG1,q33,YBw]
   rw[chkT _ (by omega)]
   grind
 unfold q35 q34
 rw[this,YBw]
 have k1:=YgR (R:=(Int×ByteArray)⊕ByteArray) (p:=fun m=>decide ((l.getD m zM).1=v)) (fun m=>.inl ((m:Int),v)) (.inr v) (fun r=>match r with| .inl i=>decide (0<=i.1)| .inr _=>false) rfl (fun m=>by simp) l.length 0
 have k2: ∀k n,(match YBy (R:=(Int×ByteArray)⊕ByteArray) (fun m=>bif decide ((l.getD m zM).1=v)then some (.inl ((m:Int),v))else none) k n (.inr v)with| .inl i=>i.2| .inr b=>b)=v:=by
  intro k
  induction k with
  |zero=>intro n;rfl
  |succ k ih=>intro n;simp only[YBy];grind
 have k2:=k2 l.length 0
 rw[<-k1]
 revert k2
 cases YBy (R:=(Int×ByteArray)⊕ByteArray) (fun m=>bif decide ((l.getD m zM).1=v)then some (.inl ((m:Int),v))else none) l.length 0 (.inr v)with
 |inl i=>intro k2;subst k2;rfl
 |inr b=>intro k2;subst k2;rfl
theorem YF1(l:List Atom)(v:ByteArray)(h:l.length<=maxEl)(h2:sumT l<=maxEl):q38 loO l v=some (anyN (fun m=>anyN (fun k=>decide (((l.getD m zA).2.getD k zM).1=v)) (l.getD m zA).2.length 0) l.length 0,v):=by
 have:Yga loO (l,(l.length:Int),0,v)=some (YBy (R:=(Int×ByteArray)⊕ByteArray) (fun m=>bif anyN (fun k=>decide (((l.getD m zA).2.getD k zM).1=v)) (l.getD m zA).2.length 0 then some (.inl ((m:Int),v))else none) l.length 0 (.inr v)):=by
  refine Yao (fun n=>(l,(l.length:Int),(n:Int),v)) _ l.length _ rfl ?_ (fun n hn=> ?_)
  ·simp[Yd0]
  ·have:=Yev hn
   have hg:(l.getD n zA).2.length<=maxEl:=by omega
   simp only[Yd0,ltI hn,cond_true,inc hn h,YG1,q36]
   rw[chkT _ (by omega),YF0 _ _ hg,YBw,YBw]
   grind
 unfold q38 q37
 rw[this,YBw]
 have k1:=YgR (R:=(Int×ByteArray)⊕ByteArray) (p:=fun m=>anyN (fun k=>decide (((l.getD m zA).2.getD k zM).1=v)) (l.getD m zA).2.length 0) (fun m=>.inl ((m:Int),v)) (.inr v) (fun r=>match r with| .inl i=>decide (0<=i.1)| .inr _=>false) rfl (fun m=>by simp) l.length 0
 have k2: ∀k n,(match YBy (R:=(Int×ByteArray)⊕ByteArray) (fun m=>bif anyN (fun k=>decide (((l.getD m zA).2.getD k zM).1=v)) (l.getD m zA).2.length 0 then some (.inl ((m:Int),v))else none) k n (.inr v)with| .inl i=>i.2| .inr b=>b)=v:=by
  intro k
  induction k with
  |zero=>intro n;rfl
  |succ k ih=>intro n;simp only[YBy];grind
 have k2:=k2 l.length 0
 rw[<-k1]
 revert k2
 cases YBy (R:=(Int×ByteArray)⊕ByteArray) (fun m=>bif anyN (fun k=>decide (((l.getD m zA).2.getD k zM).1=v)) (l.getD m zA).2.length 0 then some (.inl ((m:Int),v))else none) l.length 0 (.inr v)with
 |inl i=>intro k2;subst k2;rfl
 |inr b=>intro k2;subst k2;rfl
theorem Yew{α:Type}(p:α->Bool)(l:List α)(d:α):anyN (fun m=>p (l.getD m d)) l.length 0=l.any p:=by
 rw[YGZ,Yb4,List.any_eq_true]
 constructor
 ·grind
 ·rintro⟨x,hx,h3⟩
  obtain⟨m,hm,e⟩:=YGw.1 hx
  refine⟨m,YGM _,by omega,?_⟩
  simp_all
theorem occ(l:List Atom)(v:ByteArray):(!decide (v=nul0)&&anyN (fun m=>anyN (fun k=>decide (((l.getD m zA).2.getD k zM).1=v)) (l.getD m zA).2.length 0) l.length 0)=inL (YBS [] l) v:=by
 have e1:anyN (fun m=>anyN (fun k=>decide (((l.getD m zA).2.getD k zM).1=v)) (l.getD m zA).2.length 0) l.length 0=l.any (fun a=>a.2.any fun t=>decide (t.1=v)):=by
  rw[<-Yew (fun a=>a.2.any fun t=>decide (t.1=v)) l zA]
  congr 1;funext m
  exact Yew (fun t=>decide (t.1=v)) (l.getD m zA).2 zM
 rw[e1,YGZ,inL_iff,YcU]
 simp
theorem YF2(hd:List ByteArray)(l:List Atom)(hh:hd.length<=maxEl)(h:l.length<=maxEl)(h2:sumT l<=maxEl):q39 loO hd l=some (YDT hd l):=by
 have:Ygb loO (hd,(hd.length:Int),0,hd,l)=some (YBy (R:=Bool⊕Unit) (fun m=>bif !fHd hd l m then some (.inl false)else none) hd.length 0 (.inr ())):=by
  refine Yao (fun n=>(hd,(hd.length:Int),(n:Int),hd,l)) _ hd.length _ rfl ?_ (fun n hn=> ?_)
  ·simp[Yd1]
  ·simp only[Yd1,ltI hn,cond_true,inc hn hh,YG1,YGz]
   rw[chkT _ (by omega),chkT _ (by omega),Yn4 _ _ (by grind),YBw,YF1 _ _ h h2,YBw]
   unfold fHd
   rw[<-occ,YgX]
   grind
 unfold q39 YDT
 rw[this,YBw,Yn0]
 cases anyN (fun m=> !fHd hd l m) hd.length 0<;>rfl
def fQ(db:List Tabl)(l:List Atom)(n:Nat):Option (Int⊕Unit):=
 bif !decide (0<=tabI db (l.getD n zA).1)then some (.inl 4)else bif !decide (((tabO db (l.getD n zA).1).2.1.length:Int)=((l.getD n zA).2.length:Int))then some (.inl 6)else bif badT (l.getD n zA).2 then some (.inl 1)else none
def qI(db:List Tabl)(hd:List ByteArray)(l:List Atom):Int:=
 bif !decide (dbI db=0)then dbI db else bif decide ((l.length:Int)<1)then 1 else bif decide ((6:Int)< (l.length:Int))then 1 else
  match YBy (fQ db l) l.length 0 (.inr ())with| .inl i=>i| .inr _=>bif !YDT hd l then 1 else 0
theorem Yn7{R R' T:Type}(f:Nat->Option (R⊕T))(g:Nat->Option (R⊕R'))(t:T)(r0:R')(hf: ∀n,g n=match f n with|some (.inl i)=>some (.inl i)|some (.inr _)=>none|none=>none)(hn: ∀n u,f n≠some (.inr u)): ∀k n,YBy g k n (.inr r0)=match YBy f k n (.inr t)with| .inl i=>.inl i| .inr _=>.inr r0
 |0,n=>rfl
 |k+1,n=>by
  simp only[YBy]
  rw[hf]
  cases h:f n with
  |none=>exact Yn7 f g t r0 hf hn k (n+1)
  |some x=>grind
theorem YAP(db:List Tabl)(l:List Atom)(n:Nat)(u:Unit):fQ db l n≠some (.inr u):=by
 unfold fQ
 grind
def up{R':Type}(x:Option (Int⊕Unit)):Option (Int⊕R'):=match x with|some (.inl i)=>some (.inl i)|some (.inr _)=>none|none=>none
theorem tQ(db:List Tabl)(hd:List ByteArray)(l:List Atom)(hh:hd.length<=maxEl)(h2:sumT l<=maxEl):q40 loO db hd l=some (qI db hd l):=by
 have hm:maxEl=1073741824:=rfl
 unfold q40 qI
 rw[YAJ,YBw]
 by_cases h:dbI db=0
 ·have hl:=(YgT h).1
  simp only[h,decide_true,YGX,cond_false]
  by_cases h1:(l.length:Int)<1
  ·grind
  ·by_cases h6:(6:Int)< (l.length:Int)
   ·simp_all
   ·simp only[h1,h6,decide_false,cond_false]
    have:Ygc loO (l,(l.length:Int),0,db,hd,l)=some (YBy (R:=Int⊕ (List ByteArray×List Atom)) (fun n=>up (fQ db l n)) l.length 0 (.inr (hd,l))):=by
     refine Yao (fun n=>(l,(l.length:Int),(n:Int),db,hd,l)) _ l.length _ rfl ?_ (fun n hn=> ?_)
     ·simp[Yd2]
     ·have:=Yev hn
      have hg:(l.getD n zA).2.length<=maxEl:=by omega
      simp only[Yd2,ltI hn,cond_true,inc hn (show l.length<=maxEl by omega),YG1]
      rw[chkT _ (by omega),YFJ _ _ (by omega),YBw]
      rw[YFK _ hg,YBw]
      unfold fQ
      cases decide (0<=tabI db (l.getD n zA).1)<;>cases decide (((tabO db (l.getD n zA).1).2.1.length:Int)=((l.getD n zA).2.length:Int))<;>cases badT (l.getD n zA).2<;>rfl
    rw[this,YBw,Yn7 (fQ db l) (fun n=>up (fQ db l n)) () (hd,l) (fun n=>by rcases fQ db l n with _| (_|_)<;>rfl) (YAP db l)]
    cases YBy (fQ db l) l.length 0 (.inr ())with
    |inl i=>rfl
    |inr u=>
     simp only[alt2]
     rw[YF2 hd l hh (by omega) h2,YBw]
     grind
 ·have h4:=YAG db
  simp_all
theorem YAQ{l:List Atom}{k:Nat}(h: ∀n,n<l.length->(l.getD n zA).2.length<=k):sumT l<=l.length*k:=by
 unfold sumT
 have: ∀a∈l,a.2.length<=k:=fun a ha=>by
  obtain⟨m,hm,e⟩:=YGw.1 ha
  grind
 clear h
 induction l with
 |nil=>simp
 |cons a r ih=>
  have h1:=this a (YGf ..)
  have h2:=ih (fun b hb=>this b (YGj _ hb))
  simp only[YF9,List.sum_cons,YGr,YGL];omega
end
end Go.Abs.G47
namespace Go.Abs.G47
open Go Go.Abs
noncomputable section
abbrev Asg(ν:Type):=ByteArray->Option ν
abbrev Ent(ν:Type):=List (Int×ByteArray×ν)
section
variable{ν:Type}[DecidableEq ν]
omit [DecidableEq ν] in
theorem YgZ(k k':ByteArray)(c:Int)(v:ν): ∀l:Ent ν,mfd eqS k' (mpt eqS c k v l)=bif eqS k' k then some v else mfd eqS k' l
 | []=>rfl
 |e::r=>by
  simp only[mpt]
  by_cases h:k=e.2.1
  ·have:eqS k e.2.1=true:=by simp[eqS,h]
   rw[this,cond_true]
   simp only[mfd,<-h]
   cases eqS k' k<;>rfl
  ·have:eqS k e.2.1=false:=by simp[eqS,h]
   rw[this,cond_false]
   simp only[mfd,YgZ k k' c v r]
   by_cases h1:k'=e.2.1
   ·have a1:eqS k' e.2.1=true:=by simp[eqS,h1]
    have a2:eqS k' k=false:=by simp only[eqS,decide_eq_false_iff_not];intro e';exact h (e'.symm.trans h1)
    rw[a1,a2];rfl
   ·have a1:eqS k' e.2.1=false:=by simp[eqS,h1]
    rw[a1];rfl
omit [DecidableEq ν] in
theorem Yg0{c:Int}{k:ByteArray}{v:ν}: ∀l:Ent ν,(mpt eqS c k v l).map (·.2.1)=(match mfd eqS k l with|some _=>l.map (·.2.1)|none=>l.map (·.2.1)++[k])
 | []=>rfl
 |e::r=>by
  simp only[mpt,mfd]
  cases h:eqS k e.2.1 with
  |true=>
   have:k=e.2.1:=by unfold eqS at h;simpa using h
   simp[this]
  |false=>
   simp only[cond_false,YF9,Yg0 r]
   cases mfd eqS k r<;>rfl
def lk(l:Ent ν):Asg ν:=fun k=>mfd eqS k l
def upd(σ:Asg ν)(x:ByteArray)(u:ν):Asg ν:=fun k=>if k=x then some u else σ k
def del(σ:Asg ν)(x:ByteArray):Asg ν:=fun k=>if k=x then none else σ k
def KN(l:Ent ν):Prop:=(l.map (·.2.1)).Nodup
omit [DecidableEq ν] in
theorem Yn8(c:Int)(k:ByteArray)(v:ν)(l:Ent ν):lk (mpt eqS c k v l)=upd (lk l) k v:=by
 funext k'
 unfold lk upd
 rw[YgZ]
 by_cases h:k'=k<;>simp[eqS,h]
omit [DecidableEq ν] in
theorem mfd_none{k:ByteArray}: ∀{l:Ent ν},mfd eqS k l=none↔k∉l.map (·.2.1)
 | []=>by simp[mfd]
 |e::r=>by
  simp only[mfd,YF9,YGe,not_or]
  by_cases h:k=e.2.1
  ·simp[eqS,h]
  ·have:eqS k e.2.1=false:=by simp[eqS,h]
   rw[this,cond_false,mfd_none (l:=r)]
   simp[h]
omit [DecidableEq ν] in
theorem YAR{c:Int}{k:ByteArray}{v:ν}{l:Ent ν}(h:KN l):KN (mpt eqS c k v l):=by
 unfold KN
 rw[Yg0]
 cases hm:mfd eqS k l with
 |some _=>exact h
 |none=>
  rw[List.nodup_append]
  exact⟨h,by simp,fun x hx y hy=>by rw[YGo]at hy;subst hy;intro e;subst e;exact mfd_none.1 hm hx⟩
omit [DecidableEq ν] in
theorem Yn9{k x:ByteArray}: ∀{l:Ent ν},x∈ (mdl eqS k l).map (·.2.1)->x∈l.map (·.2.1)
 | [],h=>h
 |e::r,h=>by
  simp only[mdl]at h
  cases hk:eqS k e.2.1 with
  |true=>rw[hk,cond_true]at h;exact YGj _ h
  |false=>
   rw[hk,cond_false,YF9,YGe]at h
   rw[YF9,YGe]
   exact h.imp_right Yn9
omit [DecidableEq ν] in
theorem Yoa{k:ByteArray}: ∀{l:Ent ν},KN l->KN (mdl eqS k l)/\lk (mdl eqS k l)=del (lk l) k
 | [],h=>⟨h,by funext x;unfold lk del;simp[mdl,mfd]⟩
 |e::r,h=>by
  have h':e.2.1∉r.map (·.2.1)/\KN r:=by unfold KN at h⊢;rw[YF9,List.nodup_cons]at h;exact h
  obtain⟨i1,i2⟩:=Yoa (k:=k) h'.2
  simp only[mdl]
  by_cases hk:k=e.2.1
  ·have:eqS k e.2.1=true:=by simp[eqS,hk]
   rw[this,cond_true]
   refine⟨h'.2,?_⟩
   funext x
   unfold lk del
   by_cases hx:x=k
   ·rw[if_pos hx,hx,hk];exact mfd_none.2 h'.1
   ·rw[if_neg hx]
    have:eqS x e.2.1=false:=by simp[eqS,<-hk,hx]
    simp only[mfd,this,cond_false]
  ·have:eqS k e.2.1=false:=by simp[eqS,hk]
   rw[this,cond_false]
   refine⟨?_,?_⟩
   ·show(List.map (·.2.1) (e::mdl eqS k r)).Nodup
    rw[YF9,List.nodup_cons]
    exact⟨fun hm=>h'.1 (Yn9 hm),i1⟩
   ·funext x
    have i2:=congrFun i2 x
    unfold lk del at i2⊢
    simp only[mfd,i2]
    by_cases hx:x=k
    ·have:eqS x e.2.1=false:=by simp[eqS,hx,hk]
     rw[this];simp[hx]
    ·simp[hx]
def delG(l:Ent ν)(fresh:List ByteArray):Ent ν:=fresh.foldl (fun l k=>mdl eqS k l) l
omit [DecidableEq ν] in
theorem Yob: ∀(fresh:List ByteArray) {l:Ent ν},KN l->KN (delG l fresh)/\ ∀k,lk (delG l fresh) k=bif inL fresh k then none else lk l k
 | [],l,h=>⟨h,fun k=>rfl⟩
 |x::r,l,h=>by
  obtain⟨h1,h2⟩:=Yoa (k:=x) h
  obtain⟨i1,i2⟩:=Yob r h1
  refine⟨i1,fun k=> ?_⟩
  show lk (delG (mdl eqS x l) r) k=_
  rw[i2,h2]
  unfold del
  show _=bif decide (k=x)||inL r k then none else _
  by_cases hx:k=x<;>cases inL r k<;>simp[hx]
def tmM(σ:Asg ν)(x:ByteArray)(c u:ν):Option (Asg ν):=if x=nul0 then(if c=u then some σ else none)else
 match σ x with
 |some w=>if w=u then some σ else none
 |none=>some (upd σ x u)
def tsM:Asg ν->List (ByteArray×ν)->List ν->Option (Asg ν)
 |σ,[],_=>some σ
 |σ,_::_,[]=>none
 |σ,p::ps,u::us=>(tmM σ p.1 p.2 u).bind fun σ'=>tsM σ' ps us
def fitG:List (ByteArray×ν)->List ν->Int->Ent ν->List ByteArray->Bool×Int×Ent ν×List ByteArray
 | [],_,clk,l,fr=>(true,clk,l,fr)
 |_::_,[],clk,l,fr=>(false,clk,l,fr)
 |p::ps,u::us,clk,l,fr=>if p.1=nul0 then(if p.2=u then fitG ps us clk l fr else(false,clk,l,fr))else
  match mfd eqS p.1 l with
  |some w=>if w=u then fitG ps us clk l fr else(false,clk,l,fr)
  |none=>fitG ps us (mck eqS clk p.1 l) (mpt eqS clk p.1 u l) (fr++[p.1])
structure FitOk(σ0:Asg ν)(σ':Option (Asg ν))(r:Bool×Int×Ent ν×List ByteArray)(n:Nat):Prop where
 kn:KN r.2.2.1
 len:r.2.2.2.length<=n
 new: ∀k∈r.2.2.2,σ0 k=none
 old: ∀k,k∉r.2.2.2->lk r.2.2.1 k=σ0 k
 ok:r.1=σ'.isSome
 val: ∀σ1,σ'=some σ1->lk r.2.2.1=σ1
theorem Yex{σ0:Asg ν}: ∀(ps:List (ByteArray×ν)) (us:List ν) (clk:Int) (l:Ent ν) (fr:List ByteArray),KN l->(∀k∈fr,σ0 k=none)->(∀k,k∉fr->lk l k=σ0 k)->
  FitOk σ0 (tsM (lk l) ps us) (fitG ps us clk l fr) (fr.length+ps.length)
 | [],us,clk,l,fr,hk,hf,hl=>⟨hk,by simp[fitG],hf,hl,rfl,fun σ1 h=>by injection h⟩
 |p::ps,[],clk,l,fr,hk,hf,hl=>⟨hk,by simp[fitG],hf,hl,rfl,fun σ1 h=>by cases h⟩
 |p::ps,u::us,clk,l,fr,hk,hf,hl=>by
  have up: ∀{σ' r},FitOk σ0 σ' r (fr.length+ps.length)->FitOk σ0 σ' r (fr.length+(p::ps).length):=fun h=>⟨h.kn,by have:=h.len;grind,h.new,h.old,h.ok,h.val⟩
  have stop:FitOk σ0 none (false,clk,l,fr) (fr.length+(p::ps).length):=⟨hk,by simp,hf,hl,rfl,fun σ1 h=>by cases h⟩
  simp only[fitG,tsM,tmM]
  by_cases h0:p.1=nul0
  ·rw[if_pos h0,if_pos h0]
   by_cases hc:p.2=u
   ·rw[if_pos hc,if_pos hc];exact up (Yex ps us clk l fr hk hf hl)
   simp_all
  ·rw[if_neg h0,if_neg h0]
   have e:lk l p.1=mfd eqS p.1 l:=rfl
   rw[e]
   cases hm:mfd eqS p.1 l with
   |some w=>
    simp only
    by_cases hc:w=u
    ·rw[if_pos hc,if_pos hc];exact up (Yex ps us clk l fr hk hf hl)
    simp_all
   |none=>
    have:=Yex (σ0:=σ0) ps us (mck eqS clk p.1 l) (mpt eqS clk p.1 u l) (fr++[p.1]) (YAR hk) (fun k hk'=>by
     grind) (fun k hk'=>by
     rw[Yn8];unfold upd;simp_all)
    rw[Yn8]at this
    grind
theorem fit0{ps:List (ByteArray×ν)}{us:List ν}(clk:Int){l:Ent ν}(hk:KN l):FitOk (lk l) (tsM (lk l) ps us) (fitG ps us clk l []) ps.length:=by
 have:=Yex (σ0:=lk l) ps us clk l [] hk (fun k h=>by cases h) (fun k _=>rfl)
 simp_all
omit [DecidableEq ν] in
theorem Yoc{σ0:Asg ν}{fr:List ByteArray}{l:Ent ν}(hk:KN l)(hn: ∀k∈fr,σ0 k=none)(ho: ∀k,k∉fr->lk l k=σ0 k):KN (delG l fr)/\lk (delG l fr)=σ0:=by
 obtain⟨h1,h2⟩:=Yob fr hk
 refine⟨h1,?_⟩
 funext k
 rw[h2]
 cases h:inL fr k with
 |true=>exact(hn k (inL_iff.1 h)).symm
 |false=>exact ho k fun hm=>by rw[inL_iff.2 hm]at h;cases h
def leA(σ τ:Asg ν):Prop:= ∀k v,σ k=some v->τ k=some v
omit [DecidableEq ν] in
theorem leA.refl(σ:Asg ν):leA σ σ:=fun _ _ h=>h
omit [DecidableEq ν] in
theorem leA.trans{σ τ ρ:Asg ν}(h:leA σ τ)(h':leA τ ρ):leA σ ρ:=fun k v e=>h' k v (h k v e)
def Img(σ:Asg ν):List (ByteArray×ν)->List ν->Prop
 | [],_=>True
 |_::_,[]=>False
 |p::ps,u::us=>(if p.1=nul0 then p.2=u else σ p.1=some u)/\Img σ ps us
omit [DecidableEq ν] in
theorem Img.mono{σ τ:Asg ν}(h:leA σ τ): ∀{ps us},Img σ ps us->Img τ ps us
 | [],_,_=>trivial
 |_::_,[],h'=>h'.elim
 |p::ps,u::us,h'=>by
  refine⟨?_,h'.2.mono h⟩
  have:=h'.1
  by_cases h0:p.1=nul0
  ·rw[if_pos h0]at this⊢;exact this
  ·rw[if_neg h0]at this⊢;exact h _ _ this
theorem YAS{σ σ':Asg ν}{x:ByteArray}{c u:ν}(h:tmM σ x c u=some σ'):leA σ σ'/\if x=nul0 then c=u else σ' x=some u:=by
 unfold tmM at h
 by_cases h0:x=nul0
 ·rw[if_pos h0]at h⊢
  by_cases hc:c=u
  ·rw[if_pos hc]at h;injection h with h;subst h;exact⟨leA.refl _,hc⟩
  simp_all
 ·rw[if_neg h0]at h⊢
  cases hs:σ x with
  |some w=>
   rw[hs]at h;simp only at h
   by_cases hc:w=u
   ·rw[if_pos hc]at h;injection h with h;subst h;exact⟨leA.refl _,by simp_all⟩
   simp_all
  |none=>
   rw[hs]at h;injection h with h;subst h
   refine⟨fun k v e=> ?_,by unfold upd;simp⟩
   unfold upd
   grind
theorem Yod: ∀{ps:List (ByteArray×ν)} {us:List ν} {σ σ':Asg ν},tsM σ ps us=some σ'->leA σ σ'/\Img σ' ps us
 | [],us,σ,σ',h=>by injection h with h;subst h;exact⟨leA.refl _,trivial⟩
 |_::_,[],_,_,h=>by cases h
 |p::ps,u::us,σ,σ',h=>by
  simp only[tsM]at h
  cases h1:tmM σ p.1 p.2 u with
  |none=>simp_all
  |some σ1=>
   rw[h1]at h
   obtain⟨a1,a2⟩:=YAS h1
   obtain⟨b1,b2⟩:=Yod (show tsM σ1 ps us=some σ' from h)
   refine⟨a1.trans b1,?_,b2⟩
   by_cases h0:p.1=nul0
   ·simp_all
   ·rw[if_neg h0]at a2⊢;exact b1 _ _ a2
theorem Yoe: ∀{ps:List (ByteArray×ν)} {us:List ν} {σ τ:Asg ν},leA σ τ->Img τ ps us-> ∃σ',tsM σ ps us=some σ'/\leA σ' τ
 | [],us,σ,τ,h,_=>⟨σ,rfl,h⟩
 |_::_,[],_,_,_,h=>h.elim
 |p::ps,u::us,σ,τ,h,h'=>by
  have hm: ∃σ1,tmM σ p.1 p.2 u=some σ1/\leA σ1 τ:=by
   have h1:=h'.1
   unfold tmM
   by_cases h0:p.1=nul0
   ·simp_all
   ·rw[if_neg h0]at h1⊢
    cases hs:σ p.1 with
    |some w=>
     have:=h _ _ hs
     simp_all
    |none=>
     refine⟨_,rfl,fun k v e=> ?_⟩
     unfold upd at e
     by_cases hk:k=p.1
     ·simp_all
     ·rw[if_neg hk]at e;exact h k v e
  obtain⟨σ1,e1,l1⟩:=hm
  obtain⟨σ',e2,l2⟩:=Yoe l1 h'.2
  exact⟨σ',by simp only[tsM,e1];exact e2,l2⟩
end
end
end Go.Abs.G47
namespace Go.Abs.G47
open Go Go.Abs
noncomputable section
theorem YF3{A B:Type}{a:Option A}{f g:A->Option B}{y:B}(h:YGO a f=some y)(k: ∀z,f z=some y->g z=some y):YGO a g=some y:=by
 cases a with
 |none=>cases h
 |some z=>exact k z h
theorem YFL{A B:Type}{a a':Option A}{f g:A->Option B}{y:B}(h:YGO a f=some y)(ha: ∀z,a=some z->a'=some z)(k: ∀z,f z=some y->g z=some y):YGO a' g=some y:=by
 cases a with
 |none=>cases h
 |some z=>rw[ha z rfl];exact k z h
theorem chkm{B:Type}{p:Prop}[Decidable p]{a a':Option B}{y:B}(h:chk p a=some y)(k:a=some y->a'=some y):chk p a'=some y:=by
 by_cases hp:p
 ·rw[chkT _ hp]at*;exact k h
 ·simp[chk,hp]at h
theorem YEU{B:Type}{c:Bool}{a a' x x':Option B}{y:B}(h:(bif c then a else x)=some y)(k:a=some y->a'=some y)(k':x=some y->x'=some y):(bif c then a' else x')=some y:=by
 cases c with
 |true=>exact k h
 |false=>exact k' h
theorem YAT{S R:Type}{s s':S->Option (S⊕R)}(h: ∀x y,s x=some y->s' x=some y){x:S}{y:R}(hy:YBU s x=some y):YBU s' x=some y:=by
 obtain⟨n,hn⟩:=YcF hy
 refine YbX (n:=n) ?_
 clear hy
 induction n generalizing x with
 |zero=>cases hn
 |succ n ih=>
  simp only[YCd]at hn⊢
  cases hs:s x with
  |none=>rw[hs]at hn;cases hn
  |some z=>
   rw[hs]at hn
   rw[h x z hs]
   cases z with
   |inl a=>exact ih hn
   |inr b=>exact hn
theorem Yg1{α:Type}{l:List α}{n:Nat}{d:α}(h:n<l.length):l.drop n=l.getD n d::l.drop (n+1):=by
 rw[List.drop_eq_getElem_cons h,YGs,YF7 h];rfl
end
end Go.Abs.G47
namespace Go.Abs.G47
open Go Go.Abs
noncomputable section
abbrev Val:=Int×Int×ByteArray
abbrev Way:=List Int×Asg Val
def pV(l:List Term):List (ByteArray×Val):=l.map fun t=>(t.1,t.2)
theorem eqV(a b:Val):(decide (a.1=b.1)&& (decide (a.2.1=b.2.1)&& (decide (a.2.2=b.2.2)&&true)))=decide (a=b):=by
 grind
def wyM:List (List Term×Rws)->Asg Val->List Int->List Way
 | [],σ,r=>[(r,σ)]
 |q::rest,σ,r=>q.2.flatMap fun row=>match tsM σ (pV q.1) row.2 with
  |some σ'=>wyM rest σ' (r++[row.1])
  |none=>[]
def visit{E:Type}(see:Way->E->Bool×E):List Way->E->Bool×E
 | [],e=>(true,e)
 |w::ws,e=>match see w e with
  | (true,e')=>visit see ws e'
  | (false,e')=>(false,e')
theorem Yof{E:Type}(see:Way->E->Bool×E)(b:List Way): ∀(a:List Way) (e:E),visit see (a++b) e=match visit see a e with| (true,e')=>visit see b e'| (false,e')=>(false,e')
 | [],e=>rfl
 |w::a,e=>by
  simp only[YGv,visit]
  rcases h:see w e with⟨_|_,e'⟩
  ·rfl
  ·exact Yof see b a e'
theorem Yog{E:Type}{see:Way->E->Bool×E}{I:E->Prop}(hs: ∀w e,I e->(see w e).1=true->I (see w e).2): ∀{ws:List Way} {e:E},I e->(visit see ws e).1=true->I (visit see ws e).2
 | [],e,h,_=>h
 |w::ws,e,h,hv=>by
  have h1:=hs w e h
  simp only[visit]at hv⊢
  rcases hx:see w e with⟨_|_,e'⟩
  ·simp_all
  ·rw[hx]at hv h1;exact Yog hs (h1 rfl) hv
def PR(l:List Atom)(tb:List Tabl):List (List Term×Rws):=List.zipWith (fun a t=>(a.2,t.2.2)) l tb
theorem YAU{l:List Atom}{tb:List Tabl}(h:l.length=tb.length){n:Nat}(hn:n<l.length):(PR l tb).drop n=((l.getD n zA).2,(tb.getD n zT).2.2)::(PR l tb).drop (n+1):=by
 unfold PR
 have h2:n< (List.zipWith (fun(a:Atom) (t:Tabl)=>(a.2,t.2.2)) l tb).length:=by simp_all
 rw[List.drop_eq_getElem_cons h2]
 simp_all
theorem YAV{l:List Atom}{tb:List Tabl}(h:l.length=tb.length):(PR l tb).drop l.length=[]:=by
 apply List.drop_of_length_le
 unfold PR;simp_all
structure TbOk(l:List Atom)(tb:List Tabl):Prop where
 len:l.length=tb.length
 sm:l.length<=6
 tl: ∀n,n<l.length->(l.getD n zA).2.length<=maxEl
 rl: ∀n,n<l.length->(tb.getD n zT).2.2.length<=maxEl
 ar: ∀n,n<l.length-> ∀row∈ (tb.getD n zT).2.2,row.2.length=(l.getD n zA).2.length
end
end Go.Abs.G47
namespace Go.Abs.G47
open Go Go.Abs
noncomputable section
abbrev E:=Int×Ent Vals×Bool
abbrev RRec:=Int×List ByteArray×List Atom×List Tabl×Int×Ent Val×Bool×Bool×List Int×Int×Ent Vals×Bool->Option (Bool×List ByteArray×List Atom×List Tabl×Int×Ent Val×Bool×Bool×Int×Ent Vals×Bool×List Int)
theorem YAW(ts:List Term)(us:Vals)(r0:Int)(hd:List ByteArray)(l0:List Atom)(tb:List Tabl)(m2 m3:Bool)(rs:List Int)(e:E)(h:us.length=ts.length)(hm:ts.length<=maxEl): ∀(k n:Nat),n+k=ts.length-> ∀(clk:Int) (l:Ent Val) (fr:List ByteArray),fr.length+k<=maxEl->
  Ygj loO (ts,(ts.length:Int),(n:Int),hd,l0,tb,clk,l,m2,m3,rs,e.1,e.2.1,e.2.2,r0,us,fr)=some (let r:=fitG ((pV ts).drop n) (us.drop n) clk l fr
   bif r.1 then .inr (hd,l0,tb,r.2.1,r.2.2.1,m2,m3,rs,e.1,e.2.1,e.2.2,r.2.2.2)else .inl (false,hd,l0,tb,r.2.1,r.2.2.1,m2,m3,rs,e.1,e.2.1,e.2.2,r.2.2.2)):=by
 have hM:maxEl=1073741824:=rfl
 intro k
 induction k with
 |zero=>
  intro n hn clk l fr hf
  show YBU _ _=_
  rw[YaV]
  have e:n=ts.length:=by omega
  subst e
  simp only[YcH,nlI,cond_false]
  rw[List.drop_of_length_le (by unfold pV;simp)]
  rfl
 |succ k ih=>
  intro n hn clk l fr hf
  have hlt:n<ts.length:=by omega
  show YBU _ _=_
  have e1:(pV ts).drop n=((ts.getD n zM).1,(ts.getD n zM).2)::(pV ts).drop (n+1):=by
   unfold pV
   rw[Yg1 (d:=(zM.1,zM.2)) (by simp_all)]
   simp
  rw[e1,Yg1 (l:=us) (d:=zV) (by omega)]
  have key: ∀(t:Term) (u:Val),ts.getD n zM=t->us.getD n zV=u->YBU (YcH loO) (ts,(ts.length:Int),(n:Int),hd,l0,tb,clk,l,m2,m3,rs,e.1,e.2.1,e.2.2,r0,us,fr)=some (let r:=fitG ((t.1,t.2)::(pV ts).drop (n+1)) (u::us.drop (n+1)) clk l fr
   bif r.1 then .inr (hd,l0,tb,r.2.1,r.2.2.1,m2,m3,rs,e.1,e.2.1,e.2.2,r.2.2.2)else .inl (false,hd,l0,tb,r.2.1,r.2.2.1,m2,m3,rs,e.1,e.2.1,e.2.2,r.2.2.2)):=by
   intro t u ht hu'
   rw[YaV]
   simp only[YcH,ltI hlt,cond_true,YG1,Yd7,fitG,ht,hu']
   rw[chkT _ (by omega)]
   by_cases h0:t.1=nul0
   ·rw[if_pos h0]
    simp only[h0,decide_true,YGX,cond_false]
    rw[chkT _ (by omega),eqV t.2 u]
    by_cases hu:t.2=u
    ·rw[if_pos hu]
     simp only[hu,decide_true,YGX,cond_false,YBw,alt2,inc hlt hm]
     exact ih (n+1) (by omega) clk l fr (by omega)
    ·rw[if_neg hu]
     simp only[hu,decide_false,YGY,cond_true,YBw,alt2]
     rfl
   ·rw[if_neg h0]
    have e0:decide (t.1=nul0)=false:=decide_eq_false h0
    simp only[e0,YGY,cond_true]
    unfold mhs mgt
    cases hf:mfd eqS t.1 l with
    |none=>
     simp
     rw[chkT _ (by omega),chkT _ (by grind),YBw]
     simp only[alt2,inc hlt hm]
     exact ih (n+1) (by omega) _ _ _ (by grind)
    |some w=>
     simp only[YGX,cond_false]
     rw[chkT _ (by omega),eqV w u]
     by_cases hu:w=u
     ·rw[if_pos hu]
      simp only[hu,decide_true,YGX,cond_false,YBw,alt2,inc hlt hm]
      exact ih (n+1) (by omega) clk l fr (by omega)
     ·rw[if_neg hu]
      simp only[hu,decide_false,YGY,cond_true,YBw,alt2]
      rfl
  simp_all
theorem fit(a0:ByteArray)(ts:List Term)(us:Vals)(r0:Int)(hd:List ByteArray)(l0:List Atom)(tb:List Tabl)(m2 m3:Bool)(rs:List Int)(e:E)(clk:Int)(l:Ent Val)(h:us.length=ts.length)(hm:ts.length<=maxEl):
  q49 loO a0 ts r0 us hd l0 tb clk l m2 m3 rs e.1 e.2.1 e.2.2=some ((fitG (pV ts) us clk l []).1,hd,l0,tb,(fitG (pV ts) us clk l []).2.1,(fitG (pV ts) us clk l []).2.2.1,m2,m3,rs,e.1,e.2.1,e.2.2,(fitG (pV ts) us clk l []).2.2.2):=by
 unfold q49
 have:=YAW ts us r0 hd l0 tb m2 m3 rs e h hm ts.length 0 (by omega) clk l [] (by simp_all)
 rw[YGz,YGz,show((0:Nat):Int)=0 from rfl]at this
 rw[this,YBw]
 generalize fitG (pV ts) us clk l []=r
 obtain⟨_|_,r⟩:=r<;>rfl
theorem delR(rec:RRec)(i n m:Int)(on:Bool)(R:Rws)(fr:List ByteArray)(hd:List ByteArray)(l0:List Atom)(tb:List Tabl)(clk:Int)(l:Ent Val)(m2 m3:Bool)(rs:List Int)(e:E)(h:fr.length<=maxEl):
  Yd9 loO rec (i,on,R,n,m,(fr.length:Int),0,hd,l0,tb,clk,l,m2,m3,e.1,e.2.1,e.2.2,fr,rs)=some (i,on,R,n,m,hd,l0,tb,clk,delG l fr,m2,m3,e.1,e.2.1,e.2.2,rs):=by
 refine Yav (st:=fun j=>(i,on,R,n,m,(fr.length:Int),(j:Int),hd,l0,tb,clk,delG l (fr.take j),m2,m3,e.1,e.2.1,e.2.2,fr,rs)) (N:=fr.length) rfl ?_ (fun j hj=> ?_)
 ·simp only[Yd8,nlI,cond_false,YGm]
 ·simp only[Yd8,ltI hj,cond_true,inc hj h,YG1]
  rw[chkT _ (by omega)]
  have e:delG l (fr.take (j+1))=mdl eqS (fr.getD j nul0) (delG l (fr.take j)):=YgW (fun l k=>mdl eqS k l) l (d:=nul0) hj
  rw[e]
section
variable{see:Way->E->Bool×E}{I:E->Prop}{J:Asg Val->Prop}{hd:List ByteArray}{l0:List Atom}{tb:List Tabl}{m2 m3:Bool}
theorem YAX(hI: ∀w e,I e->(see w e).1=true->I (see w e).2)(ok:TbOk l0 tb)(hJ: ∀i,i<l0.length-> ∀row∈ (tb.getD i zT).2.2,∀σ σ',J σ->tsM σ (pV (l0.getD i zA).2) row.2=some σ'->J σ')(rec:RRec){i:Nat}(hi:i<l0.length)(rs:List Int)(hr:rs.length=i)
  (hrec: ∀clk (l:Ent Val) id e,KN l->J (lk l)->I e-> ∃clk' l',rec (((i+1:Nat):Int),hd,l0,tb,clk,l,m2,m3,rs++[id],e.1,e.2.1,e.2.2)=some ((visit see (wyM ((PR l0 tb).drop (i+1)) (lk l) (rs++[id])) e).1,hd,l0,tb,clk',l',m2,m3,(visit see (wyM ((PR l0 tb).drop (i+1)) (lk l) (rs++[id])) e).2.1,(visit see (wyM ((PR l0 tb).drop (i+1)) (lk l) (rs++[id])) e).2.2.1,(visit see (wyM ((PR l0 tb).drop (i+1)) (lk l) (rs++[id])) e).2.2.2,rs++[id])/\KN l'/\lk l'=lk l) (σ:Asg Val) (hσ:J σ):
  ∀(k n:Nat),n+k=(tb.getD i zT).2.2.length-> ∀clk (l:Ent Val) e,KN l->lk l=σ->I e-> ∃clk' l',KN l'/\lk l'=σ/\YcI loO rec ((i:Int),(tb.getD i zT).2.2,((tb.getD i zT).2.2.length:Int),(n:Int),hd,l0,tb,clk,l,m2,m3,e.1,e.2.1,e.2.2,rs)=some (
   match visit see (((tb.getD i zT).2.2.drop n).flatMap fun row=>match tsM σ (pV (l0.getD i zA).2) row.2 with|some σ'=>wyM ((PR l0 tb).drop (i+1)) σ' (rs++[row.1])|none=>[]) e with
   | (true,e)=>.inr (hd,l0,tb,clk',l',m2,m3,e.1,e.2.1,e.2.2,rs)
   | (false,e)=>.inl (false,hd,l0,tb,clk',l',m2,m3,e.1,e.2.1,e.2.2,rs)):=by
 have hM:maxEl=1073741824:=rfl
 have hT:=ok.tl i hi
 have hR:=ok.rl i hi
 have hA:=ok.ar i hi
 have hJi:=hJ i hi
 have hS:=ok.sm
 generalize(tb.getD i zT).2.2=R at*
 intro k
 induction k with
 |zero=>
  intro n hn clk l e hk hl he
  refine⟨clk,l,hk,hl,?_⟩
  have en:n=R.length:=by omega
  subst en
  rw[List.drop_of_length_le (YGE _)]
  show YBU _ _=_
  rw[YaV]
  simp only[Yb0,nlI,cond_false]
  rfl
 |succ k ih=>
  intro n hn clk l e hk hl he
  have hlt:n<R.length:=by omega
  rw[Yg1 (d:=zR) hlt,List.flatMap_cons,Yof]
  have hrow:=hA _ (Yaj (d:=zR) hlt)
  have hJr:=hJi _ (Yaj (d:=zR) hlt)
  generalize hq:R.getD n zR=row at*
  have hF:=fit0 (ps:=pV (l0.getD i zA).2) (us:=row.2) clk hk
  rw[hl]at hF
  have hfl:(fitG (pV (l0.getD i zA).2) row.2 clk l []).2.2.2.length<=maxEl:=by
   have:=hF.len;unfold pV at this;rw[YGp]at this;exact YGH this hT
  have hf:=fit (l0.getD i zA).1 (l0.getD i zA).2 row.2 row.1 hd l0 tb m2 m3 rs e clk l hrow hT
  have step: ∀s',Yb0 loO rec ((i:Int),R,(R.length:Int),(n:Int),hd,l0,tb,clk,l,m2,m3,e.1,e.2.1,e.2.2,rs)=s'->YcI loO rec ((i:Int),R,(R.length:Int),(n:Int),hd,l0,tb,clk,l,m2,m3,e.1,e.2.1,e.2.2,rs)=(match s' with|some (.inl s)=>YcI loO rec s|some (.inr x)=>some x|none=>none):=by
   intro s' hs;subst hs
   show YBU _ _=_
   rw[YaV]
   rcases Yb0 loO rec ((i:Int),R,(R.length:Int),(n:Int),hd,l0,tb,clk,l,m2,m3,e.1,e.2.1,e.2.2,rs)with _| (_|_)<;>rfl
  have nx:YG7 .i64 ((n:Int)+1)=((n+1:Nat):Int):=inc hlt hR
  have ix:YG7 .i64 ((i:Int)+1)=((i+1:Nat):Int):=inc hi (by omega)
  have tk: ∀id:Int,(rs++[id]).take i=rs:=fun id=>by rw[<-hr];simp
  simp only[Yb0,ltI hlt,cond_true,YG1,hq]at step
  rw[chkT _ (by omega),chkT _ (by omega),hf,YBw]at step
  dsimp only at step
  rw[chkT _ rfl,chkT _ rfl,chkT _ (by rw[List.length_singleton];omega),hF.ok]at step
  cases hx:tsM σ (pV (l0.getD i zA).2) row.2 with
  |none=>
   rw[hx]at step
   simp only[Option.isSome_none,YGY,cond_true]at step
   rw[chkT _ (by simp;omega),tk,delR _ _ _ _ _ _ _ _ _ _ _ _ _ _ _ e hfl,YBw]at step
   simp only[YGX,cond_false,nx]at step
   obtain⟨d1,d2⟩:=Yoc hF.kn hF.new hF.old
   obtain⟨clk',l',k1,k2,k3⟩:=ih (n+1) (by omega) (fitG (pV (l0.getD i zA).2) row.2 clk l []).2.1 _ e d1 d2 he
   refine⟨clk',l',k1,k2,?_⟩
   rw[step _ rfl]
   exact k3
  |some σ1=>
   rw[hx]at step
   simp only[Option.isSome_some,YGX,cond_false,ix]at step
   obtain⟨c2,l2,r1,r2,r3⟩:=hrec (fitG (pV (l0.getD i zA).2) row.2 clk l []).2.1 _ row.1 e hF.kn (by rw[hF.val σ1 hx];exact hJr σ σ1 hσ hx) he
   rw[r1,YBw,hF.val σ1 hx]at step
   rw[hF.val σ1 hx]at r3
   dsimp only at step
   obtain⟨d1,d2⟩:=Yoc (σ0:=σ) r2 hF.new (by rw[r3,<-hF.val σ1 hx];exact hF.old)
   have hv:=Yog (see:=see) hI (ws:=wyM ((PR l0 tb).drop (i+1)) σ1 (rs++[row.1])) he
   rcases hvv:visit see (wyM ((PR l0 tb).drop (i+1)) σ1 (rs++[row.1])) e with⟨_|_,e'⟩
   ·rw[hvv]at step
    rw[chkT _ rfl,chkT _ (by simp;omega),tk,delR _ _ _ _ _ _ _ _ _ _ _ _ _ _ _ e' hfl,YBw]at step
    simp only[YGY,cond_true]at step
    exact⟨c2,_,d1,d2,by rw[step _ rfl]⟩
   ·rw[hvv]at step hv
    rw[chkT _ rfl,chkT _ (by simp;omega),tk,delR _ _ _ _ _ _ _ _ _ _ _ _ _ _ _ e' hfl,YBw]at step
    simp only[YGX,cond_false,nx]at step
    obtain⟨clk',l',k1,k2,k3⟩:=ih (n+1) (by omega) c2 _ e' d1 d2 (hv rfl)
    refine⟨clk',l',k1,k2,?_⟩
    rw[step _ rfl]
    exact k3
theorem YAY(hI: ∀w e,I e->(see w e).1=true->I (see w e).2)(ok:TbOk l0 tb)(hJ: ∀i,i<l0.length-> ∀row∈ (tb.getD i zT).2.2,∀σ σ',J σ->tsM σ (pV (l0.getD i zA).2) row.2=some σ'->J σ')
  (hsee: ∀(clk:Int) (l:Ent Val) (rs:List Int) (e:E),rs.length<=6->KN l->J (lk l)->I e->q48 loO hd l0 e.1 e.2.1 e.2.2 tb clk l m2 m3 rs=some ((see (rs,lk l) e).1,hd,l0,(see (rs,lk l) e).2.1,(see (rs,lk l) e).2.2.1,(see (rs,lk l) e).2.2.2,tb,clk,l,m2,m3,rs)) (j:Nat):
  ∀(k i:Nat),i+k=l0.length-> ∀clk (l:Ent Val) rs e,rs.length=i->KN l->J (lk l)->I e-> ∃clk' l',YaW loO (k+1+j) ((i:Int),hd,l0,tb,clk,l,m2,m3,rs,e.1,e.2.1,e.2.2)=some ((visit see (wyM ((PR l0 tb).drop i) (lk l) rs) e).1,hd,l0,tb,clk',l',m2,m3,(visit see (wyM ((PR l0 tb).drop i) (lk l) rs) e).2.1,(visit see (wyM ((PR l0 tb).drop i) (lk l) rs) e).2.2.1,(visit see (wyM ((PR l0 tb).drop i) (lk l) rs) e).2.2.2,rs)/\KN l'/\lk l'=lk l:=by
 intro k
 have hS:=ok.sm
 induction k with
 |zero=>
  intro i hi clk l rs e hr hk hj he
  have en:i=l0.length:=by omega
  subst en
  refine⟨clk,l,?_,hk,rfl⟩
  rw[show 0+1+j=j+1 by omega]
  show Yb1 loO (YaW loO j) _ _ _ _ _ _ _ _ _ _ _ _=_
  unfold Yb1
  rw[cT _ _ rfl]
  rw[hsee clk l rs e (by omega) hk hj he,YBw,YAV ok.len]
  dsimp only
  rw[chkT _ rfl,chkT _ rfl]
  simp only[wyM,visit]
  grind
 |succ k ih=>
  intro i hi clk l rs e hr hk hj he
  have hlt:i<l0.length:=by omega
  rw[show k+1+1+j=(k+1+j)+1 by omega]
  show∃clk' l',Yb1 loO (YaW loO (k+1+j)) _ _ _ _ _ _ _ _ _ _ _ _=_/\_
  unfold Yb1
  have e0:decide ((i:Int)=(l0.length:Int))=false:=by grind
  have hl:=ok.len
  simp only[e0,cond_false,YG1]
  rw[chkT _ (by omega)]
  obtain⟨clk',l',k1,k2,k3⟩:=YAX hI ok hJ (YaW loO (k+1+j)) hlt rs hr (fun clk l id e hk hj he=>ih (i+1) (by omega) clk l (rs++[id]) e (by simp_all) hk hj he) (lk l) hj (tb.getD i zT).2.2.length 0 (by omega) clk l e hk rfl he
  rw[show((0:Nat):Int)=0 from rfl,YGz]at k3
  refine⟨clk',l',?_,k1,k2⟩
  rw[k3,YBw,YAU hl hlt]
  simp only[wyM]
  generalize visit see ((tb.getD i zT).2.2.flatMap fun row=>match tsM (lk l) (pV (l0.getD i zA).2) row.2 with|some σ'=>wyM ((PR l0 tb).drop (i+1)) σ' (rs++[row.1])|none=>[]) e=q
  obtain⟨_|_,e'⟩:=q<;>rfl
theorem Yoh: ∀n x y,YaW loO n x=some y->YaW loO (n+1) x=some y
 |0,_,_,h=>by cases h
 |n+1,x,y,h=>by
  have ih:=Yoh n
  have h':Yb1 loO (YaW loO n) x.1 x.2.1 x.2.2.1 x.2.2.2.1 x.2.2.2.2.1 x.2.2.2.2.2.1 x.2.2.2.2.2.2.1 x.2.2.2.2.2.2.2.1 x.2.2.2.2.2.2.2.2.1 x.2.2.2.2.2.2.2.2.2.1 x.2.2.2.2.2.2.2.2.2.2.1 x.2.2.2.2.2.2.2.2.2.2.2=some y:=h
  refine YEU h' (fun h=>h) fun h=>chkm h fun h=>YFL h (fun z hz=> ?_) fun _ h=>h
  refine YAT (fun s q hs=> ?_) hz
  exact YEU hs (fun h=>chkm h fun h=>chkm h fun h=>YF3 h fun _ h=>chkm h fun h=>chkm h fun h=>chkm h fun h=>YEU h (fun h=>h) fun h=>YFL h (ih _) fun _ h=>h) fun h=>h
theorem run(hI: ∀w e,I e->(see w e).1=true->I (see w e).2)(ok:TbOk l0 tb)(hJ: ∀i,i<l0.length-> ∀row∈ (tb.getD i zT).2.2,∀σ σ',J σ->tsM σ (pV (l0.getD i zA).2) row.2=some σ'->J σ')
  (hsee: ∀(clk:Int) (l:Ent Val) (rs:List Int) (e:E),rs.length<=6->KN l->J (lk l)->I e->q48 loO hd l0 e.1 e.2.1 e.2.2 tb clk l m2 m3 rs=some ((see (rs,lk l) e).1,hd,l0,(see (rs,lk l) e).2.1,(see (rs,lk l) e).2.2.1,(see (rs,lk l) e).2.2.2,tb,clk,l,m2,m3,rs)) (clk:Int) (l:Ent Val) (e:E) (hk:KN l) (hj:J (lk l)) (he:I e):
  ∃clk' l',q50 loO 0 hd l0 tb clk l m2 m3 [] e.1 e.2.1 e.2.2=some ((visit see (wyM (PR l0 tb) (lk l) []) e).1,hd,l0,tb,clk',l',m2,m3,(visit see (wyM (PR l0 tb) (lk l) []) e).2.1,(visit see (wyM (PR l0 tb) (lk l) []) e).2.2.1,(visit see (wyM (PR l0 tb) (lk l) []) e).2.2.2,[]):=by
 obtain⟨clk',l',h1,_⟩:=YAY hI ok hJ hsee 0 l0.length 0 (by omega) clk l [] e rfl hk hj he
 exact⟨clk',l',Ykd Yoh (n:=0) (by rw[YGJ];exact h1)⟩
end
end
end Go.Abs.G47
namespace Go.Abs.G47
open Go Go.Abs
noncomputable section
def SzV(l:Vals):Prop:=l.length<=maxEl/\ ∀v∈l,v.2.2.size<=maxEl
def sg(a b:Int):Int:=bif decide (a<b)then-1 else bif decide (b<a)then 1 else 0
theorem Yey(a b:Int):q124 loO a b=some (sg a b):=by
 unfold q124 sg
 grind
theorem sg_zero{a b:Int}:sg a b=0↔a=b:=by
 unfold sg
 grind
def fS(a b:ByteArray)(n:Nat):Option (Int⊕ (ByteArray×ByteArray)):=bif !decide (YBx a n=YBx b n)then some (.inl (sg (YBx a n) (YBx b n)))else none
def cmpS(a b:ByteArray):Int:=match YBy (fS a b) (min a.size b.size) 0 (.inr (a,b))with
 | .inl i=>i
 | .inr _=>sg a.size b.size
theorem YAZ(a b:ByteArray)(ha:a.size<=maxEl)(hb:b.size<=maxEl):q125 loO a b=some (cmpS a b):=by
 have hm:maxEl=1073741824:=rfl
 have hL:YgH loO (a,b,0)=some (YBy (fS a b) (min a.size b.size) 0 (.inr (a,b))):=by
  refine Yao (fun n=>(a,b,(n:Int))) _ (min a.size b.size) _ rfl ?_ (fun n hn=> ?_)
  ·rcases Nat.le_total a.size b.size with h|h
   ·rw[Nat.min_eq_left h];simp[YcR]
   ·rw[Nat.min_eq_right h]
    have e:decide ((b.size:Int)< (b.size:Int))=false:=by simp
    simp only[YcR,e,cond_false]
    simp
  ·have e1:decide ((n:Int)< (a.size:Int))=true:=by grind
   have e1':decide ((n:Int)< (b.size:Int))=true:=by grind
   have e2:YG7 .i64 ((n:Int)+1)=((n+1:Nat):Int):=by rw[wr6 (by omega) (by omega)];omega
   have r1:=YgQ a n
   have r2:=YgQ b n
   simp only[YcR,e1,e1',cond_true,e2,Yey,YBw,wr6 (show-9223372036854775808<=YBx a n by omega) (by omega),wr6 (show-9223372036854775808<=YBx b n by omega) (by omega)]
   rw[chkT _ (by omega),chkT _ (by omega),chkT _ (by omega),chkT _ (by omega)]
   unfold fS
   grind
 unfold q125 cmpS
 rw[hL,YBw]
 rcases Yba (f:=fS a b) (r0:=.inr (a,b)) (min a.size b.size) 0 with⟨m,r,h1,h2,h3,h4⟩| ⟨h1,h2⟩
 ·rw[h4]
  unfold fS at h3
  cases hd:decide (YBx a m=YBx b m)with
  |true=>simp_all
  |false=>rw[hd]at h3;injection h3 with h3;subst h3;rfl
 ·rw[h1];simp only[alt2,Yey,YBw]
theorem YA0{a b:ByteArray}:cmpS a b=0↔a=b:=by
 unfold cmpS
 rcases Yba (f:=fS a b) (r0:=.inr (a,b)) (min a.size b.size) 0 with⟨m,r,h1,h2,h3,h4⟩| ⟨h1,h2⟩
 ·rw[h4]
  unfold fS at h3
  by_cases hd:YBx a m=YBx b m
  ·simp_all
  ·simp[hd]at h3
   subst h3
   rw[sg_zero]
   grind
 ·rw[h1]
  simp only[sg_zero]
  constructor
  ·intro h
   have hs:a.size=b.size:=by omega
   refine YAy hs (fun n hn=> ?_)
   have:=h2 n (by omega) (by omega)
   unfold fS at this
   grind
  simp_all
def cmpV(v w:Int×Int×ByteArray):Int:=bif !decide (sg v.1 w.1=0)then sg v.1 w.1 else bif !decide (sg v.2.1 w.2.1=0)then sg v.2.1 w.2.1 else cmpS v.2.2 w.2.2
theorem YA1(v w:Int×Int×ByteArray)(hv:v.2.2.size<=maxEl)(hw:w.2.2.size<=maxEl):q126 loO v.1 v.2.1 v.2.2 w.1 w.2.1 w.2.2=some (cmpV v w):=by
 unfold q126 cmpV
 simp only[Yey,YBw,YAZ _ _ hv hw]
 grind
theorem cmpV_zero{v w:Int×Int×ByteArray}:cmpV v w=0↔v=w:=by
 obtain⟨a,b,c⟩:=v
 obtain⟨a',b',c'⟩:=w
 unfold cmpV
 by_cases h1:sg a a'=0
 ·by_cases h2:sg b b'=0
  ·simp only[h1,h2,decide_true,YGX,cond_false,YA0]
   rw[sg_zero]at h1 h2
   simp_all
  ·simp only[h1,h2,decide_true,decide_false,YGX,YGY,cond_false,cond_true]
   refine⟨fun h=>h.elim,fun h=> ?_⟩
   injection h with _ h;injection h with h _
   exact h2 (sg_zero.2 h)
 ·simp only[h1,decide_false,YGY,cond_true]
  refine⟨fun h=>h.elim,fun h=> ?_⟩
  injection h with h _
  exact h1 (sg_zero.2 h)
def fL(a b:Vals)(n:Nat):Option (Int⊕ (Vals×Vals)):=bif !decide (cmpV (a.getD n zV) (b.getD n zV)=0)then some (.inl (cmpV (a.getD n zV) (b.getD n zV)))else none
def cmpL(a b:Vals):Int:=match YBy (fL a b) (min a.length b.length) 0 (.inr (a,b))with
 | .inl i=>i
 | .inr _=>sg a.length b.length
theorem YA2(a b:Vals)(ha:SzV a)(hb:SzV b):q133 loO a b=some (cmpL a b):=by
 have hm:maxEl=1073741824:=rfl
 have hbl:=hb.1
 have hL:YgI loO (a,b,0)=some (YBy (fL a b) (min a.length b.length) 0 (.inr (a,b))):=by
  refine Yao (fun n=>(a,b,(n:Int))) _ (min a.length b.length) _ rfl ?_ (fun n hn=> ?_)
  ·rcases Nat.le_total a.length b.length with h|h
   ·rw[Nat.min_eq_left h];simp[YcS]
   ·rw[Nat.min_eq_right h]
    have e:decide ((b.length:Int)< (b.length:Int))=false:=by simp
    simp only[YcS,e,cond_false]
    simp
  ·have e1:decide ((n:Int)< (a.length:Int))=true:=by grind
   have e1':decide ((n:Int)< (b.length:Int))=true:=by grind
   have e2:YG7 .i64 ((n:Int)+1)=((n+1:Nat):Int):=by rw[wr6 (by omega) (by omega)];omega
   have q1:=ha.2 (a.getD n zV) (Yaj (by omega))
   have q2:=hb.2 (b.getD n zV) (Yaj (by omega))
   simp only[YcS,e1,e1',cond_true,e2,YG1]
   rw[chkT _ (by omega),chkT _ (by omega),YA1 _ _ q1 q2,YBw]
   unfold fL
   grind
 unfold q133 cmpL
 rw[hL,YBw]
 rcases Yba (f:=fL a b) (r0:=.inr (a,b)) (min a.length b.length) 0 with⟨m,r,h1,h2,h3,h4⟩| ⟨h1,h2⟩
 ·rw[h4]
  unfold fL at h3
  cases hd:decide (cmpV (a.getD m zV) (b.getD m zV)=0)with
  |true=>simp_all
  |false=>rw[hd]at h3;injection h3 with h3;subst h3;rfl
 ·rw[h1];simp only[alt2,Yey,YBw]
theorem cmpL_zero{a b:Vals}:cmpL a b=0↔a=b:=by
 unfold cmpL
 rcases Yba (f:=fL a b) (r0:=.inr (a,b)) (min a.length b.length) 0 with⟨m,r,h1,h2,h3,h4⟩| ⟨h1,h2⟩
 ·rw[h4]
  unfold fL at h3
  by_cases hd:cmpV (a.getD m zV) (b.getD m zV)=0
  ·simp_all
  ·rw[decide_eq_false hd]at h3;injection h3 with h3
   subst h3
   exact⟨fun h=>absurd h hd,fun h=>by subst h;exact absurd (cmpV_zero.2 rfl) hd⟩
 ·rw[h1]
  simp only[sg_zero]
  constructor
  ·intro h
   have hs:a.length=b.length:=by omega
   refine YAz (d:=zV) hs (fun n hn=> ?_)
   have:=h2 n (by omega) (by omega)
   unfold fL at this
   by_cases hd:cmpV (a.getD n zV) (b.getD n zV)=0
   ·exact cmpV_zero.1 hd
   simp_all
  simp_all
theorem Yoi(a b:Vals)(ha:SzV a)(hb:SzV b):q134 loO a b=some (decide (a=b)):=by
 unfold q134
 rw[YA2 a b ha hb,YBw]
 have:decide (cmpL a b=0)=decide (a=b):=by rw[decide_eq_decide];exact cmpL_zero
 grind
end
end Go.Abs.G47
namespace Go.Abs.G47
open Go Go.Abs
noncomputable section
def cl:List UInt8->List UInt8->Int
 | [],[]=>0
 | [],_::_=> -1
 |_::_,[]=>1
 |x::a,y::b=>if x.toNat<y.toNat then-1 else if y.toNat<x.toNat then 1 else cl a b
theorem Yb5: ∀a:List UInt8,cl a a=0
 | []=>rfl
 |x::a=>by simp[cl,Yb5 a]
theorem Yoj: ∀{a b:List UInt8},cl a b=0->a=b
 | [],[],_=>rfl
 | [],_::_,h=>by trivial
 |_::_,[],h=>by simp[cl]at h
 |x::a,y::b,h=>by
  simp only[cl]at h
  split at h
  ·omega
  ·split at h
   ·omega
   ·have:x=y:=UInt8.toNat_inj.1 (by omega)
    rw[this,Yoj h]
theorem YA3(p:List UInt8)(s t:List UInt8):cl (p++s) (p++t)=cl s t:=by
 induction p with
 |nil=>rfl
 |cons x p ih=>simp[cl,ih]
theorem Yez: ∀a b:List UInt8,le8 a b=decide (cl a b<=0)
 | [],b=>by cases b<;>rfl
 |_::_,[]=>rfl
 |x::a,y::b=>by
  simp only[le8,cl]
  by_cases h1:x.toNat<y.toNat
  ·simp_all
  ·have h1':YGF x.toNat y.toNat=false:=by rw[<-Bool.not_eq_true];simp_all
   by_cases h2:y.toNat<x.toNat
   ·have:YGF y.toNat x.toNat=true:=by simp_all
    grind
   ·have h2':YGF y.toNat x.toNat=false:=by grind
    simp[h1,h1',h2,h2',Yez a b]
def esc:List UInt8->List UInt8
 | []=>[]
 |b::r=>(if b.toNat=0 then[0,255]else[b])++esc r
theorem Yok: ∀(x y s t:List UInt8),cl (esc x++([0,1]++s)) (esc y++([0,1]++t))=if cl x y=0 then cl s t else cl x y
 | [],[],s,t=>by rfl
 | [],b::y,s,t=>by
   simp only[esc]
   by_cases h:b.toNat=0
   ·simp[h,cl]
   ·have:0<b.toNat:=by omega
    simp[h,cl,this]
 |a::x,[],s,t=>by
  simp only[esc]
  by_cases h:a.toNat=0
  ·simp[h,cl]
  ·have:0<a.toNat:=by omega
   simp[h,cl,this]
 |a::x,b::y,s,t=>by
  have ih:=Yok x y s t
  by_cases h1:a.toNat<b.toNat
  ·have hb:b.toNat≠0:=by omega
   by_cases ha:a.toNat=0
   ·have:0<b.toNat:=by omega
    simp[esc,ha,hb,cl,this]
   ·simp[esc,ha,hb,cl,h1]
  ·by_cases h2:b.toNat<a.toNat
   ·have ha:a.toNat≠0:=by omega
    by_cases hb:b.toNat=0
    ·have:0<a.toNat:=by omega
     simp[esc,ha,hb,cl,this]
    ·simp[esc,ha,hb,cl,h1,h2]
   ·have:a=b:=UInt8.toNat_inj.1 (by omega)
    subst this
    have e:cl (a::x) (a::y)=cl x y:=by simp[cl]
    rw[e,<-ih]
    simp only[esc,YGl]
    exact YA3 _ _ _
def be:Nat->Nat->List UInt8
 |0,_=>[]
 |k+1,n=>UInt8.ofNat (n/256^k % 256)::be k n
theorem YeA: ∀(k n:Nat),be k n=be k (n % 256^k)
 |0,n=>rfl
 |k+1,n=>by
  have h1:n % 256^(k+1)/256^k % 256=n/256^k % 256:=by
   rw[Nat.pow_succ,Nat.mod_mul_right_div_self,Nat.mod_mod]
  have h2:n % 256^(k+1) % 256^k=n % 256^k:=Nat.mod_mod_of_dvd _ (Nat.pow_dvd_pow 256 (Nat.le_succ k))
  simp only[be]
  rw[h1,YeA k n,YeA k (n % 256^(k+1)),h2]
theorem Yol: ∀(k m n:Nat) (s t:List UInt8),m<256^k->n<256^k->cl (be k m++s) (be k n++t)=if m<n then-1 else if n<m then 1 else cl s t
 |0,m,n,s,t,hm,hn=>by
  simp at hm hn;subst hm;subst hn;rfl
 |k+1,m,n,s,t,hm,hn=>by
  have hp:0<256^k:=Nat.pow_pos (by decide)
  rw[Nat.pow_succ]at hm hn
  have qm:m/256^k<256:=Nat.div_lt_of_lt_mul hm
  have qn:n/256^k<256:=Nat.div_lt_of_lt_mul hn
  have em:=Nat.div_add_mod m (256^k)
  have en:=Nat.div_add_mod n (256^k)
  have lm:=Nat.mod_lt m hp
  have ln:=Nat.mod_lt n hp
  have tm:(UInt8.ofNat (m/256^k % 256)).toNat=m/256^k:=by simp_all
  have tn:(UInt8.ofNat (n/256^k % 256)).toNat=n/256^k:=by simp_all
  simp only[be,YGv,cl,tm,tn]
  have mono: ∀{a b c d:Nat},a<b->c<256^k->256^k*a+c<256^k*b+d:=fun{a b c d} h1 h2=>by
   have:256^k*(a+1)<=256^k*b:=Nat.mul_le_mul_left _ h1
   grind
  by_cases h1:m/256^k<n/256^k
  ·grind
  ·by_cases h2:n/256^k<m/256^k
   ·grind
   ·have e:m/256^k=n/256^k:=by omega
    simp only[h1,h2,if_false]
    rw[YeA k m,YeA k n,Yol k _ _ s t lm ln]
    grind
theorem Yb6(a b:ByteArray):bl (a++b)=bl a++bl b:=by rfl
theorem Ybb(l:List Int):bl (YBB l)=l.map fun n=>UInt8.ofNat n.toNat:=by rfl
theorem YeB(s:ByteArray)(n:Nat):YBx s n=(((s.data.getD n 0).toNat:Nat):Int):=by rfl
theorem YA4(x y:ByteArray):cmpS x y=cl (bl x) (bl y):=by
 have key: ∀k n,n+k=min x.size y.size->(match YBy (fS x y) k n (.inr (x,y))with| .inl i=>i| .inr _=>sg x.size y.size)=cl ((bl x).drop n) ((bl y).drop n):=by
  intro k
  induction k with
  |zero=>
   intro n hn
   simp only[YBy]
   rcases Nat.lt_trichotomy x.size y.size with h|h|h
   ·have e1:(bl x).drop n=[]:=List.drop_eq_nil_of_le (by rw[Ybl];omega)
    rw[e1,Yep y n (by omega)]
    have:(x.size:Int)<y.size:=by omega
    simp[cl,sg,this]
   ·have e1:(bl x).drop n=[]:=List.drop_eq_nil_of_le (by rw[Ybl];omega)
    have e2:(bl y).drop n=[]:=List.drop_eq_nil_of_le (by rw[Ybl];omega)
    rw[e1,e2,h];simp[cl,sg]
   ·have e1:(bl y).drop n=[]:=List.drop_eq_nil_of_le (by rw[Ybl];omega)
    rw[e1,Yep x n (by omega)]
    have a1:(y.size:Int)<x.size:=by omega
    have a2: ¬ (x.size:Int)<y.size:=by omega
    simp[cl,sg,a1,a2]
  |succ k ih=>
   intro n hn
   rw[Yep x n (by omega),Yep y n (by omega)]
   simp only[YBy,fS,YeB,cl]
   by_cases h1:(x.data.getD n 0).toNat< (y.data.getD n 0).toNat
   ·have a1: ¬ ((x.data.getD n 0).toNat:Int)=((y.data.getD n 0).toNat:Int):=by omega
    simp only[YGY,cond_true,sg]
    simp_all
   ·by_cases h2:(y.data.getD n 0).toNat< (x.data.getD n 0).toNat
    ·have a1: ¬ ((x.data.getD n 0).toNat:Int)=((y.data.getD n 0).toNat:Int):=by omega
     have a2: ¬ ((x.data.getD n 0).toNat:Int)< ((y.data.getD n 0).toNat:Int):=by omega
     have a3:((y.data.getD n 0).toNat:Int)< ((x.data.getD n 0).toNat:Int):=by omega
     rw[decide_eq_false a1];simp only[YGY,cond_true,sg]
     simp_all
    grind
 have:=key (min x.size y.size) 0 (by omega)
 trivial
def num8(n:Int):List UInt8:=be 8 (n+9223372036854775808).toNat
def kb(v:Int×Int×ByteArray):List UInt8:=UInt8.ofNat v.1.toNat::(if v.1=1\/v.1=3 then num8 v.2.1 else if v.1=2 then esc (bl v.2.2)++[0,1]else[])
def I64(n:Int):Prop:= -9223372036854775808<=n/\n<=9223372036854775807
theorem YeC{v:Int×Int×ByteArray}(h:vB v=true):(v.1=0/\v.2.1=0/\v.2.2=YG6 #[])\/(v.1=1/\v.2.2=YG6 #[])\/(v.1=2/\v.2.1=0/\v.2.2.size<=200)\/(v.1=3/\v.2.2=YG6 #[]):=by
 obtain⟨a,b,c⟩:=v
 have he:=Yet a b c
 unfold q6 at he
 grind
theorem Yom(a b:Int)(ha:I64 a)(hb:I64 b)(s t:List UInt8):cl (num8 a++s) (num8 b++t)=if sg a b=0 then cl s t else sg a b:=by
 unfold num8
 obtain⟨a1,a2⟩:=ha
 obtain⟨b1,b2⟩:=hb
 rw[Yol 8 _ _ s t (by omega) (by omega)]
 unfold sg
 grind
theorem Yg2(a:Int):sg a a=0:=sg_zero.2 rfl
theorem YA5{v w:Int×Int×ByteArray}(hv:vB v=true)(hw:vB w=true)(iv:I64 v.2.1)(iw:I64 w.2.1)(s t:List UInt8):cl (kb v++s) (kb w++t)=if cmpV v w=0 then cl s t else cmpV v w:=by
 have kv:=YeC hv
 have kw:=YeC hw
 by_cases hk:v.1=w.1
 ·have e1:sg v.1 w.1=0:=sg_zero.2 hk
  have e2:cmpV v w=if sg v.2.1 w.2.1=0 then cl (bl v.2.2) (bl w.2.2)else sg v.2.1 w.2.1:=by
   unfold cmpV
   rw[e1,YA4]
   simp
  have e3: ∀x y:List UInt8,cl ((UInt8.ofNat v.1.toNat::x)++s) ((UInt8.ofNat w.1.toNat::y)++t)=cl (x++s) (y++t):=fun x y=>by
   rw[hk];simp[cl]
  unfold kb
  rw[e3,e2]
  rcases kv with⟨g1,g2,g3⟩| ⟨g1,g3⟩| ⟨g1,g2,g3⟩| ⟨g1,g3⟩
  ·rcases kw with⟨k1,k2,k3⟩| ⟨k1,k3⟩| ⟨k1,k2,k3⟩| ⟨k1,k3⟩<;>try omega
   simp[g1,k1,g2,k2,g3,k3,Yg2,Yb5]
  ·rcases kw with⟨k1,k2,k3⟩| ⟨k1,k3⟩| ⟨k1,k2,k3⟩| ⟨k1,k3⟩<;>try omega
   simp only[g1,k1,g3,k3,true_or,if_true,Yb5,Yom _ _ iv iw]
   omega
  ·rcases kw with⟨k1,k2,k3⟩| ⟨k1,k3⟩| ⟨k1,k2,k3⟩| ⟨k1,k3⟩<;>try omega
   have q: ¬ ((2:Int)=1\/(2:Int)=3):=by decide
   simp only[g1,k1,g2,k2,q,if_false,if_true,Yg2,YGl,Yok]
  ·rcases kw with⟨k1,k2,k3⟩| ⟨k1,k3⟩| ⟨k1,k2,k3⟩| ⟨k1,k3⟩<;>try(rw[g1,k1]at hk;exact absurd hk (by decide))
   simp only[g1,k1,g3,k3,or_true,if_true,Yb5,Yom _ _ iv iw]
   omega
 ·have e1:sg v.1 w.1≠0:=fun h=>hk (sg_zero.1 h)
  have e2:cmpV v w=sg v.1 w.1:=by unfold cmpV;grind
  have r1:0<=v.1/\v.1<=3:=by omega
  have r2:0<=w.1/\w.1<=3:=by omega
  have t1:(UInt8.ofNat v.1.toNat).toNat=v.1.toNat:=by simp;omega
  have t2:(UInt8.ofNat w.1.toNat).toNat=w.1.toNat:=by simp;omega
  rw[e2,if_neg e1]
  unfold kb
  simp only[YGv,cl,t1,t2]
  unfold sg
  grind
def kl(l:Vals):List UInt8:=l.flatMap kb
def Ok(l:Vals):Prop:= ∀v∈l,vB v=true/\I64 v.2.1
theorem Yon{a b:Vals}(h:a.length=b.length)(ha:Ok a)(hb:Ok b):cl (kl a) (kl b)=cmpL a b:=by
 have key: ∀k n,n+k=a.length->cl (kl (a.drop n)) (kl (b.drop n))=(match YBy (fL a b) k n (.inr (a,b))with| .inl i=>i| .inr _=>sg a.length b.length):=by
  intro k
  induction k with
  |zero=>
   intro n hn
   rw[List.drop_eq_nil_of_le (by omega),List.drop_eq_nil_of_le (by omega)]
   simp only[YBy,h,Yg2];rfl
  |succ k ih=>
   intro n hn
   have d1:a.drop n=a.getD n zV::a.drop (n+1):=by
    rw[List.drop_eq_getElem_cons (by omega),YGs,YF7 (by omega)];rfl
   have d2:b.drop n=b.getD n zV::b.drop (n+1):=by
    rw[List.drop_eq_getElem_cons (by omega),YGs,YF7 (by omega)];rfl
   obtain⟨p1,p2⟩:=ha (a.getD n zV) (Yaj (by omega))
   obtain⟨q1,q2⟩:=hb (b.getD n zV) (Yaj (by omega))
   rw[d1,d2]
   simp only[kl,List.flatMap_cons]
   rw[YA5 p1 q1 p2 q2]
   simp only[YBy,fL]
   by_cases hc:cmpV (a.getD n zV) (b.getD n zV)=0
   ·rw[if_pos hc,decide_eq_true hc]
    exact ih (n+1) (by omega)
   simp_all
 unfold cmpL
 grind
theorem Yoo{a b:Vals}(h:a.length=b.length)(ha:Ok a)(hb:Ok b):kl a=kl b↔a=b:=by
 constructor
 ·intro e
  have:=Yon h ha hb
  rw[e,Yb5]at this
  exact cmpL_zero.1 this.symm
 simp_all
theorem YFM{x:Nat}(h:x<2^63):x^^^2^63=x+2^63:=by
 apply Nat.eq_of_testBit_eq
 intro i
 rw[Nat.testBit_xor,Nat.add_comm x]
 by_cases hi:i=63
 ·grind
 ·rw[Nat.testBit_two_pow_of_ne (Ne.symm hi)]
  rcases Nat.lt_or_gt_of_ne hi with h1|h1
  ·rw[Nat.testBit_two_pow_add_gt h1];simp
  ·have e1:x.testBit i=false:=Nat.testBit_lt_two_pow (Nat.lt_trans h (Nat.pow_lt_pow_right (by decide) h1))
   have e2:(2^63+x).testBit i=false:=Nat.testBit_lt_two_pow (by
    have:2^64<=2^i:=Nat.pow_le_pow_right (by decide) h1
    omega)
   simp_all
theorem xor63'{x:Nat}(h:x<2^63):(x+2^63)^^^2^63=x:=by
 rw[<-YFM h,Nat.xor_assoc,Nat.xor_self,Nat.xor_zero]
theorem w64(n:Int):YG7 .u64 n=n % 18446744073709551616:=by
 rfl
theorem w8(n:Int):YG7 .u8 n=n % 256:=by
 rfl
theorem YA6{n:Int}(h:I64 n):bits .xor .u64 (YG7 .u64 n) 9223372036854775808=(((n+9223372036854775808).toNat:Nat):Int):=by
 obtain⟨h1,h2⟩:=h
 rw[w64]
 have hm:n % 18446744073709551616=(((n % 18446744073709551616).toNat:Nat):Int):=by omega
 rw[hm]
 have hx:(BitVec.ofInt 64 (((n % 18446744073709551616).toNat:Nat):Int)^^^BitVec.ofInt 64 ((9223372036854775808:Nat):Int)).toNat=(n % 18446744073709551616).toNat^^^2^63:=by
  grind
 have hv:(n % 18446744073709551616).toNat^^^2^63=(n+9223372036854775808).toNat:=by
  by_cases hn:0<=n
  ·have:(n % 18446744073709551616).toNat=n.toNat:=by omega
   rw[this,YFM (by omega)];omega
  ·have:(n % 18446744073709551616).toNat=(n+9223372036854775808).toNat+2^63:=by omega
   rw[this,xor63' (by omega)]
 show YG7 .u64 ((BitVec.ofInt 64 (((n % 18446744073709551616).toNat:Nat):Int)^^^BitVec.ofInt 64 ((9223372036854775808:Nat):Int)).toNat:Nat)=_
 rw[hx,hv,w64]
 omega
def YDU(N k:Nat):Int:=YG7 .u8 ((N:Int).fdiv (2^(56-8*k)))
def YDd(N:Nat)(out:ByteArray):Nat->ByteArray
 |0=>out
 |k+1=>YDd N out k++YBB [YDU N k]
theorem Yop(N k:Nat):YDU N k=((N/2^(56-8*k) % 256:Nat):Int):=by
 unfold YDU
 rw[w8]
 grind
theorem Yoq(a b:ByteArray):(a++b).size=a.size+b.size:=ByteArray.size_append
theorem Yg3(l:List Int):(YBB l).size=l.length:=by simp[YBB,ByteArray.size]
theorem Yor(N:Nat)(out:ByteArray): ∀k,(YDd N out k).size=out.size+k
 |0=>rfl
 |k+1=>by simp only[YDd,Yoq,Yg3,Yor N out k,List.length_singleton];omega
theorem Yos(N:Nat)(out:ByteArray):bl (YDd N out 8)=bl out++be 8 N:=by
 simp only[YDd,Yb6,Ybb,Yop,YF9,YGb,YG1,YGl,List.singleton_append,be]
 rfl
theorem Yot(n:Int)(out:ByteArray)(h:I64 n)(ho:out.size+8<=maxEl):q43 loO n out=some (YDd (n+9223372036854775808).toNat out 8):=by
 unfold q43
 rw[YA6 h]
 generalize(n+9223372036854775808).toNat=N
 have hL:Ygg loO ((N:Int),56,out)=some (YDd N out 8):=by
  refine Yav (N:=8) (st:=fun k=>((N:Int),56-8*(k:Int),YDd N out k)) rfl ?_ (fun k hk=> ?_)
  ·rfl
  ·have e1:decide ((0:Int)<=56-8*(k:Int))=true:=by grind
   have e2:YG7 .i64 (56-8*(k:Int)-8)=56-8*((k+1:Nat):Int):=by rw[wr6 (by omega) (by omega)];omega
   have e3:min (56-8*(k:Int)).toNat (IntKind.bits .u64)=56-8*k:=by
    have:IntKind.bits .u64=64:=rfl
    omega
   have e4:inB [YDU N k]=true:=by
    have:=Yop N k
    simp only[inB,List.all_cons,List.all_nil,Bool.and_true,YGW,decide_eq_true_eq]
    omega
   simp only[Ygf,e1,cond_true,e3]
   rw[chkT _ (by omega)]
   show(bif inB [YDU N k]then _ else none)=_
   rw[e4,cond_true,chkT _ (by rw[Yor];grind),e2];rfl
 simp_all
theorem You: ∀a b:List UInt8,esc (a++b)=esc a++esc b
 | [],b=>rfl
 |x::a,b=>by simp[esc,You a b]
theorem Yov: ∀a:List UInt8,(esc a).length<=2*a.length
 | []=>by trivial
 |x::a=>by
  have:=Yov a
  simp only[esc,List.length_append,YGr]
  grind
def outE(s out:ByteArray):Nat->ByteArray
 |0=>out
 |n+1=>bif decide (YBx s n=0)then(outE s out n++YBB [YBx s n])++YBB [255]else outE s out n++YBB [YBx s n]
theorem Yg4(s out:ByteArray): ∀n,(outE s out n).size<=out.size+2*n
 |0=>by simp[outE]
 |n+1=>by
  have:=Yg4 s out n
  simp only[outE]
  cases decide (YBx s n=0)<;>simp[Yg3]<;>omega
theorem Yow(s out:ByteArray): ∀n,n<=s.size->bl (outE s out n)=bl out++esc ((bl s).take n)
 |0,_=>by simp[outE,esc]
 |n+1,h=>by
  have ih:=Yow s out n (by omega)
  rw[YAn s n (by omega),You]
  have hb:UInt8.ofNat (YBx s n).toNat=s.data.getD n 0:=by rw[YeB];simp
  simp only[outE]
  by_cases h0:YBx s n=0
  ·have hz:(s.data.getD n 0).toNat=0:=by rw[YeB]at h0;omega
   have hz':s.data.getD n 0=0:=UInt8.toNat_inj.1 hz
   rw[decide_eq_true h0,cond_true,Yb6,Yb6,ih,Ybb,Ybb]
   simp only[YF9,YGb,hb,esc,hz',YGl,List.append_nil]
   rfl
  ·have hz: ¬ (s.data.getD n 0).toNat=0:=by rw[YeB]at h0;omega
   rw[decide_eq_false h0,cond_false,Yb6,ih,Ybb]
   simp only[YF9,YGb,hb,esc,hz,if_false,YGl,List.append_nil]
theorem YA7(v:Int×Int×ByteArray)(out:ByteArray)(hs:v.2.2.size<=200)(ho:out.size<=1000):Ygh loO ((v.2.2.size:Int),0,v.1,v.2.1,v.2.2,out)=some (outE v.2.2 out v.2.2.size):=by
 have hm:maxEl=1073741824:=rfl
 refine Yav (N:=v.2.2.size) (st:=fun n=>((v.2.2.size:Int),(n:Int),v.1,v.2.1,v.2.2,outE v.2.2 out n)) rfl ?_ (fun n hn=> ?_)
 ·simp[Yd5]
 ·have e1:decide ((n:Int)< (v.2.2.size:Int))=true:=by simp_all
  have e2:YG7 .i64 ((n:Int)+1)=((n+1:Nat):Int):=by rw[wr6 (by omega) (by omega)];omega
  have r:=YgQ v.2.2 n
  have e3:inB [YBx v.2.2 n]=true:=by
   simp only[inB,List.all_cons,List.all_nil,Bool.and_true,YGW,decide_eq_true_eq];omega
  have e4:inB [(255:Int)]=true:=rfl
  have hz:=Yg4 v.2.2 out n
  simp only[Yd5,e1,e2,e3,e4,cond_true]
  rw[chkT _ (by omega),chkT _ (by grind),chkT _ (by omega),chkT _ (by simp[Yg3];omega)]
  simp only[outE]
  grind
def keyB(v:Int×Int×ByteArray):ByteArray:=((q44 loO v.1 v.2.1 v.2.2).getD (YG6 #[],0)).1
theorem Yox{v:Int×Int×ByteArray}(hv:vB v=true)(hi:I64 v.2.1):q44 loO v.1 v.2.1 v.2.2=some (keyB v,0)/\bl (keyB v)=kb v:=by
 have hm:maxEl=1073741824:=rfl
 have hc:=YeC hv
 have ew:YG7 .u8 v.1=v.1:=by rw[w8];omega
 have ei:inB [v.1]=true:=by simp only[inB,List.all_cons,List.all_nil,Bool.and_true,YGW,decide_eq_true_eq];omega
 have hsz:(YBB [v.1]).size=1:=by rfl
 have main: ∃k,q44 loO v.1 v.2.1 v.2.2=some (k,0)/\bl k=kb v:=by
  unfold q44
  rw[Yet,YBw]
  simp only[hv,YGX,cond_false,ew,ei,cond_true]
  rcases hc with⟨g1,g2,g3⟩| ⟨g1,g3⟩| ⟨g1,g2,g3⟩| ⟨g1,g3⟩
  ·have a1:decide (v.1=1)=false:=by simp_all
   have a3:decide (v.1=3)=false:=by simp_all
   have a2:decide (v.1=2)=false:=by simp_all
   simp only[a1,a3,cond_false,YbF,a2,YBw]
   refine⟨_,rfl,?_⟩
   rw[Ybb];unfold kb;grind
  ·have a1:decide (v.1=1)=true:=by simp_all
   simp only[a1,cond_true,YbF]
   rw[Yot _ _ hi (by omega),YBw,YBw]
   refine⟨_,rfl,?_⟩
   rw[Yos,Ybb];unfold kb num8;grind
  ·have a1:decide (v.1=1)=false:=by simp_all
   have a3:decide (v.1=3)=false:=by simp_all
   have a2:decide (v.1=2)=true:=by simp_all
   have e4:inB [(0:Int),1]=true:=rfl
   have hz:=Yg4 v.2.2 (YBB [v.1]) v.2.2.size
   simp only[a1,a3,cond_false,YbF,a2,cond_true]
   rw[YA7 v _ g3 (by omega),YBw,e4,cond_true,chkT _ (by grind),YBw]
   refine⟨_,rfl,?_⟩
   rw[Yb6,Yow _ _ _ (YGE _),Ybb,Ybb];unfold kb
   have ht:(bl v.2.2).take v.2.2.size=bl v.2.2:=List.take_of_length_le (by rw[Ybl];omega)
   simp_all
  ·have a1:decide (v.1=1)=false:=by simp_all
   have a3:decide (v.1=3)=true:=by simp_all
   simp only[a1,a3,cond_false,YbF,cond_true]
   rw[Yot _ _ hi (by omega),YBw,YBw]
   refine⟨_,rfl,?_⟩
   rw[Yos,Ybb];unfold kb num8;grind
 obtain⟨k,h1,h2⟩:=main
 have:keyB v=k:=by unfold keyB;simp_all
 simp_all
theorem Yg5: ∀k n,(be k n).length=k
 |0,_=>rfl
 |k+1,n=>by simp[be,Yg5 k]
theorem Yoy{v:Int×Int×ByteArray}(hv:vB v=true):(kb v).length<=403:=by
 unfold kb num8
 rcases YeC hv with⟨g1,g2,g3⟩| ⟨g1,g3⟩| ⟨g1,g2,g3⟩| ⟨g1,g3⟩
 ·grind
 ·simp[g1,Yg5]
 ·have:=Yov (bl v.2.2)
  rw[Ybl]at this
  grind
 ·simp[g1,Yg5]
def kOut(l:Vals):Nat->ByteArray
 |0=>YG6 #[]
 |n+1=>kOut l n++keyB (l.getD n zV)
theorem Yg6{l:Vals}(h:Ok l): ∀n,n<=l.length->bl (kOut l n)=kl (l.take n)/\ (kOut l n).size<=403*n
 |0,_=>⟨rfl,YGE _⟩
 |n+1,hn=>by
  obtain⟨i1,i2⟩:=Yg6 h n (by omega)
  obtain⟨p1,p2⟩:=h (l.getD n zV) (Yaj (by omega))
  obtain⟨_,q2⟩:=Yox p1 p2
  refine⟨?_,?_⟩
  ·simp only[kOut]
   rw[Yb6,i1,q2,YbG (d:=zV) (by omega)]
   simp[kl]
  ·simp only[kOut,Yoq]
   have:=Yoy p1
   have hl:(keyB (l.getD n zV)).size=(kb (l.getD n zV)).length:=by rw[<-q2,Ybl]
   omega
def keyL(l:Vals):ByteArray:=kOut l l.length
theorem YeD{l:Vals}(h:Ok l):bl (keyL l)=kl l:=by
 have:=(Yg6 h l.length (YGE _)).1
 rwa[YGm]at this
theorem YA8{a b:Vals}(h:a.length=b.length)(ha:Ok a)(hb:Ok b):keyL a=keyL b↔a=b:=by
 constructor
 ·intro e
  rw[<-Yoo h ha hb,<-YeD ha,<-YeD hb,e]
 simp_all
end
end Go.Abs.G47
namespace Go.Abs.G47
open Go Go.Abs
noncomputable section
def AllO(N:Nat)(L:List Vals):Prop:= ∀l∈L,Ok l/\l.length=N
theorem YA9{N:Nat}{a b:Vals}(ha:Ok a/\a.length=N)(hb:Ok b/\b.length=N):keyL a=keyL b↔a=b:=YA8 (by omega) ha.1 hb.1
def hasV(L:List Vals)(l:Vals):Bool:=L.any fun x=>decide (x=l)
theorem hasV_iff{L:List Vals}{l:Vals}:hasV L l=true↔l∈L:=by
 unfold hasV
 simp
theorem YeE(L:List Vals)(x l:Vals):hasV (L++[x]) l=(hasV L l||decide (x=l)):=by
 unfold hasV;simp
abbrev Ents:=List (Int×ByteArray×Vals)
def YEj(e:Int×Ents)(l:Vals):Int×Ents:=(mck eqS e.1 (keyL l) e.2,mpt eqS e.1 (keyL l) l e.2)
def mapOf(L:List Vals):Int×Ents:=L.foldl YEj (0,[])
theorem YeF(L:List Vals)(l:Vals):mapOf (L++[l])=YEj (mapOf L) l:=by unfold mapOf;simp
theorem YDe{α:Type}{P:List α->Prop}(h0:P [])(h1: ∀L l,P L->P (L++[l]))(L:List α):P L:=by
 have: ∀n (L:List α),L.length=n->P L:=by
  intro n
  induction n with
  |zero=>simp_all
  |succ n ih=>
   intro L h
   have hne:L≠ []:=by grind
   rw[<-List.dropLast_concat_getLast hne]
   simp_all
 simp_all
theorem YBa(L:List Vals):((mapOf L).2.map (·.1)).Nodup/\ ∀b∈ (mapOf L).2.map (·.1),b< (mapOf L).1:=by
 induction L using YDe with
 |h0=>trivial
 |h1 L l ih=>rw[YeF];exact YAu ih.1 ih.2
theorem Yoz{N:Nat}{L:List Vals}(hL:AllO N L): ∀l,Ok l/\l.length=N->mfd eqS (keyL l) (mapOf L).2=bif hasV L l then some l else none:=by
 induction L using YDe with
 |h0=>intro l _;rfl
 |h1 L x ih=>
  intro l hl
  have ih:=ih (fun y hy=>hL y (List.mem_append_left _ hy)) l hl
  have hx:=hL x (List.mem_append_right _ (YGo.2 rfl))
  rw[YeF]
  show mfd eqS (keyL l) (mpt eqS _ (keyL x) x _)=_
  rw[YgZ,ih]
  by_cases e:l=x
  ·subst e;simp[eqS,YeE]
  ·have:eqS (keyL l) (keyL x)=false:=by unfold eqS;rw[decide_eq_false_iff_not,YA9 hl hx];exact e
   rw[this]
   rw[YeE,decide_eq_false (fun h=>e h.symm),Bool.or_false];rfl
theorem YoA{N:Nat}{L:List Vals}{l:Vals}(hL:AllO N (L++[l])):(mapOf (L++[l])).2.map (·.2.1)=bif hasV L l then(mapOf L).2.map (·.2.1)else(mapOf L).2.map (·.2.1)++[keyL l]:=by
 rw[YeF]
 show(mpt eqS _ (keyL l) l _).map (·.2.1)=_
 rw[Yg0,Yoz (fun y hy=>hL y (List.mem_append_left _ hy)) l (hL l (List.mem_append_right _ (YGo.2 rfl)))]
 grind
theorem YoB{N:Nat}{L:List Vals}(hL:AllO N L):(mapOf L).2.length<=L.length:=by
 induction L using YDe with
 |h0=>trivial
 |h1 L x ih=>
  have ih:=ih (fun y hy=>hL y (List.mem_append_left _ hy))
  have:=congrArg List.length (YoA hL)
  grind
def leR(a b:Vals):Prop:=le8 (kl a) (kl b)=true
def insR:List Vals->Vals->List Vals->List Vals
 | [],x,Q=>x::Q
 |y::P,x,Q=>bif decide (cmpL x y<0)then insR P x (y::Q)else(y::P).reverse++x::Q
theorem YoC: ∀(P:List Vals) (x:Vals) (Q:List Vals),(insR P x Q).Perm (P.reverse++x::Q)
 | [],x,Q=>List.Perm.refl _
 |y::P,x,Q=>by
  simp only[insR]
  cases decide (cmpL x y<0)with
  |true=>
   refine(YoC P x (y::Q)).trans ?_
   rw[List.reverse_cons,YGl]
   exact List.Perm.append_left _ (List.Perm.swap ..)
  |false=>rfl
theorem YoD{N:Nat}{x:Vals}(hx:Ok x/\x.length=N): ∀(P Q:List Vals),(∀p∈P,Ok p/\p.length=N)->(P.reverse++Q).Pairwise leR->(∀q∈Q,leR x q)->(insR P x Q).Pairwise leR
 | [],Q,_,h,hq=>List.pairwise_cons.2 ⟨hq,h⟩
 |y::P,Q,hP,h,hq=>by
  have hy:=hP y (YGf ..)
  have ec:cl (kl x) (kl y)=cmpL x y:=Yon (by omega) hx.1 hy.1
  rw[List.reverse_cons,YGl]at h
  simp only[insR]
  cases hd:decide (cmpL x y<0)with
  |true=>
   have hxy:leR x y:=by unfold leR;rw[Yez,ec];grind
   refine YoD hx P (y::Q) (fun p hp=>hP p (YGj _ hp)) h (fun q hq'=> ?_)
   grind
  |false=>
   have hd': ¬cmpL x y<0:=by simp_all
   have hyx:leR y x:=by
    unfold leR
    cases h1:le8 (kl y) (kl x)with
    |true=>rfl
    |false=>
     have:=YdN (kl y) (kl x)
     rw[h1,Bool.false_or,Yez,ec,decide_eq_true_eq]at this
     have h0:cl (kl x) (kl y)=0:=by omega
     rw[Yoj h0,Yez,Yb5]at h1
     trivial
   rw[cond_false,List.reverse_cons,YGl]
   obtain⟨p1,p2,p3⟩:=List.pairwise_append.1 h
   obtain⟨p4,p5⟩:=List.pairwise_cons.1 p2
   refine List.pairwise_append.2 ⟨p1,List.pairwise_cons.2 ⟨fun q hq'=> ?_,List.pairwise_cons.2 ⟨hq,p5⟩⟩,fun a ha b hb=> ?_⟩
   ·rcases YGe.1 hq' with rfl|hq'
    ·omega
    simp_all
   ·have hay:=p3 a ha y (YGf ..)
    rcases YGe.1 hb with rfl|hb
    ·omega
    ·rcases YGe.1 hb with rfl|hb
     ·exact YdM _ _ _ hay hyx
     simp_all
def YDl(R:List Vals)(l:Vals):List Vals:=bif hasV R l then R else insR R.reverse l []
def rowsR(L:List Vals):List Vals:=L.foldl YDl []
theorem YcV(L:List Vals)(l:Vals):rowsR (L++[l])=YDl (rowsR L) l:=by unfold rowsR;simp
theorem YeG(R:List Vals)(l:Vals):(insR R.reverse l []).Perm (R++[l]):=by
 have:=YoC R.reverse l []
 simp_all
theorem YoE(L:List Vals): ∀l,hasV (rowsR L) l=hasV L l:=by
 induction L using YDe with
 |h0=>intro l;rfl
 |h1 L x ih=>
  intro l
  rw[YcV]
  unfold YDl
  rw[ih x,YeE]
  cases hx:hasV L x with
  |true=>
   grind
  |false=>
   rw[cond_false]
   have:hasV (insR (rowsR L).reverse x []) l=hasV (rowsR L++[x]) l:=(YeG _ x).any_eq
   rw[this,YeE,ih l]
theorem rowsR_mem{L:List Vals}{r:Vals}:r∈rowsR L↔r∈L:=by
 rw[<-hasV_iff,YoE,hasV_iff]
theorem YoF(L:List Vals):(rowsR L).length<=L.length:=by
 induction L using YDe with
 |h0=>trivial
 |h1 L x ih=>
  rw[YcV]
  unfold YDl
  cases hasV (rowsR L) x with
  |true=>grind
  |false=>rw[cond_false,(YeG _ x).length_eq];simp_all
theorem Yg7{N:Nat}{L:List Vals}(hL:AllO N L):(rowsR L).Pairwise leR:=by
 induction L using YDe with
 |h0=>exact List.Pairwise.nil
 |h1 L x ih=>
  have hL':AllO N L:=fun y hy=>hL y (List.mem_append_left _ hy)
  have ih:=ih hL'
  rw[YcV]
  unfold YDl
  cases hasV (rowsR L) x with
  |true=>exact ih
  |false=>
   refine YoD (N:=N) (hL x (List.mem_append_right _ (YGo.2 rfl))) _ _ (fun p hp=>hL' _ (rowsR_mem.1 (List.mem_reverse.1 hp))) ?_ (fun q hq=>by cases hq)
   simp_all
theorem YoG{N:Nat}{L:List Vals}(hL:AllO N L):((mapOf L).2.map (·.2.1)).Perm ((rowsR L).map keyL):=by
 induction L using YDe with
 |h0=>rfl
 |h1 L x ih=>
  have ih:=ih (fun y hy=>hL y (List.mem_append_left _ hy))
  rw[YoA hL,YcV]
  unfold YDl
  rw[YoE]
  cases hasV L x with
  |true=>exact ih
  |false=>
   refine(List.Perm.append_right [keyL x] ih).trans ?_
   have:=((YeG (rowsR L) x).map keyL).symm
   simp_all
theorem YBb{N:Nat}{L:List Vals}(hL:AllO N L):YCO ((mapOf L).2.map (·.2.1))=(rowsR L).map keyL:=by
 rw[YnU (YoG hL)]
 refine(YfX (le:=fun a b:ByteArray=>le8 (bl a) (bl b)) (fun a b c h k=>YdM _ _ _ h k) (fun a b=>YdN _ _) (fun a b h k=>YAp (YdO (bl a) (bl b) h k)) ?_ (List.Perm.refl _)).symm
 rw[List.pairwise_map]
 refine(List.Pairwise.imp_of_mem (fun{a b} ha hb h=> ?_) (Yg7 hL))
 have e1:bl (keyL a)=kl a:=YeD (hL _ (rowsR_mem.1 ha)).1
 have e2:bl (keyL b)=kl b:=YeD (hL _ (rowsR_mem.1 hb)).1
 rw[e1,e2];exact h
end
end Go.Abs.G47
namespace Go.Abs.G47
open Go Go.Abs
noncomputable section
def ansM(hd:List ByteArray)(σ:Asg Val):Vals:=hd.map fun v=>(σ v).getD zV
def goodV(v:Val):Prop:=vB v=true/\I64 v.2.1
def JV(σ:Asg Val):Prop:= ∀k v,σ k=some v->goodV v
theorem Yg8{hd:List ByteArray}{σ:Asg Val}(h:JV σ):Ok (ansM hd σ)/\ (ansM hd σ).length=hd.length:=by
 refine⟨fun v hv=> ?_,by unfold ansM;simp⟩
 obtain⟨k,_,rfl⟩:=YGg.1 hv
 cases e:σ k with
 |none=>trivial
 |some w=>exact h k w e
theorem Yg9: ∀{ps:List (ByteArray×Val)} {us:Vals} {σ σ':Asg Val},JV σ->(∀u∈us,goodV u)->tsM σ ps us=some σ'->JV σ'
 | [],us,σ,σ',h,_,e=>by injection e with e;simp_all
 |_::_,[],_,_,_,_,e=>by cases e
 |p::ps,u::us,σ,σ',h,hu,e=>by
  simp only[tsM]at e
  cases h1:tmM σ p.1 p.2 u with
  |none=>simp_all
  |some σ1=>
   rw[h1]at e
   refine Yg9 (σ:=σ1) ?_ (fun v hv=>hu v (YGj _ hv)) (show tsM σ1 ps us=some σ' from e)
   unfold tmM at h1
   by_cases h0:p.1=nul0
   ·simp_all
   ·rw[if_neg h0]at h1
    cases hs:σ p.1 with
    |some w=>
     simp_all
    |none=>
     rw[hs]at h1;injection h1 with h1;subst h1
     intro k v hk
     unfold upd at hk
     by_cases hx:k=p.1
     ·simp_all
     ·rw[if_neg hx]at hk;exact h k v hk
theorem YoH: ∀{L:List (List Term×Rws)} {σ:Asg Val} {r:List Int},JV σ->(∀q∈L,∀row∈q.2,∀v∈row.2,goodV v)-> ∀w∈wyM L σ r,JV w.2
 | [],σ,r,h,_,w,hw=>by rw[wyM,YGo]at hw;simp_all
 |q::L,σ,r,h,hg,w,hw=>by
  rw[wyM,List.mem_flatMap]at hw
  obtain⟨row,hr,hw⟩:=hw
  cases hx:tsM σ (pV q.1) row.2 with
  |none=>simp_all
  |some σ'=>
   rw[hx]at hw
   exact YoH (Yg9 h (hg q (YGf ..) row hr) hx) (fun p hp=>hg p (YGj _ hp)) w hw
theorem YoI: ∀(L:List (List Term×Rws)) (σ:Asg Val) (r:List Int),(∀q∈L,q.2.length<=6)->(wyM L σ r).length<=6^L.length
 | [],σ,r,_=>YGE _
 |q::L,σ,r,h=>by
  have hq:=h q (YGf ..)
  have: ∀R:Rws,(R.flatMap fun row=>match tsM σ (pV q.1) row.2 with|some σ'=>wyM L σ' (r++[row.1])|none=>[]).length<=R.length*6^L.length:=by
   intro R
   induction R with
   |nil=>simp
   |cons row R ih=>
    rw[List.flatMap_cons,List.length_append,YGr,YGL,Nat.one_mul,Nat.add_comm (R.length*_)]
    refine Nat.add_le_add ?_ ih
    cases tsM σ (pV q.1) row.2 with
    |none=>simp
    |some σ'=>exact YoI L σ' _ (fun p hp=>h p (YGj _ hp))
  refine YGH (this q.2) ?_
  rw[YGr,Nat.pow_succ,Nat.mul_comm]
  exact Nat.mul_le_mul_left _ hq
theorem tAns(hd:List ByteArray)(l0:List Atom)(tb:List Tabl)(clk:Int)(l:Ent Val)(m2 m3:Bool)(rs:List Int)(e:E)(hh:hd.length<=maxEl):
  q42 loO hd l0 tb clk l m2 m3 rs e.1 e.2.1 e.2.2=some (hd,l0,tb,clk,l,m2,m3,rs,e.1,e.2.1,e.2.2,ansM hd (lk l)):=by
 unfold q42
 have:Yge loO (hd,(hd.length:Int),0,hd,l0,tb,clk,l,m2,m3,rs,e.1,e.2.1,e.2.2,[])=some (hd,l0,tb,clk,l,m2,m3,rs,e.1,e.2.1,e.2.2,ansM hd (lk l)):=by
  refine Yav (st:=fun n=>(hd,(hd.length:Int),(n:Int),hd,l0,tb,clk,l,m2,m3,rs,e.1,e.2.1,e.2.2,ansM (hd.take n) (lk l))) (N:=hd.length) rfl ?_ (fun n hn=> ?_)
  ·simp only[Yd4,nlI,cond_false,YGm]
  ·simp only[Yd4,ltI hn,cond_true,inc hn hh,YG1]
   rw[chkT _ (by omega),chkT _ (by unfold ansM;grind),YbG (d:=nul0) hn]
   have: ∀k,mgt eqS k l zV=(lk l k).getD zV:=fun k=>by rfl
   rw[this]
   unfold ansM
   simp
 simp_all
def seeA(hd:List ByteArray):Way->E->Bool×E:=fun w e=>
 let k:=YEj (e.1,e.2.1) (ansM hd w.2)
 (decide ((k.2.length:Int)<=10000),(k.1,k.2,e.2.2))
theorem tSee(hd:List ByteArray)(l0:List Atom)(tb:List Tabl)(clk:Int)(l:Ent Val)(m2 m3:Bool)(rs:List Int)(e:E)(hh:hd.length<=1000)(hj:JV (lk l)):
  q48 loO hd l0 e.1 e.2.1 e.2.2 tb clk l m2 m3 rs=some ((seeA hd (rs,lk l) e).1,hd,l0,(seeA hd (rs,lk l) e).2.1,(seeA hd (rs,lk l) e).2.2.1,(seeA hd (rs,lk l) e).2.2.2,tb,clk,l,m2,m3,rs):=by
 have hm:maxEl=1073741824:=rfl
 unfold q48
 rw[tAns hd l0 tb clk l m2 m3 rs e (by omega),YBw]
 rw[chkT _ rfl,chkT _ rfl]
 obtain⟨ok,hl⟩:=Yg8 (hd:=hd) hj
 generalize hA:ansM hd (lk l)=A at*
 have e4:Ygi loO ((A.length:Int),0,hd,l0,e.1,e.2.1,e.2.2,tb,clk,l,m2,m3,rs,A,nul0)=some (hd,l0,e.1,e.2.1,e.2.2,tb,clk,l,m2,m3,rs,A,keyL A):=by
  refine Yav (st:=fun n=>((A.length:Int),(n:Int),hd,l0,e.1,e.2.1,e.2.2,tb,clk,l,m2,m3,rs,A,kOut A n)) (N:=A.length) rfl ?_ (fun n hn=> ?_)
  ·simp only[Yd6,nlI,cond_false];rfl
  ·obtain⟨p1,p2⟩:=ok (A.getD n zV) (Yaj (by omega))
   obtain⟨q1,q2⟩:=Yox p1 p2
   have hz:=(Yg6 ok n (by omega)).2
   have hz':(keyB (A.getD n zV)).size<=403:=by rw[<-Ybl,q2];exact Yoy p1
   simp only[Yd6,ltI hn,cond_true,inc hn (show A.length<=maxEl by omega),YG1]
   rw[chkT _ (by omega),q1,YBw]
   simp only[q46,q45,YBw]
   rw[chkT _ trivial,chkT _ (by omega),YBw];rfl
 rw[e4,YBw]
 simp only[q47,YBw,seeA,hA,YEj]
theorem YoJ(hd:List ByteArray): ∀(ws:List Way) (pre:List Vals) (m:Bool),(∀w∈ws,JV w.2)->AllO hd.length pre->pre.length+ws.length<=10000->
  visit (seeA hd) ws ((mapOf pre).1,(mapOf pre).2,m)=(true,(mapOf (pre++ws.map fun w=>ansM hd w.2)).1,(mapOf (pre++ws.map fun w=>ansM hd w.2)).2,m)
 | [],pre,m,_,_,_=>by simp[visit]
 |w::ws,pre,m,hj,hp,hl=>by
  have hw:=Yg8 (hd:=hd) (hj w (YGf ..))
  have hp':AllO hd.length (pre++[ansM hd w.2]):=fun x hx=>by
   rcases List.mem_append.1 hx with h|h
   ·exact hp x h
   simp_all
  have hlen:=YoB hp'
  rw[List.length_append,List.length_singleton]at hlen
  rw[YGr]at hl
  have es:seeA hd w ((mapOf pre).1,(mapOf pre).2,m)=(true,(mapOf (pre++[ansM hd w.2])).1,(mapOf (pre++[ansM hd w.2])).2,m):=by
   unfold seeA
   rw[YeF]at hlen⊢
   rw[show(((mapOf pre).1,(mapOf pre).2):Int×Ents)=mapOf pre from rfl]
   simp only
   rw[decide_eq_true (by omega)]
  simp only[visit]
  rw[es]
  simp only
  rw[YoJ hd ws _ m (fun v hv=>hj v (YGj _ hv)) hp' (by grind)]
  simp
def tbs(db:List Tabl)(l:List Atom):List Tabl:=l.map fun a=>tabO db a.1
theorem tNew(db:List Tabl)(hd:List ByteArray)(l:List Atom)(hdb:db.length<=maxEl)(hl:l.length<=maxEl):q41 loO db hd l=some (hd,l,tbs db l,0,[],false,false,[]):=by
 unfold q41
 have:Ygd loO (l,(l.length:Int),0,db,hd,l,[],0,[],false,false,[])=some (hd,l,tbs db l,0,[],false,false,[]):=by
  refine Yav (st:=fun n=>(l,(l.length:Int),(n:Int),db,hd,l,tbs db (l.take n),0,[],false,false,[])) (N:=l.length) rfl ?_ (fun n hn=> ?_)
  ·simp only[Yd3,nlI,cond_false,YGm]
  ·simp only[Yd3,ltI hn,cond_true,inc hn hl,YG1]
   rw[chkT _ (by omega),YFJ _ _ hdb,YBw,chkT _ (by unfold tbs;grind),YbG (d:=zA) hn]
   unfold tbs
   simp
 simp_all
def YCZ(db:List Tabl)(l:List Atom):List Way:=wyM (PR l (tbs db l)) (fun _=>none) []
structure QOk(db:List Tabl)(hd:List ByteArray)(l:List Atom):Prop where
 tb:TbOk l (tbs db l)
 hn:hd.length<=10
 dn:db.length<=maxEl
 sm:sumT l<=maxEl
 row: ∀n,n<l.length->((tbs db l).getD n zT).2.2.length<=6
 val: ∀n,n<l.length-> ∀row∈ ((tbs db l).getD n zT).2.2,∀v∈row.2,goodV v
theorem YoK{l:List Atom}{tb:List Tabl}(h:l.length=tb.length){q:List Term×Rws}(hq:q∈PR l tb): ∃n,n<l.length/\q=((l.getD n zA).2,(tb.getD n zT).2.2):=by
 obtain⟨n,hn,e⟩:=YGw.1 hq
 unfold PR at hn
 rw[List.length_zipWith]at hn
 refine⟨n,by omega,?_⟩
 rw[<-e]
 unfold PR
 simp_all
theorem QOk.JV{db:List Tabl}{hd:List ByteArray}{l:List Atom}(h:QOk db hd l): ∀w∈YCZ db l,JV w.2:=
 YoH (fun k v e=>by cases e) (fun q hq row hr v hv=>by
  obtain⟨n,hn,rfl⟩:=YoK h.tb.len hq
  exact h.val n hn row hr v hv)
theorem QOk.len{db:List Tabl}{hd:List ByteArray}{l:List Atom}(h:QOk db hd l):(YCZ db l).length<=6^l.length:=by
 refine YGH (YoI _ _ _ (fun q hq=> ?_)) ?_
 ·obtain⟨n,hn,rfl⟩:=YoK h.tb.len hq
  exact h.row n hn
 ·refine Nat.pow_le_pow_right (by omega) ?_
  unfold PR;grind
def anss(db:List Tabl)(hd:List ByteArray)(l:List Atom):List Vals:=(YCZ db l).map fun w=>ansM hd w.2
theorem QOk.all{db:List Tabl}{hd:List ByteArray}{l:List Atom}(h:QOk db hd l):AllO hd.length (anss db hd l):=fun x hx=>by
 obtain⟨w,hw,rfl⟩:=YGg.1 hx
 exact Yg8 (h.JV w hw)
theorem YBc(l:List ByteArray)(hl:l.length<=maxEl):q65 loO l=some (YCO l):=by
 cases l with
 |nil=>exact(congrArg (fun lo=>q65 lo []) (Ya9 100)).symm.trans (by kernel_rfl)
 |cons a r=>
  show(bif YGD (a::r).length maxEl then some (YCO (a::r))else none)=_
  rw[Nat.ble_eq_true_of_le hl];rfl
theorem YC0{db:List Tabl}{hd:List ByteArray}{l:List Atom}(h:QOk db hd l)(hq:qI db hd l=0)(hw:(YCZ db l).length<=10000):q66 loO db hd l=some (rowsR (anss db hd l),0):=by
 have hm:maxEl=1073741824:=rfl
 have hh:=h.hn
 have hs:=h.tb.sm
 unfold q66
 rw[tQ db hd l (by omega) h.sm,YBw,hq]
 rw[tNew db hd l h.dn (by omega),YBw]
 obtain⟨clk',l',e⟩:=run (see:=seeA hd) (I:=fun _=>True) (J:=JV) (hd:=hd) (l0:=l) (tb:=tbs db l) (m2:=false) (m3:=false) (fun _ _ _ _=>trivial) h.tb (fun i hi row hr σ σ' hj ht=>Yg9 hj (h.val i hi row hr) ht) (fun clk l1 rs e _ hk hj _=>tSee hd l (tbs db l) clk l1 false false rs e (by omega) hj) 0 [] (0,[],false) List.nodup_nil (fun k v e=>by cases e) trivial
 rw[e,YBw]
 rw[chkT _ rfl]
 have hv:=YoJ hd (YCZ db l) [] false h.JV (fun _ hx=>by cases hx) (by simp_all)
 rw[show visit (seeA hd) (wyM (PR l (tbs db l)) (lk []) []) (0,[],false)=_ from hv]
 have hA:=h.all
 have hml:=YoB hA
 have hal:(anss db hd l).length<=10000:=by unfold anss;simp_all
 have hrl:=YoF (anss db hd l)
 rw[show((YCZ db l).map fun w=>ansM hd w.2)=anss db hd l from rfl]
 have hj:YcN loO ([],(mapOf (anss db hd l)).1,(mapOf (anss db hd l)).2,false)=some (rowsR (anss db hd l),0):=by
  refine YnW (YBa _).1 (by omega) ?_
  show YGO (q65 loO ((mapOf (anss db hd l)).2.map (·.2.1))) _=_
  rw[YBc _ (by grind),YBw,YBb hA]
  rw[chkT _ (by rw[<-(YoG hA).length_eq])]
  have e3:Ygo loO ((((rowsR (anss db hd l)).map keyL).length:Int),0,[],(rowsR (anss db hd l)).map keyL,(mapOf (anss db hd l)).1,(mapOf (anss db hd l)).2,false)=some (rowsR (anss db hd l)):=by
   refine Yav (st:=fun n=>((((rowsR (anss db hd l)).map keyL).length:Int),(n:Int),(rowsR (anss db hd l)).take n,(rowsR (anss db hd l)).map keyL,(mapOf (anss db hd l)).1,(mapOf (anss db hd l)).2,false)) (N:=(rowsR (anss db hd l)).length) rfl ?_ (fun n hn=> ?_)
   ·simp only[Yea,YGp,nlI,cond_false,YGm]
   ·simp only[Yea,YGp,ltI hn,cond_true,inc hn (show(rowsR (anss db hd l)).length<=maxEl by omega),YG1]
    have ek:((rowsR (anss db hd l)).map keyL).getD n nul0=keyL ((rowsR (anss db hd l)).getD n []):=by
     simp_all
    have hmem:=rowsR_mem.1 (Yaj (d:=([]:Vals)) hn)
    have eg:mgt eqS (keyL ((rowsR (anss db hd l)).getD n [])) (mapOf (anss db hd l)).2 []=(rowsR (anss db hd l)).getD n []:=by
     unfold mgt
     rw[Yoz hA _ (hA _ hmem),hasV_iff.2 hmem];rfl
    rw[chkT _ (by omega),chkT _ (by grind),ek,eg,YbG (d:=([]:Vals)) hn]
  simp_all
 simp_all
end
end Go.Abs.G47
namespace Go.Abs.G47
open Go Go.Abs
noncomputable section
end
end Go.Abs.G47
namespace Go.Abs.G47
open Go Go.Abs
noncomputable section
def SzT(l:List Term):Prop:= ∀t∈l,t.2.2.2.size<=maxEl
def YF4(N:List ByteArray)(T:List Term):Asg Term:=fun k=>bif decide (0<=idxI N k)then some (T.getD (idxI N k).toNat zM)else none
end
end Go.Abs.G47
namespace Go.Abs.G47
open Go Go.Abs
noncomputable section
def vT(v:ByteArray):Term:=(v,0,0,nul0)
end
end Go.Abs.G47
namespace Go.Abs.G47
open Go Go.Abs
noncomputable section
theorem Yha{v:Int×Int×ByteArray}(h:vB v=true):v.2.2.size<=200:=by
 obtain⟨a,b,c⟩:=v
 unfold vB q6 at h
 by_cases h0:a=0<;>by_cases h1:a=1<;>by_cases h2:a=2<;>by_cases h3:a=3<;>by_cases h4:b=0<;>by_cases h5:1<=b<;>simp[h0,h1,h2,h3,h4,h5]at h<;>first| (subst h;exact YGM _)|grind|omega
theorem YoL{t:Term}(h:YCy t=true):t.2.2.2.size<=200:=by
 unfold YCy at h
 by_cases h0:t.1=nul0
 ·simp only[h0,decide_true,YGX,cond_false]at h
  exact Yha h
 ·simp only[h0,decide_false,YGY,cond_true,YGW,decide_eq_true_eq]at h
  rw[h.2.2.2.1];trivial
structure Wf(hd:List ByteArray)(l:List Atom):Prop where
 len:l.length<=6
 ne:l≠ []
 nm: ∀a∈l,YB2 a.1=true
 tm: ∀a∈l,∀t∈a.2,YCy t=true
 hd: ∀n,n<hd.length->hd.getD n nul0∈YBS [] l/\hd.getD n nul0∉hd.take n
theorem Wf.sz{hd:List ByteArray}{l:List Atom}(h:Wf hd l): ∀a∈l,SzT a.2:=fun a ha t ht=>by
 have:=YoL (h.tm a ha t ht)
 have:maxEl=1073741824:=rfl
 omega
end
end Go.Abs.G47
namespace Go.Abs.G47
open Go Go.Abs
noncomputable section
def cT(v:Val):Term:=(nul0,v)
def dA(N:List ByteArray)(T:List Term):Asg Val:=fun k=>(YF4 N T k).map (·.2)
structure ROk(db:List Tabl)(l:List Atom):Prop where
 ix: ∀a∈l,0<=tabI db a.1
 sz: ∀a∈l,SzT a.2
theorem YoM(db:List Tabl){l:List Atom}{n:Nat}(hn:n<l.length):(tbs db l).getD n zT=tabO db (l.getD n zA).1:=by
 unfold tbs;simp_all
theorem QOk.at{db:List Tabl}{hd:List ByteArray}{l:List Atom}(h:QOk db hd l){a:Atom}(ha:a∈l):(tabO db a.1).2.2.length<=6/\ ∀row∈ (tabO db a.1).2.2,row.2.length=a.2.length/\ ∀v∈row.2,v.2.2.size<=maxEl:=by
 have hM:maxEl=1073741824:=rfl
 obtain⟨n,hn,e⟩:=YGw.1 ha
 have e':l.getD n zA=a:=by simp_all
 have h1:=h.row n hn
 have h2:=h.tb.ar n hn
 have h3:=h.val n hn
 rw[YoM db hn,e']at h1 h2 h3
 exact⟨h1,fun row hr=>⟨h2 row hr,fun v hv=>by have:=Yha (h3 row hr v hv).1;omega⟩⟩
end
end Go.Abs.G47
namespace Go.Abs.G47
open Go Go.Abs
noncomputable section
theorem rIn(L:List Vals)(v:Vals)(hL:L.length<=maxEl)(hs: ∀x∈L,SzV x)(hv:SzV v):q135 loO L v=some (hasV L v):=by
 unfold q135
 have:YgJ loO (L,v,0)=some (YBy (R:=Bool⊕Unit) (fun m=>bif decide (L.getD m []=v)then some (.inl true)else none) L.length 0 (.inr ())):=by
  refine Yao (fun n=>(L,v,(n:Int))) _ L.length _ rfl ?_ (fun n hn=> ?_)
  ·simp only[Yek,nlI,cond_false]
  ·simp only[Yek,ltI hn,cond_true,inc hn hL,YG1]
   rw[chkT _ (by omega),Yoi _ _ (hs _ (Yaj hn)) hv,YBw]
   grind
 rw[this,YBw,Yn0]
 have e:anyN (fun m=>decide (L.getD m []=v)) L.length 0=hasV L v:=Yew (fun x=>decide (x=v)) L []
 rw[e]
 cases hasV L v<;>rfl
theorem YBd{a:Vals}(h:Ok a)(hl:a.length<=1000):SzV a:=by
 have hM:maxEl=1073741824:=rfl
 exact⟨by omega,fun v hv=>by have:=Yha (h v hv).1;omega⟩
theorem YFN(L:List Vals)(hl:L.length<=maxEl)(hs: ∀x∈L,SzV x):q137 loO L L=some true:=by
 unfold q137
 have:YgK loO (L,L,0)=some (.inr ()):=by
  refine Yav (st:=fun n=>(L,L,(n:Int))) (N:=L.length) rfl ?_ (fun n hn=> ?_)
  ·simp only[Yel,nlI,cond_false]
  ·simp only[Yel,ltI hn,cond_true,inc hn hl,YG1]
   have:=hs _ (Yaj (d:=([]:Vals)) hn)
   rw[chkT _ (by omega),chkT _ (by omega),Yoi _ _ this this,YBw,decide_eq_true rfl]
   rfl
 simp
 rw[this,YBw,Yn1]
end
end Go.Abs.G47
namespace Go.Abs.G47
open Go Go.Abs
noncomputable section
abbrev zS:ByteArray:=nul0
theorem idx_no{l:List ByteArray}{v:ByteArray}:idxI l v<0↔v∉l:=by
 rw[<-decide_eq_true_iff (p:=idxI l v<0),YgY,Bool.not_eq_true',<-Bool.not_eq_true,inL_iff]
theorem YoN{n N:Nat}(hn:n<N)(hN:N<=1073741824):YG7 .i64 ((n:Int)+1)=((n+1:Nat):Int):=inc hn hN
theorem YBe(c:Int): ∃v,q117 loO c=some v/\goodV v:=by
 have g: ∀a b:Int,∀s:ByteArray,vB (a,b,s)=true->(decide (-9223372036854775808<=b)&&decide (b<=9223372036854775807))=true->goodV (a,b,s):=fun a b s h1 h2=>by
  simp at h2
  trivial
 have v0: ∀n:Int,vB (1,n,YG6 #[])=true:=fun n=>by rfl
 unfold q117
 rw[chkT _ (by decide)]
 by_cases h0:c.tmod 12=0
 ·simp_all
 rw[decide_eq_false h0]
 by_cases h1:c.tmod 12=1
 ·simp_all
 rw[decide_eq_false h1]
 by_cases h2:c.tmod 12=2
 ·simp_all
 rw[decide_eq_false h2]
 by_cases h3:c.tmod 12=3
 ·exact⟨_,by rw[decide_eq_true h3];rfl,g _ _ _ (by rfl) (by decide)⟩
 rw[decide_eq_false h3]
 by_cases h4:c.tmod 12=4
 ·exact⟨_,by rw[decide_eq_true h4];rfl,g _ _ _ (by rfl) (by decide)⟩
 rw[decide_eq_false h4]
 by_cases h5:c.tmod 12=5
 ·exact⟨_,by rw[decide_eq_true h5];rfl,g _ _ _ (by rfl) (by decide)⟩
 rw[decide_eq_false h5]
 by_cases h6:c.tmod 12=6
 ·exact⟨_,by rw[decide_eq_true h6];rfl,g _ _ _ (by rfl) (by decide)⟩
 rw[decide_eq_false h6]
 by_cases h7:c.tmod 12=7
 ·exact⟨_,by rw[decide_eq_true h7];rfl,g _ _ _ (by rfl) (by decide)⟩
 rw[decide_eq_false h7]
 by_cases h8:c.tmod 12=8
 ·simp_all
 rw[decide_eq_false h8]
 by_cases h9:c.tmod 12=9
 ·exact⟨_,by rw[decide_eq_true h9];rfl,g _ _ _ (by rfl) (by decide)⟩
 rw[decide_eq_false h9]
 by_cases h10:c.tmod 12=10
 ·exact⟨_,by rw[decide_eq_true h10];rfl,g _ _ _ (by rfl) (by decide)⟩
 simp_all
def ofV(c:Int):Int×Int×ByteArray:=(q117 loO c).getD zV
theorem YcW(c:Int):q117 loO c=some (ofV c)/\goodV (ofV c):=by
 obtain⟨v,h,g⟩:=YBe c
 have:ofV c=v:=by unfold ofV;simp_all
 simp_all
structure GT(nm:ByteArray)(attrs:List ByteArray)(rows:Rws):Prop where
 nm:YB2 nm=true
 na:attrs.length<=16
 nr:rows.length<=1000
 at': ∀a∈attrs,YB2 a=true
 nd:attrs.Nodup
 ids:((0:Int)::rows.map (·.1)).Pairwise (· < ·)
 len: ∀r∈rows,r.2.length=attrs.length
 ok: ∀r∈rows,∀v∈r.2,vB v=true
theorem YoO{attrs:List ByteArray}(h:attrs.Nodup){n:Nat}(hn:n<attrs.length):attrs.getD n zS∉attrs.take n:=by
 intro hm
 rw[<-List.take_append_drop n attrs,List.nodup_append]at h
 refine h.2.2 _ hm _ ?_ rfl
 rw[YGs,YF7 hn]
 exact List.mem_drop_iff_getElem.2 ⟨0,by omega,by simp⟩
theorem YBf{nm:ByteArray}{attrs:List ByteArray}{rows:Rws}(g:GT nm attrs rows):YB9 nm attrs rows=0:=by
 have hA:anyN (fA attrs) attrs.length 0=false:=by
  rw[<-Bool.not_eq_true,Yb4]
  rintro⟨m,_,h2,h3⟩
  have hm:m<attrs.length:=by omega
  unfold fA at h3
  rw[g.at' _ (Yaj hm),YGX,Bool.false_or,decide_eq_true_eq]at h3
  have:=idx_no.2 (YoO g.nd hm)
  grind
 have hR:YBy (fV attrs rows) rows.length 0 (.inr ())= .inr ():=by
  refine Yeq _ _ (fun m _ hm=> ?_)
  have hm:m<rows.length:=by omega
  have hmem:=Yaj (d:=zR) hm
  have hid:YDc rows m< (rows.getD m zR).1:=by
   have hp:=List.pairwise_iff_getElem.1 g.ids
   have e:(rows.getD m zR).1=((0:Int)::rows.map (·.1))[m+1]'(by simp_all):=by
    simp_all
   cases m with
   |zero=>rw[e];exact hp 0 1 (by simp) (by simp_all) (by omega)
   |succ k=>
    have e2:YDc rows (k+1)=((0:Int)::rows.map (·.1))[k+1]'(by grind):=by
     show(rows.getD k zR).1=_
     grind
    rw[e,e2];exact hp (k+1) (k+2) _ _ (by omega)
  unfold fV
  have hv:vsB (rows.getD m zR).2=true:=by
   unfold vsB
   rw[Bool.not_eq_true',<-Bool.not_eq_true,Yb4]
   rintro⟨k,_,h2,h3⟩
   rw[g.ok _ hmem _ (Yaj (by omega))]at h3
   cases h3
  rw[decide_eq_false (by omega),g.len _ hmem,decide_eq_true rfl,hv];rfl
 have h1:=g.na
 have h2:=g.nr
 unfold YB9
 rw[g.nm,decide_eq_false (by omega),decide_eq_false (by omega),hA,hR];rfl
abbrev nmL:List ByteArray:=[(YG6 #[97]),(YG6 #[98]),(YG6 #[99]),(YG6 #[100]),(YG6 #[101]),(YG6 #[102]),(YG6 #[103]),(YG6 #[104])]
def cellV(codes:List Int)(k:Nat):Int×Int×ByteArray:=if k<codes.length then ofV (codes.getD k 0)else ofV 0
def recR(n:Nat)(g:Int)(rows:List (List Int)):Rws:=tab rows.length fun i=>(1+(i:Int)*g,tab n (cellV (rows.getD i [])))
theorem YBg(n i:Nat)(a b:Int)(rows:List (List Int))(hi:i<rows.length)(hn:n<=5)(v4:ByteArray)(v5:List ByteArray)(v6:Rws)(t:ByteArray)(id:Int)(h3:List ByteArray)(h4:Rws):
  YgB loO ((n:Int),(i:Int),0,a,b,rows,v4,v5,v6,t,id,h3,h4,[])=some ((n:Int),(i:Int),a,b,rows,v4,v5,v6,t,id,h3,h4,tab n (cellV (rows.getD i []))):=by
 have hm:maxEl=1073741824:=rfl
 refine Yav (N:=n) (st:=fun k=>((n:Int),(i:Int),(k:Int),a,b,rows,v4,v5,v6,t,id,h3,h4,tab k (cellV (rows.getD i [])))) ?_ ?_ (fun k hk=> ?_)
 ·rfl
 ·simp[Yeg]
 ·have e1:decide ((k:Int)< (n:Int))=true:=by simp_all
  have e2:=YoN hk (by omega)
  simp only[Yeg,e1,cond_true,e2,YG1]
  rw[chkT _ (by omega),<-Yb3]
  by_cases hc:k< (rows.getD i []).length
  ·have ec:cellV (rows.getD i []) k=ofV ((rows.getD i []).getD k 0):=by unfold cellV;simp_all
   rw[decide_eq_true (by omega:(k:Int)< ((rows.getD i []).length:Int)),cond_true,chkT _ (by omega),chkT _ (by omega),(YcW _).1,YBw,ec,chkT _ (by rw[Yan];grind)]
  ·have ec:cellV (rows.getD i []) k=ofV 0:=by unfold cellV;simp_all
   rw[decide_eq_false (by omega: ¬ (k:Int)< ((rows.getD i []).length:Int)),cond_false,(YcW _).1,YBw,ec,chkT _ (by rw[Yan];grind)]
theorem YBh(n:Nat)(a b:Int)(rows:List (List Int))(hr:rows.length<=8)(hn:n<=5)(hb0:0<=b):q118 loO a b rows (n:Int)=some (YG6 #[114],nmL.take n,recR n (1+b.tmod 3) rows):=by
 have hm:maxEl=1073741824:=rfl
 have hg0:0<=b.tmod 3:=Int.tmod_nonneg _ hb0
 have hg1:b.tmod 3<3:=Int.tmod_lt_of_pos _ (by decide)
 have hL:YgC loO ((n:Int),0,a,b,rows,zS,[],[],YG6 #[114],nmL.take n,[])=some (zS,[],[],YG6 #[114],nmL.take n,recR n (1+b.tmod 3) rows):=by
  refine Yav (N:=rows.length) (st:=fun i=>((n:Int),(i:Int),a,b,rows,zS,[],[],YG6 #[114],nmL.take n,tab i fun i=>(1+(i:Int)*(1+b.tmod 3),tab n (cellV (rows.getD i []))))) ?_ ?_ (fun i hi=> ?_)
  ·rfl
  ·simp[Yeh,recR]
  ·have e1:decide ((i:Int)< (rows.length:Int))=true:=by simp_all
   have e2:=YoN hi (by omega)
   have hprod:(i:Int)*(1+b.tmod 3)<=24/\0<=(i:Int)*(1+b.tmod 3):=by
    refine⟨?_,Int.mul_nonneg (by omega) (by omega)⟩
    have h1:(i:Int)*(1+b.tmod 3)<=(i:Int)*3:=Int.mul_le_mul_of_nonneg_left (by omega) (by omega)
    omega
   have e3:YG7 .i64 (1+b.tmod 3)=1+b.tmod 3:=wr6 (by omega) (by omega)
   have e4:YG7 .i64 ((i:Int)*(1+b.tmod 3))=(i:Int)*(1+b.tmod 3):=wr6 (by omega) (by omega)
   have e5:YG7 .i64 (1+(i:Int)*(1+b.tmod 3))=1+(i:Int)*(1+b.tmod 3):=wr6 (by omega) (by omega)
   have e6:YG7 .i64 (b.tmod 3)=b.tmod 3:=wr6 (by omega) (by omega)
   simp only[Yeh,e1,cond_true,e3,e4,e5,e6]
   rw[chkT _ (by decide),YBg n i a b rows hi hn,YBw,<-Yb3]
   simp only[e2]
   rw[chkT _ (by rw[Yan];grind)]
 unfold q118
 have e0:(nmL.take (n:Int).toNat).drop 0=nmL.take n:=by rfl
 rw[chkT _ (by grind)]
 rw[e0,chkT _ (by grind),hL,YBw]
theorem Yhb{n:Nat}{g:Int}{rows:List (List Int)}{r:Int×Vals}(h:r∈recR n g rows):r.2.length=n/\ ∀v∈r.2,goodV v:=by
 obtain⟨i,hi,rfl⟩:=YGg.1 h
 refine⟨Yan _ _,fun v hv=> ?_⟩
 obtain⟨k,hk,rfl⟩:=YGg.1 hv
 unfold cellV
 split
 ·exact(YcW _).2
 trivial
theorem YBi(nm:ByteArray)(hnm:YB2 nm=true)(n:Nat)(g:Int)(rows:List (List Int))(hr:rows.length<=8)(hn:n<=5)(hg:1<=g):GT nm (nmL.take n) (recR n g rows):=by
 have hnl:(nmL.take n).length=n:=by grind
 have nB: ∀a∈nmL,YB2 a=true:=by
  trivial
 refine⟨hnm,by omega,by unfold recR;rw[Yan];omega,fun a ha=>nB a (List.mem_of_mem_take ha),List.Nodup.sublist (List.take_sublist _ _) (by decide),?_,fun r hr=>by rw[(Yhb hr).1,hnl],fun r hr v hv=>((Yhb hr).2 v hv).1⟩
 have e:(recR n g rows).map (·.1)=tab rows.length fun i=>1+(i:Int)*g:=by unfold recR tab;simp
 rw[e,List.pairwise_cons]
 constructor
 ·intro x hx
  obtain⟨i,hi,rfl⟩:=YGg.1 hx
  have:=Int.mul_nonneg (show(0:Int)<=(i:Int) by omega) (show 0<=g by omega)
  omega
 ·unfold tab
  rw[List.pairwise_map]
  refine List.Pairwise.imp (fun{a b} h=> ?_) List.pairwise_lt_range
  have h1:((a:Int)+1)*g<=(b:Int)*g:=Int.mul_le_mul_of_nonneg_right (by omega) (by omega)
  grind
abbrev nm3:List ByteArray:=[(YG6 #[114]),(YG6 #[115]),(YG6 #[116])]
def drT(d:List (Int×Int×List (List Int)))(i:Nat):Tabl:=
 (nm3.getD i nul0,nmL.take (((d.getD i (0,0,[])).1.tmod 4).tmod 6).toNat,recR (((d.getD i (0,0,[])).1.tmod 4).tmod 6).toNat (1+(d.getD i (0,0,[])).2.1.tmod 3) (d.getD i (0,0,[])).2.2)
structure DOk(db:List Tabl):Prop where
 len:db.length<=3
 gt: ∀t∈db,GT t.1 t.2.1 t.2.2
 na: ∀t∈db,t.2.1.length<=5
 rs: ∀t∈db,t.2.2.length<=6
 gv: ∀t∈db,∀r∈t.2.2,∀v∈r.2,goodV v
 nd:(db.map (·.1)).Nodup
theorem YoP{n:Int}(h:0<=n)(h':n<=255): ∃m:Nat,(n.tmod 4).tmod 6=(m:Int)/\m<=3/\YG7 .i64 ((n.tmod 4).tmod 6)=(m:Int):=by
 have h1:=Int.tmod_nonneg 4 h
 have h2:n.tmod 4<4:=Int.tmod_lt_of_pos _ (by decide)
 have h3:(n.tmod 4).tmod 6=n.tmod 4:=Int.tmod_eq_of_lt h1 (by omega)
 refine⟨(n.tmod 4).toNat,by omega,by omega,?_⟩
 rw[h3,wr6 (by omega) (by omega)];omega
theorem YFO(a b:Int)(rows:List (List Int))(ha:0<=a)(ha':a<=255)(hb:0<=b):q119 loO (a.tmod 4) b rows 6=some (bif decide ((6:Int)< (rows.length:Int))then(nul0,[],[],false)else((YG6 #[114]),nmL.take ((a.tmod 4).tmod 6).toNat,recR ((a.tmod 4).tmod 6).toNat (1+b.tmod 3) rows,true)):=by
 unfold q119
 by_cases h6:(6:Int)< (rows.length:Int)
 ·simp_all
 ·rw[decide_eq_false h6,cond_false,cond_false,chkT _ (by decide)]
  obtain⟨m,h1,h2,h3⟩:=YoP ha ha'
  rw[h3,YBh m _ b rows (by omega) (by omega) hb,YBw,h1]
  rfl
theorem YFP(d:List (Int×Int×List (List Int)))(hd: ∀x∈d,0<=x.1/\x.1<=255/\0<=x.2.1): ∃db ok,q120 loO d=some (db,ok)/\DOk db:=by
 have hm:maxEl=1073741824:=rfl
 unfold q120
 have e3:YgD loO (d,0,[],[])=some (YBy (R:=(Bool×List Tabl)⊕ (List (Int×Int×List (List Int))×List Tabl×List Tabl)) (fun m=>bif decide ((6:Int)< ((d.getD m (0,0,[])).2.2.length:Int))then some (.inl (false,[]))else none) (min d.length 3) 0 (.inr (d,[],tab (min d.length 3) (drT d)))):=by
  refine Yao (fun n=>(d,(n:Int),[],tab n (drT d))) _ (min d.length 3) _ rfl ?_ (fun n hn=> ?_)
  ·by_cases h:d.length<=3
   ·rw[Nat.min_eq_left h]
    simp only[YcO,nlI,cond_false]
   ·rw[Nat.min_eq_right (by omega)]
    have e:decide (((3:Nat):Int)< (d.length:Int))=true:=by grind
    have e':decide (((3:Nat):Int)<3)=false:=rfl
    simp only[YcO,e,e',cond_true,cond_false]
  ·have h1:decide ((n:Int)< (d.length:Int))=true:=by grind
   have h2:decide ((n:Int)<3)=true:=by grind
   obtain⟨p1,p2,p3⟩:=hd _ (Yaj (d:=(0,0,[])) (show n<d.length by omega))
   simp only[YcO,h1,h2,cond_true,YG1]
   rw[chkT _ (by omega),chkT _ (by decide),chkT _ (by omega),chkT _ (by omega),YFO _ _ _ p1 p2 p3,YBw]
   have e2:YG7 .i64 ((n:Int)+1)=((n+1:Nat):Int):=by rw[wr6 (by omega) (by omega)];omega
   by_cases h6:(6:Int)< ((d.getD n (0,0,[])).2.2.length:Int)
   ·simp_all
   ·rw[decide_eq_false h6]
    simp only[cond_false,YGX]
    rw[chkT _ (by simp_all),chkT _ (by rw[Yan];grind),e2,<-Yb3]
    rfl
 rw[e3,YBw]
 rcases Yba (f:=fun m=>bif decide ((6:Int)< ((d.getD m (0,0,[])).2.2.length:Int))then some (.inl (false,[]))else none) (r0:=(.inr (d,[],tab (min d.length 3) (drT d)):(Bool×List Tabl)⊕ (List (Int×Int×List (List Int))×List Tabl×List Tabl))) (min d.length 3) 0 with⟨m,r,g1,g2,g3,g4⟩| ⟨g1,g2⟩
 ·rw[g4]
  cases hc:decide ((6:Int)< ((d.getD m (0,0,[])).2.2.length:Int))with
  |false=>grind
  |true=>
   rw[hc]at g3;injection g3 with g3;subst g3
   exact⟨[],false,rfl,YGM _,(fun t h=>nomatch h),(fun t h=>nomatch h),(fun t h=>nomatch h),(fun t h=>nomatch h),List.nodup_nil⟩
 ·rw[g1]
  refine⟨tab (min d.length 3) (drT d),decide ((d.length:Int)<=3),rfl,?_⟩
  have hN:min d.length 3<=d.length/\min d.length 3<=3:=⟨Nat.min_le_left ..,Nat.min_le_right ..⟩
  generalize min d.length 3=N at*
  have hall: ∀i,i<N-> ∃n:Nat,n<=3/\ (drT d i)=(nm3.getD i nul0,nmL.take n,recR n (1+(d.getD i (0,0,[])).2.1.tmod 3) (d.getD i (0,0,[])).2.2)/\ (d.getD i (0,0,[])).2.2.length<=6/\1<=1+(d.getD i (0,0,[])).2.1.tmod 3:=fun i hi=>by
   obtain⟨p1,p2,p3⟩:=hd _ (Yaj (d:=(0,0,[])) (show i<d.length by omega))
   obtain⟨m,q1,q2,_⟩:=YoP p1 p2
   refine⟨m,q2,by unfold drT;simp_all,?_,by grind⟩
   grind
  have hn3: ∀i,i<3->YB2 (nm3.getD i nul0)=true:=fun i hi=>YGn.1 (show nm3.all YB2=true by rfl) _ (Yaj hi)
  have hmem: ∀t∈tab N (drT d),∃i,i<N/\t=drT d i:=fun t ht=>by
   unfold tab at ht
   grind
  refine⟨by rw[Yan];omega,fun t ht=> ?_,fun t ht=> ?_,fun t ht=> ?_,fun t ht r hr v hv=> ?_,?_⟩
  ·obtain⟨i,hi,rfl⟩:=hmem t ht
   obtain⟨n,h1,h2,h3,h4⟩:=hall i hi
   rw[h2]
   exact YBi _ (hn3 i (by omega)) n _ _ (by omega) (by omega) h4
  ·grind
  ·obtain⟨i,hi,rfl⟩:=hmem t ht
   obtain⟨n,h1,h2,h3,h4⟩:=hall i hi
   rw[h2]
   show(recR n _ _).length<=6
   unfold recR;rw[Yan];exact h3
  ·obtain⟨i,hi,rfl⟩:=hmem t ht
   obtain⟨n,h1,h2,h3,h4⟩:=hall i hi
   rw[h2]at hr
   exact(Yhb hr).2 v hv
  ·have e:(tab N (drT d)).map (·.1)=nm3.take N:=by
    unfold tab
    rw[YGx]
    match N,hN.2 with
    |0,_=>rfl
    |1,_=>rfl
    |2,_=>rfl
    |3,_=>rfl
   rw[e]
   exact List.Nodup.sublist (List.take_sublist _ _) (by decide)
theorem YBj{l:List ByteArray}(h:l.Nodup){i j:Nat}(hi:i<l.length)(hj:j<l.length)(e:l[i]=l[j]):i=j:=by
 have h:=List.pairwise_iff_getElem.1 h
 grind
theorem DOk.get{db:List Tabl}(h:DOk db){n:Nat}(hn:n<db.length):tabI db (db.getD n zT).1=(n:Int):=by
 rcases Yeu (p:=tabP db (db.getD n zT).1) (k:=db.length) (n:=0)with⟨m,_,h2,h3,h4⟩| ⟨h1,h2⟩
 ·have e:(db.getD m zT).1=(db.getD n zT).1:=of_decide_eq_true h3
  have hm:m<db.length:=by omega
  have:m=n:=YBj h.nd (by simp_all) (by simp_all) (by
   simp_all)
  have h4:tabI db (db.getD n zT).1=(m:Int):=h4
  omega
 ·have:=h2 n (YGM _) (by omega)
  unfold tabP at this
  simp_all
theorem DOk.tab{db:List Tabl}(h:DOk db){n:Nat}(hn:n<db.length):tabO db (db.getD n zT).1=db.getD n zT:=by
 unfold tabO
 rw[h.get hn,decide_eq_true (by omega),cond_true,YG1]
theorem DOk.valid{db:List Tabl}(h:DOk db):dbI db=0:=by
 unfold dbI
 have hl:=h.len
 rw[decide_eq_false (by omega),cond_false,Yeq _ _ (fun m _ hm=> ?_)]
 have hm':m<db.length:=by omega
 have g:=h.gt _ (Yaj (d:=zT) hm')
 unfold fD
 rw[YBf g]
 have hneg:decide (0<=tabI (db.take m) (db.getD m zT).1)=false:=by
  rw[decide_eq_false_iff_not]
  rcases Yeu (p:=tabP (db.take m) (db.getD m zT).1) (k:=(db.take m).length) (n:=0)with⟨x,_,h2,h3,h4⟩| ⟨h1,h2⟩
  ·exfalso
   rw[YGJ,List.length_take]at h2
   have e:((db.take m).getD x zT).1=(db.getD m zT).1:=of_decide_eq_true h3
   have a1:=h.get (n:=x) (by omega)
   have a2:=h.get hm'
   grind
  ·have h1:tabI (db.take m) (db.getD m zT).1= -1:=h1
   omega
 grind
abbrev nm4:List ByteArray:=[(YG6 #[120]),(YG6 #[121]),(YG6 #[122]),(YG6 #[119])]
def vn(c:Int):ByteArray:=nm4.getD (c.tmod 4).toNat nul0
theorem rVar(c:Int)(h:0<=c):q121 loO c=some (vn c):=by
 have h1:=Int.tmod_nonneg 4 h
 have h2:c.tmod 4<4:=Int.tmod_lt_of_pos _ (by decide)
 unfold q121
 rw[chkT _ (by decide),chkT _ ⟨h1,h2⟩]
 rfl
theorem YBk(c:Int)(h:0<=c):YB2 (vn c)=true/\vn c≠nul0:=by
 have h2:c.tmod 4<4:=Int.tmod_lt_of_pos _ (by decide)
 unfold vn
 have hm:nm4.getD (c.tmod 4).toNat nul0∈nm4:=Yaj (show(c.tmod 4).toNat<4 by omega)
 refine⟨YGn.1 (show nm4.all YB2=true by rfl) _ hm,fun e=> ?_⟩
 grind
def cdT(c:Int):Term:=if 4<=c then cT (ofV (YG7 .u8 (c-4)))else vT (vn c)
theorem YBl(c:Int)(h:0<=c):YCy (cdT c)=true:=by
 unfold cdT YCy
 by_cases h4:4<=c
 ·rw[if_pos h4]
  have:=(YcW (YG7 .u8 (c-4))).2.1
  trivial
 ·rw[if_neg h4]
  obtain⟨n1,n2⟩:=YBk c h
  simp only[vT,n1,n2,decide_false,decide_true,YGY,cond_true,YG0]
theorem rJ(c:Int)(hc:0<=c)(i k:Int)(db:List Tabl)(xh:List Int)(xa:List (Int×List Int))(v0:List ByteArray)(v1:List Atom)(t0:ByteArray)(t1:List ByteArray)(t2:Rws)(a9:ByteArray)(h6:List ByteArray)(h7:List Atom)(h8:List Term)(h:h8.length+1<=maxEl):
  YcP loO (i,k,c,db,xh,xa,v0,v1,t0,t1,t2,a9,h6,h7,h8)=some (i,k,db,xh,xa,v0,v1,t0,t1,t2,a9,h6,h7,h8++[cdT c]):=by
 simp only[YcP]
 rw[rVar c hc,YBw]
 unfold cdT
 by_cases h4:4<=c
 ·rw[decide_eq_true h4,cond_true,(YcW _).1,YBw,chkT _ (by trivial),if_pos h4];rfl
 ·rw[decide_eq_false h4,cond_false,chkT _ (by trivial),if_neg h4];rfl
def cdAt(codes:List Int)(k:Nat):Int:=if k<codes.length then codes.getD k 0 else 0
theorem YoQ{codes:List Int}(h: ∀c∈codes,0<=c)(k:Nat):0<=cdAt codes k:=by
 unfold cdAt
 split
 ·simp_all
 trivial
def qAt(db:List Tabl)(xa:List (Int×List Int))(i:Nat):Atom:=
 let t:=db.getD ((xa.getD i (0,[])).1.tmod (db.length:Int)).toNat zT
 (t.1,tab t.2.1.length fun k=>cdT (cdAt (xa.getD i (0,[])).2 k))
structure GQ(db:List Tabl)(hd:List ByteArray)(l:List Atom):Prop where
 len:l.length<=3
 ne:1<=l.length
 at': ∀a∈l,∃n,n<db.length/\a.1=(db.getD n zT).1/\a.2.length=(db.getD n zT).2.1.length
 tm: ∀a∈l,∀t∈a.2,YCy t=true
 hl:hd.length<=4
 hv: ∀v∈hd,v∈YBS [] l
 nd:hd.Nodup
def hdF(vs:List ByteArray)(xh:List Int):Nat->List ByteArray
 |0=>[]
 |n+1=>bif inL vs (vn (xh.getD n 0))&& !inL (hdF vs xh n) (vn (xh.getD n 0))then hdF vs xh n++[vn (xh.getD n 0)]else hdF vs xh n
theorem Yhc(vs:List ByteArray)(xh:List Int): ∀n,(hdF vs xh n).length<=n/\ (∀v∈hdF vs xh n,v∈vs)/\ (hdF vs xh n).Nodup
 |0=>⟨YGE _,fun v h=>(by cases h),List.nodup_nil⟩
 |n+1=>by
  obtain⟨h1,h2,h3⟩:=Yhc vs xh n
  simp only[hdF]
  cases hc:inL vs (vn (xh.getD n 0))&& !inL (hdF vs xh n) (vn (xh.getD n 0))with
  |false=>grind
  |true=>
   rw[YGW,Bool.not_eq_true',<-Bool.not_eq_true,inL_iff,inL_iff]at hc
   grind
theorem YFQ{db:List Tabl}(h:DOk db)(xh:List Int)(xa:List (Int×List Int))(hxh: ∀c∈xh,0<=c)(hxa: ∀x∈xa,0<=x.1/\x.1<=255/\ ∀c∈x.2,0<=c):
  ∃hd l ok,q122 loO db xh xa=some (hd,l,ok)/\ (ok=true->GQ db hd l):=by
 have hm:maxEl=1073741824:=rfl
 have hdl:=h.len
 unfold q122
 by_cases h0:(db.length:Int)=0
 ·simp_all
 by_cases h1:(xa.length:Int)<1
 ·simp_all
 by_cases h3:(3:Int)< (xa.length:Int)
 ·simp_all
 rw[decide_eq_false h0,decide_eq_false h1,decide_eq_false h3]
 simp only[cond_false]
 have hix: ∀i,i<xa.length->0<=(xa.getD i (0,[])).1.tmod (db.length:Int)/\ (xa.getD i (0,[])).1.tmod (db.length:Int)< (db.length:Int):=fun i hi=>
  ⟨Int.tmod_nonneg _ (hxa _ (Yaj hi)).1,Int.tmod_lt_of_pos _ (by omega)⟩
 have e12:YgF loO (0,db,xh,xa,[],[],[],[])=some (xh,xa,[],[],[],tab xa.length (qAt db xa)):=by
  refine Yav (st:=fun i=>((i:Int),db,xh,xa,[],[],[],tab i (qAt db xa))) (N:=xa.length) rfl ?_ (fun i hi=> ?_)
  ·simp only[Yej,nlI,cond_false]
  ·obtain⟨p1,p2,p3⟩:=hxa _ (Yaj (d:=(0,[])) hi)
   obtain⟨q1,q2⟩:=hix i hi
   have w1:YG7 .i64 (xa.getD i (0,[])).1=(xa.getD i (0,[])).1:=wr6 (by omega) (by omega)
   simp only[Yej,ltI hi,cond_true,YG1,w1]
   rw[chkT _ (by omega),chkT _ h0,chkT _ ⟨q1,q2⟩]
   have hna:(db.getD ((xa.getD i (0,[])).1.tmod (db.length:Int)).toNat zT).2.1.length<=5:=h.na _ (Yaj (by omega))
   have hq:qAt db xa i=((db.getD ((xa.getD i (0,[])).1.tmod (db.length:Int)).toNat zT).1,tab (db.getD ((xa.getD i (0,[])).1.tmod (db.length:Int)).toNat zT).2.1.length fun k=>cdT (cdAt (xa.getD i (0,[])).2 k)):=rfl
   rw[<-Yb3,hq]
   generalize db.getD ((xa.getD i (0,[])).1.tmod (db.length:Int)).toNat zT=t at*
   have e15:YgE loO ((i:Int),0,db,xh,xa,[],[],t.1,t.2.1,t.2.2,t.1,[],tab i (qAt db xa),[])=some ((i:Int),db,xh,xa,[],[],t.1,[],tab i (qAt db xa),tab t.2.1.length fun k=>cdT (cdAt (xa.getD i (0,[])).2 k)):=by
    refine Yav (st:=fun k=>((i:Int),(k:Int),db,xh,xa,[],[],t.1,t.2.1,t.2.2,t.1,[],tab i (qAt db xa),tab k fun k=>cdT (cdAt (xa.getD i (0,[])).2 k))) (N:=t.2.1.length) rfl ?_ (fun k hk=> ?_)
    ·simp only[Yei,nlI,cond_false]
    ·have hc:=YoQ p3 k
     simp only[Yei,ltI hk,cond_true,YG1]
     rw[chkT _ (by omega),<-Yb3]
     by_cases hkc:k< (xa.getD i (0,[])).2.length
     ·have ec:cdAt (xa.getD i (0,[])).2 k=(xa.getD i (0,[])).2.getD k 0:=by unfold cdAt;omega
      rw[decide_eq_true (by omega:(k:Int)< ((xa.getD i (0,[])).2.length:Int)),cond_true,chkT _ (by omega),chkT _ (by omega),rJ _ (ec▸hc) _ _ _ _ _ _ _ _ _ _ _ _ _ _ (by rw[Yan];omega),YBw,ec]
      simp only[inc hk (show t.2.1.length<=maxEl by omega)]
     ·have ec:cdAt (xa.getD i (0,[])).2 k=0:=by unfold cdAt;omega
      rw[decide_eq_false (by omega: ¬ (k:Int)< ((xa.getD i (0,[])).2.length:Int)),cond_false,rJ _ (Int.le_refl _) _ _ _ _ _ _ _ _ _ _ _ _ _ _ (by rw[Yan];omega),YBw,ec]
      simp only[inc hk (show t.2.1.length<=maxEl by omega)]
   rw[e15,YBw]
   dsimp only
   rw[chkT _ (by rw[Yan];grind)]
   simp only[inc hi (show xa.length<=maxEl by omega)]
 rw[e12,YBw]
 dsimp only
 have hsum: ∀n,n<=3->sumT (tab n (qAt db xa))<=5*n\/ ¬n<=xa.length:=by
  intro n
  induction n with
  |zero=>intro _;exact .inl (YGE _)
  |succ n ih=>
   intro h3
   by_cases hx:n+1<=xa.length
   ·rcases ih (by omega)with hs|hs
    ·refine .inl ?_
     rw[<-Yb3]
     have hq:=hix n (by omega)
     have:(qAt db xa n).2.length<=5:=by
      unfold qAt
      simp only[Yan]
      exact h.na _ (Yaj (by omega))
     unfold sumT at hs⊢
     grind
    ·omega
   omega
 have hs:sumT (tab xa.length (qAt db xa))<=15:=by
  grind
 rw[YFZ _ (by rw[Yan];omega) (by omega),YBw]
 have hvl:=YgV (tab xa.length (qAt db xa)) []
 simp only[List.length_nil,YGJ]at hvl
 generalize hL:tab xa.length (qAt db xa)=l at*
 have e3:YgG loO (YBS [] l,0,xh,xa,[],[],l,[])=some ([],[],l,hdF (YBS [] l) xh (min xh.length 4)):=by
  refine Yav (st:=fun n=>(YBS [] l,(n:Int),xh,xa,[],[],l,hdF (YBS [] l) xh n)) (N:=min xh.length 4) rfl ?_ (fun n hn=> ?_)
  ·by_cases h4:xh.length<=4
   ·rw[Nat.min_eq_left h4]
    simp only[YcQ,nlI,cond_false]
   ·rw[Nat.min_eq_right (by omega)]
    have e:decide (((4:Nat):Int)< (xh.length:Int))=true:=by grind
    have e':decide (((4:Nat):Int)<4)=false:=rfl
    simp only[YcQ,e,e',cond_true,cond_false]
  ·have a1:decide ((n:Int)< (xh.length:Int))=true:=by grind
   have a2:decide ((n:Int)<4)=true:=by grind
   have e2:YG7 .i64 ((n:Int)+1)=((n+1:Nat):Int):=by rw[wr6 (by omega) (by omega)];omega
   have hc:=hxh _ (Yaj (d:=0) (show n<xh.length by omega))
   have hf:=(Yhc (YBS [] l) xh n).1
   simp only[YcQ,a1,a2,cond_true,e2,YG1]
   rw[chkT _ (by omega),rVar _ hc,YBw,YgS _ _ (by omega),YBw,YgS _ _ (by omega),YBw,YgX,YgY,chkT _ (by grind)]
   simp only[hdF]
   grind
 rw[e3,YBw]
 obtain⟨f1,f2,f3⟩:=Yhc (YBS [] l) xh (min xh.length 4)
 have hll:l.length=xa.length:=by rw[<-hL,Yan]
 refine⟨hdF (YBS [] l) xh (min xh.length 4),l,true,rfl,fun _=>⟨by omega,by omega,fun a ha=> ?_,fun a ha t ht=> ?_,by omega,f2,f3⟩⟩
 ·rw[<-hL]at ha
  unfold tab at ha
  obtain⟨i,hi,rfl⟩:=YGg.1 ha
  have hi':i<xa.length:=by simp_all
  obtain⟨q1,q2⟩:=hix i hi'
  exact⟨_,by omega,rfl,by unfold qAt;simp only[Yan]⟩
 ·rw[<-hL]at ha
  unfold tab at ha
  obtain⟨i,hi,rfl⟩:=YGg.1 ha
  have hi':i<xa.length:=by simp_all
  unfold qAt at ht
  simp only[tab]at ht
  obtain⟨k,hk,rfl⟩:=YGg.1 ht
  exact YBl _ (YoQ (hxa _ (Yaj hi')).2.2 k)
end
end Go.Abs.G47
namespace Go.Abs.G47
open Go Go.Abs
noncomputable section
theorem GQ.rok{db:List Tabl}{hd:List ByteArray}{l:List Atom}(h:DOk db)(g:GQ db hd l):ROk db l:=by
 refine⟨fun a ha=> ?_,fun a ha t ht=> ?_⟩
 ·obtain⟨n,hn,e,_⟩:=g.at' a ha
  rw[e,h.get hn];omega
 ·have hM:maxEl=1073741824:=rfl
  have:=YoL (g.tm a ha t ht)
  omega
theorem GQ.tabs{db:List Tabl}{hd:List ByteArray}{l:List Atom}(h:DOk db)(g:GQ db hd l){a:Atom}(ha:a∈l):tabO db a.1∈db/\ (tabO db a.1).2.1.length=a.2.length:=by
 obtain⟨n,hn,e,e2⟩:=g.at' a ha
 rw[e,h.tab hn]
 simp_all
theorem GQ.sum{db:List Tabl}{hd:List ByteArray}{l:List Atom}(h:DOk db)(g:GQ db hd l):sumT l<=15:=by
 have:sumT l<=l.length*5:=YAQ fun n hn=>by
  have:=g.tabs h (Yaj (d:=zA) hn)
  have:=h.na _ this.1
  omega
 have:=g.len
 omega
theorem GQ.qok{db:List Tabl}{hd:List ByteArray}{l:List Atom}(h:DOk db)(g:GQ db hd l):QOk db hd l:=by
 have hM:maxEl=1073741824:=rfl
 have hs:=g.sum h
 have hl:=g.len
 have hh:=g.hl
 have hd':=h.len
 have key: ∀n,n<l.length->((tbs db l).getD n zT)∈db/\ ((tbs db l).getD n zT).2.1.length=(l.getD n zA).2.length:=fun n hn=>by
  rw[YoM db hn];exact g.tabs h (Yaj hn)
 refine⟨⟨by unfold tbs;simp,by omega,fun n hn=> ?_,fun n hn=> ?_,fun n hn row hr=> ?_⟩,by omega,by omega,by omega,fun n hn=>h.rs _ (key n hn).1,fun n hn row hr v hv=>h.gv _ (key n hn).1 row hr v hv⟩
 ·have:=Yev hn;omega
 ·have:=h.rs _ (key n hn).1;omega
 ·rw[(h.gt _ (key n hn).1).len row hr,(key n hn).2]
theorem GQ.qI{db:List Tabl}{hd:List ByteArray}{l:List Atom}(h:DOk db)(g:GQ db hd l):qI db hd l=0:=by
 unfold G47.qI
 have hl:=g.len
 have hn:=g.ne
 rw[h.valid,decide_eq_true rfl,decide_eq_false (by omega),decide_eq_false (by omega)]
 rw[Yeq _ _ (fun m _ hm=> ?_)]
 ·have:YDT hd l=true:=by
   unfold YDT
   rw[Bool.not_eq_true',<-Bool.not_eq_true,Yb4]
   rintro⟨m,_,h2,h3⟩
   have hm:m<hd.length:=by omega
   unfold fHd at h3
   rw[inL_iff.2 (g.hv _ (Yaj hm)),Bool.true_and,Bool.not_not,inL_iff]at h3
   exact YoO g.nd hm h3
  simp_all
 ·have hm':m<l.length:=by omega
  have hmem:=Yaj (d:=zA) hm'
  obtain⟨t1,t2⟩:=g.tabs h hmem
  unfold fQ
  rw[decide_eq_true ((g.rok h).ix _ hmem),decide_eq_true (by rw[t2])]
  have:badT (l.getD m zA).2=false:=by
   unfold badT
   rw[Yew (fun t=> !YCy t) _ zM,List.any_eq_false]
   intro t ht
   rw[g.tm _ hmem t ht];simp
  simp_all
theorem GQ.few{db:List Tabl}{hd:List ByteArray}{l:List Atom}(h:DOk db)(g:GQ db hd l):(YCZ db l).length<=216:=
 YGH (g.qok h).len (Nat.pow_le_pow_right (by omega) g.len)
theorem GQ.lists{db:List Tabl}{hd:List ByteArray}{l:List Atom}(h:DOk db)(g:GQ db hd l):(rowsR (anss db hd l)).length<=maxEl/\ ∀x∈rowsR (anss db hd l),SzV x:=by
 have hM:maxEl=1073741824:=rfl
 have:=g.few h
 have h2:=YoF (anss db hd l)
 have hh:=g.hl
 have h3:(anss db hd l).length=(YCZ db l).length:=by unfold anss;simp
 refine⟨by omega,fun x hx=> ?_⟩
 have:=(g.qok h).all x (rowsR_mem.1 hx)
 exact YBd this.1 (by omega)
theorem rng8{n:Int}(h:(Ty.i .u8).rng n):0<=n/\n<=255:=by
 have h':(Lit.int .u8 n).wf=true:=h
 simp only[Lit.wf,YGW,decide_eq_true_eq]at h'
 trivial
theorem YBm{d:List (Int×Int×List (List Int))}(h:(Ty.l (cs [.i .u8,.i .u8,.l (cs [.l (cs [.i .u8])])])).rng d): ∀x∈d,0<=x.1/\x.1<=255/\0<=x.2.1:=fun x hx=>by
 have h1:(cs [.i .u8,.i .u8,.l (cs [.l (cs [.i .u8])])]).rng x:=h x hx
 exact⟨(rng8 h1.1).1,(rng8 h1.1).2,(rng8 h1.2.1).1⟩
theorem YoR{l:List Int}(h:(Ty.l (cs [.i .u8])).rng l): ∀c∈l,0<=c:=fun c hc=>by
 have h1:(cs [.i .u8]).rng c:=h c hc
 exact(rng8 h1.1).1
theorem YBn{l:List (Int×List Int)}(h:(Ty.l (cs [.i .u8,.l (cs [.i .u8])])).rng l): ∀x∈l,0<=x.1/\x.1<=255/\ ∀c∈x.2,0<=c:=fun x hx=>by
 have h1:(cs [.i .u8,.l (cs [.i .u8])]).rng x:=h x hx
 exact⟨(rng8 h1.1).1,(rng8 h1.1).2,YoR h1.2.1⟩
end
end Go.Abs.G47
namespace Go.Abs.G47
open Go Go.Abs
noncomputable section
theorem Yhd: ∀{L:List (List Term×Rws)} {σ:Asg Val} {r:List Int} {w:Way},w∈wyM L σ r->leA σ w.2/\ ∀q∈L,∃row∈q.2,Img w.2 (pV q.1) row.2
 | [],σ,r,w,hw=>by rw[wyM,YGo]at hw;subst hw;exact⟨leA.refl _,fun q h=>nomatch h⟩
 |q::L,σ,r,w,hw=>by
  rw[wyM,List.mem_flatMap]at hw
  obtain⟨row,hr,hw⟩:=hw
  cases hx:tsM σ (pV q.1) row.2 with
  |none=>rw[hx]at hw;cases hw
  |some σ'=>
   rw[hx]at hw
   obtain⟨a1,a2⟩:=Yod hx
   obtain⟨b1,b2⟩:=Yhd hw
   refine⟨a1.trans b1,fun p hp=> ?_⟩
   rcases YGe.1 hp with rfl|hp
   ·exact⟨row,hr,a2.mono b1⟩
   ·exact b2 p hp
theorem YoS: ∀{L:List (List Term×Rws)} {σ τ:Asg Val} {r:List Int},leA σ τ->(∀q∈L,∃row∈q.2,Img τ (pV q.1) row.2)-> ∃w∈wyM L σ r,leA w.2 τ
 | [],σ,τ,r,h,_=>⟨(r,σ),by rw[wyM];exact YGo.2 rfl,h⟩
 |q::L,σ,τ,r,h,hq=>by
  obtain⟨row,hr,hi⟩:=hq q (YGf ..)
  obtain⟨σ',e1,l1⟩:=Yoe h hi
  obtain⟨w,hw,l2⟩:=YoS (L:=L) (r:=r++[row.1]) l1 (fun p hp=>hq p (YGj _ hp))
  refine⟨w,?_,l2⟩
  rw[wyM,List.mem_flatMap]
  exact⟨row,hr,by rw[e1];exact hw⟩
theorem YeH(db:List Tabl): ∀l:List Atom,PR l (tbs db l)=l.map fun a=>(a.2,(tabO db a.1).2.2)
 | []=>rfl
 |a::l=>by
  have:=YeH db l
  unfold PR tbs at this⊢
  rw[YF9,List.zipWith_cons_cons,this];rfl
theorem YoT{τ:Asg Val}: ∀{ts:List Term} {us:Vals},Img τ (pV ts) us-> ∀t∈ts,t.1≠nul0-> ∃u,τ t.1=some u
 | [],_,_,t,ht,_=>nomatch ht
 |_::_,[],h,_,_,_=>h.elim
 |q::ts,u::us,h,t,ht,h0=>by
  rcases YGe.1 ht with rfl|ht
  ·have:=h.1;simp only[h0,if_false]at this;exact⟨u,this⟩
  ·exact YoT h.2 t ht h0
theorem YBo{db:List Tabl}{l:List Atom}{w:Way}(hw:w∈YCZ db l){v:ByteArray}(hv:v∈YBS [] l): ∃u,w.2 v=some u:=by
 rcases(YcU l [] v).1 hv with h| ⟨h0,a,ha,t,ht,rfl⟩
 ·cases h
 ·obtain⟨_,h2⟩:=Yhd hw
  rw[YeH]at h2
  obtain⟨row,_,hi⟩:=h2 _ (List.mem_map_of_mem ha)
  exact YoT hi t ht h0
theorem YEV(A B:List Vals)(hA:A.length<=maxEl)(hB:B.length<=maxEl)(sA: ∀x∈A,SzV x)(sB: ∀x∈B,SzV x)(h: ∀x∈A,x∈B):q145 loO A B=some true:=by
 unfold q145
 have:YgL loO (A,B,0)=some (.inr ()):=by
  refine Yav (st:=fun n=>(A,B,(n:Int))) (N:=A.length) rfl ?_ (fun n hn=> ?_)
  ·simp only[Yem,nlI,cond_false]
  ·simp only[Yem,ltI hn,cond_true,inc hn hA,YG1]
   have hm:=Yaj (d:=([]:Vals)) hn
   rw[chkT _ (by omega),rIn _ _ hB sB (sA _ hm),YBw,hasV_iff.2 (h _ hm)]
   rfl
 rw[this,YBw,Yn1]
end
end Go.Abs.G47
namespace Go.Abs.G47
open Go Go.Abs
noncomputable section
end
end Go.Abs.G47
namespace Go.Abs.G47
open Go Go.Abs
noncomputable section
theorem YoU(L:List Vals):(rowsR L).Nodup:=by
 induction L using YDe with
 |h0=>exact List.nodup_nil
 |h1 L x ih=>
  rw[YcV]
  unfold YDl
  cases hx:hasV (rowsR L) x with
  |true=>exact ih
  |false=>
   refine(YeG _ x).symm.nodup ?_
   rw[List.nodup_append]
   exact⟨ih,by simp,fun a ha b hb=>by rw[YGo]at hb;subst hb;intro e;subst e;rw[hasV_iff.2 ha]at hx;cases hx⟩
theorem YBp{N:Nat}{A B:List Vals}(hA:AllO N A)(hB:AllO N B)(h: ∀x,x∈A↔x∈B):rowsR A=rowsR B:=by
 refine List.Perm.eq_of_pairwise (le:=fun a b=>leR a b) (fun a b ha hb h1 h2=> ?_) (Yg7 hA) (Yg7 hB) ((List.perm_ext_iff_of_nodup (YoU A) (YoU B)).2 fun x=>by rw[rowsR_mem,rowsR_mem,h])
 have a1:=hA a (rowsR_mem.1 ha)
 have b1:=hB b (rowsR_mem.1 hb)
 exact(Yoo (by rw[a1.2,b1.2]) a1.1 b1.1).1 (YdO _ _ h1 h2)
theorem YeI{db:List Tabl}{hd:List ByteArray}{l:List Atom}(hv: ∀v∈hd,v∈YBS [] l){x:Vals}:x∈anss db hd l↔ ∃τ:Asg Val,(∀a∈l,∃row∈ (tabO db a.1).2.2,Img τ (pV a.2) row.2)/\x=ansM hd τ:=by
 constructor
 ·intro h
  obtain⟨w,hw,rfl⟩:=YGg.1 h
  refine⟨w.2,fun a ha=> ?_,rfl⟩
  have:=(Yhd hw).2
  rw[YeH]at this
  exact this _ (List.mem_map_of_mem ha)
 ·rintro⟨τ,h,rfl⟩
  obtain⟨w,h1,h2⟩:=YoS (L:=PR l (tbs db l)) (σ:=fun _=>none) (τ:=τ) (r:=[]) (fun k v e=>by cases e) (fun q hq=>by
   rw[YeH]at hq
   obtain⟨a,ha,rfl⟩:=YGg.1 hq
   exact h a ha)
  refine YGg.2 ⟨w,h1,?_⟩
  unfold ansM
  refine List.map_congr_left fun v hm=> ?_
  obtain⟨u,hu⟩:=YBo h1 (hv v hm)
  rw[hu,h2 _ _ hu]
def revL(l:List Atom)(n:Nat):List Atom:=tab l.length fun k=>if k<n\/l.length-n<=k then l.getD (l.length-1-k) zA else l.getD k zA
theorem tRev(l:List Atom)(h:List ByteArray)(hl:l.length<=6):q160 loO l h=some (tab l.length fun k=>l.getD (l.length-1-k) zA,h):=by
 have hM:maxEl=1073741824:=rfl
 unfold q160
 have e1:YgM loO (0,YG7 .i64 ((l.length:Int)-1),l,h)=some (revL l (l.length/2),h):=by
  refine Yav (st:=fun n=>((n:Int),(l.length:Int)-1-(n:Int),revL l n,h)) (N:=l.length/2) ?_ ?_ (fun n hn=> ?_)
  ·have:revL l 0=l:=by
    unfold revL
    refine Eq.trans (YgO fun k hk=> ?_) (YAm l zA).symm
    rw[if_neg (by omega)]
   rw[this,wr6 (by omega) (by omega)];simp
  ·have:decide (((l.length/2:Nat):Int)< (l.length:Int)-1-((l.length/2:Nat):Int))=false:=by rw[decide_eq_false_iff_not];omega
   simp only[Yen,this,cond_false]
  ·have h1:decide ((n:Int)< (l.length:Int)-1-(n:Int))=true:=by rw[decide_eq_true_eq];omega
   have e2:YG7 .i64 ((n:Int)+1)=((n+1:Nat):Int):=by rw[wr6 (by omega) (by omega)];omega
   have e3:YG7 .i64 ((l.length:Int)-1-(n:Int)-1)=(l.length:Int)-1-((n+1:Nat):Int):=by rw[wr6 (by omega) (by omega)];omega
   have e4:((l.length:Int)-1-(n:Int)).toNat=l.length-1-n:=by omega
   have hlen:(revL l n).length=l.length:=Yan _ _
   simp only[Yen,h1,cond_true,e2,e3,e4,YG1]
   rw[chkT _ (by omega),chkT _ (by omega),chkT _ (by omega),chkT _ (by rw[List.length_set];omega)]
   have g1:(revL l n).getD (l.length-1-n) zA=l.getD (l.length-1-n) zA:=by
    unfold revL
    rw[YnS _ _ _ _ (by omega),if_neg (by omega)]
   have g2:(revL l n).getD n zA=l.getD n zA:=by
    unfold revL
    rw[YnS _ _ _ _ (by omega),if_neg (by omega)]
   rw[g1,g2]
   have:((revL l n).set n (l.getD (l.length-1-n) zA)).set (l.length-1-n) (l.getD n zA)=revL l (n+1):=by
    unfold revL
    rw[YnT,YnT]
    refine YgO fun k hk=> ?_
    by_cases c1:k=l.length-1-n
    ·rw[if_pos c1,if_pos (by omega),c1]
     congr 1;omega
    ·rw[if_neg c1]
     by_cases c2:k=n
     ·rw[if_pos c2,if_pos (by omega),c2]
     ·rw[if_neg c2]
      by_cases c3:k<n\/l.length-n<=k
      ·rw[if_pos c3,if_pos (by omega)]
      ·rw[if_neg c3,if_neg (by omega)]
   rw[this]
 rw[e1,YBw]
 have:revL l (l.length/2)=tab l.length fun k=>l.getD (l.length-1-k) zA:=by
  unfold revL
  refine YgO fun k hk=> ?_
  by_cases c:k<l.length/2\/l.length-l.length/2<=k
  ·rw[if_pos c]
  ·rw[if_neg c];congr 1;omega
 rw[this]
def rv(l:List Atom):List Atom:=tab l.length fun k=>l.getD (l.length-1-k) zA
theorem rv_mem{l:List Atom}{a:Atom}:a∈rv l↔a∈l:=by
 unfold rv tab
 rw[YGg]
 constructor
 ·rintro⟨k,hk,rfl⟩
  rw[List.mem_range]at hk
  exact Yaj (by omega)
 ·intro h
  obtain⟨n,hn,rfl⟩:=YGw.1 h
  refine⟨l.length-1-n,by rw[List.mem_range];omega,?_⟩
  rw[show l.length-1-(l.length-1-n)=n by omega,YGs,YF7 hn];rfl
theorem YBq{l m:List Atom}(h: ∀a∈l,a∈m){v:ByteArray}(hv:v∈YBS [] l):v∈YBS [] m:=by
 rcases(YcU l [] v).1 hv with h'| ⟨h0,a,ha,t,ht,e⟩
 ·cases h'
 ·exact(YcU m [] v).2 (.inr ⟨h0,a,h a ha,t,ht,e⟩)
theorem GQ.sub{db:List Tabl}{hd:List ByteArray}{l m:List Atom}(g:GQ db hd l)(h: ∀a∈m,a∈l)(hl:m.length<=3)(hn:1<=m.length)(hv: ∀v∈hd,v∈YBS [] m):GQ db hd m:=
 ⟨hl,hn,fun a ha=>g.at' a (h a ha),fun a ha=>g.tm a (h a ha),g.hl,hv,g.nd⟩
theorem YF5(nm:ByteArray)(at':List ByteArray)(rs rows:Rws)(ha:at'.length<=maxEl)(hr:rows.length<=maxEl)(hv: ∀r∈rows,r.2.length<=maxEl):q164 loO nm at' rs rows=some (nm,at',rows):=by
 unfold q164
 rw[chkT _ ha]
 have:YgN loO (rows,0,nul0,[],[],nm,at',[])=some (nul0,[],[],nm,at',rows):=by
  refine Yav (st:=fun n=>(rows,(n:Int),nul0,[],[],nm,at',rows.take n)) (N:=rows.length) rfl ?_ (fun n hn=> ?_)
  ·simp only[Yeo,nlI,cond_false,YGm]
  ·simp only[Yeo,ltI hn,cond_true,inc hn hr,YG1,q163]
   rw[chkT _ (by omega),chkT _ (hv _ (Yaj hn)),YBw,chkT _ (by simp;omega),YbG (d:=zR) hn]
 rw[this,YBw]
def YCa(db:List Tabl)(j:Nat)(rows:Rws):List Tabl:=db.set j ((db.getD j zT).1,(db.getD j zT).2.1,rows)
theorem YoV{db:List Tabl}{j:Nat}{rows:Rws}(n:Nat)(hj:j<db.length):((YCa db j rows).getD n zT).1=(db.getD n zT).1/\ ((YCa db j rows).getD n zT).2.1=(db.getD n zT).2.1/\ (n≠j->(YCa db j rows).getD n zT=db.getD n zT)/\ (n=j->((YCa db j rows).getD n zT).2.2=rows):=by
 unfold YCa
 rw[YGs,List.getElem?_set]
 by_cases h:j=n
 ·subst h
  rw[if_pos rfl,if_pos hj]
  exact⟨rfl,rfl,fun h=>absurd rfl h,fun _=>rfl⟩
 ·rw[if_neg h,<-YGs]
  exact⟨rfl,rfl,fun _=>rfl,fun e=>absurd e.symm h⟩
theorem YoW{db:List Tabl}(D:DOk db){j:Nat}(hj:j<db.length){rows:Rws}(hs:rows.Sublist (db.getD j zT).2.2):DOk (YCa db j rows):=by
 have hm:=Yaj (d:=zT) hj
 have hmem: ∀t∈YCa db j rows,t∈db\/t=((db.getD j zT).1,(db.getD j zT).2.1,rows):=fun t ht=>(List.mem_or_eq_of_mem_set ht)
 refine⟨by unfold YCa;rw[List.length_set];exact D.len,fun t ht=> ?_,fun t ht=> ?_,fun t ht=> ?_,fun t ht r hr v hv=> ?_,?_⟩
 ·rcases hmem t ht with h|rfl
  ·exact D.gt t h
  ·have g:=D.gt (db.getD j zT) hm
   exact⟨g.nm,g.na,YGH hs.length_le g.nr,g.at',g.nd,List.Pairwise.sublist ((hs.map _).cons_cons 0) g.ids,fun r hr=>g.len r (hs.subset hr),fun r hr=>g.ok r (hs.subset hr)⟩
 ·rcases hmem t ht with h|rfl
  ·exact D.na t h
  ·exact D.na (db.getD j zT) hm
 ·rcases hmem t ht with h|rfl
  ·exact D.rs t h
  ·exact YGH hs.length_le (D.rs (db.getD j zT) hm)
 ·rcases hmem t ht with h|rfl
  ·exact D.gv t h r hr v hv
  ·exact D.gv (db.getD j zT) hm r (hs.subset hr) v hv
 ·have:(YCa db j rows).map (·.1)=db.map (·.1):=by
   unfold YCa
   rw[List.map_set]
   apply YGu
   intro n
   rw[List.getElem?_set]
   by_cases h:j=n
   ·subst h
    rw[if_pos rfl,YGp,if_pos hj,YGa,YF7 hj]
    rw[YGs,YF7 hj];rfl
   ·rw[if_neg h]
  rw[this];exact D.nd
theorem YBr{db:List Tabl}{j:Nat}{rows:Rws}(hj:j<db.length){hd:List ByteArray}{l:List Atom}(g:GQ db hd l):GQ (YCa db j rows) hd l:=
 ⟨g.len,g.ne,fun a ha=>by
  obtain⟨n,h1,h2,h3⟩:=g.at' a ha
  obtain⟨k1,k2,_⟩:=YoV (rows:=rows) n hj
  exact⟨n,by unfold YCa;rw[List.length_set];exact h1,by rw[k1];exact h2,by rw[k2];exact h3⟩,g.tm,g.hl,g.hv,g.nd⟩
theorem YBs{db:List Tabl}(D:DOk db){j:Nat}(hj:j<db.length){rows:Rws}(hs:rows.Sublist (db.getD j zT).2.2){hd:List ByteArray}{l:List Atom}(g:GQ db hd l){x:Vals}(hx:x∈anss (YCa db j rows) hd l):x∈anss db hd l:=by
 have D':=YoW D hj hs
 obtain⟨τ,h1,rfl⟩:=(YeI g.hv).1 hx
 refine(YeI g.hv).2 ⟨τ,fun a ha=> ?_,rfl⟩
 obtain⟨row,r1,r2⟩:=h1 a ha
 refine⟨row,?_,r2⟩
 obtain⟨n,n1,n2,_⟩:=g.at' a ha
 obtain⟨k1,k2,k3,k4⟩:=YoV (rows:=rows) n hj
 have e1:tabO db a.1=db.getD n zT:=by rw[n2];exact D.tab n1
 have e2:tabO (YCa db j rows) a.1=(YCa db j rows).getD n zT:=by
  rw[n2,<-k1];exact D'.tab (by unfold YCa;rw[List.length_set];exact n1)
 rw[e2]at r1
 rw[e1]
 by_cases h:n=j
 ·rw[k4 h]at r1;rw[h];exact hs.subset r1
 ·rw[k3 h]at r1;exact r1
theorem YoX{db db':List Tabl}{hd:List ByteArray}{l m:List Atom}(D:DOk db)(D':DOk db')(g:GQ db hd l)(g':GQ db' hd l)(g2:GQ db hd m)(he:rowsR (anss db hd l)=rowsR (anss db hd m))(hs: ∀x∈anss db' hd l,x∈anss db hd l):
  YcT loO (rowsR (anss db hd l),0,rowsR (anss db hd m),0,hd,l,db')=some true:=by
 obtain⟨s1,s2⟩:=g.lists D
 obtain⟨u1,u2⟩:=g'.lists D'
 have:=g'.few D'
 simp only[YcT]
 rw[YC0 (g'.qok D') (g'.qI D') (by omega),YBw,<-he,YFN _ s1 s2]
 simp only[decide_true,cond_true,YBw]
 rw[YEV _ _ u1 s1 u2 s2 (fun x hx=>rowsR_mem.2 (hs x (rowsR_mem.1 hx))),YBw]
theorem YBt(d:List (Int×Int×List (List Int)))(xh:List Int)(xa:List (Int×List Int))(k:Int)(hd: ∀x∈d,0<=x.1/\x.1<=255/\0<=x.2.1)(hxh: ∀c∈xh,0<=c)(hxa: ∀x∈xa,0<=x.1/\x.1<=255/\ ∀c∈x.2,0<=c)(hk:0<=k)(hk':k<=255):q165 loO d xh xa k=some true:=by
 have hM:maxEl=1073741824:=rfl
 unfold q165
 obtain⟨db,ok,e1,D⟩:=YFP d hd
 obtain⟨hd',l,ok2,e2,h2⟩:=YFQ D xh xa hxh hxa
 rw[e1,YBw,e2,YBw,aw,YBw,YBw]
 cases ok with
 |false=>rfl
 |true=>
  cases ok2 with
  |false=>rfl
  |true=>
   have g:=h2 rfl
   have hw:=g.few D
   have hl3:=g.len
   have hdl:=D.len
   have gr:GQ db hd' (rv l):=g.sub (fun a ha=>rv_mem.1 ha) (by unfold rv;rw[Yan];exact g.len) (by unfold rv;rw[Yan];exact g.ne) (fun v hv=>YBq (fun a ha=>rv_mem.2 ha) (g.hv v hv))
   have hwr:=gr.few D
   have he:rowsR (anss db hd' l)=rowsR (anss db hd' (rv l)):=YBp (g.qok D).all (gr.qok D).all fun x=>by
    rw[YeI g.hv,YeI gr.hv]
    constructor
    ·rintro⟨τ,h,e⟩;exact⟨τ,fun a ha=>h a (rv_mem.1 ha),e⟩
    ·rintro⟨τ,h,e⟩;exact⟨τ,fun a ha=>h a (rv_mem.2 ha),e⟩
   have c1:q152 loO l=some l:=by
    unfold q152
    have:(YGD l.length maxEl&&YGD 1 2)=true:=by rw[YGW,Nat.ble_eq];exact⟨by omega,rfl⟩
    rw[this];rfl
   have c2:q161 loO db=some db:=by
    unfold q161
    have:(YGD db.length maxEl&&YGD 1 3)=true:=by rw[YGW,Nat.ble_eq];exact⟨by omega,rfl⟩
    rw[this];rfl
   simp only[YGX,cond_false]
   rw[YC0 (g.qok D) (g.qI D) (by omega),YBw,c1,YBw,tRev l hd' (by omega),YBw]
   simp only
   rw[show(tab l.length fun k=>l.getD (l.length-1-k) zA)=rv l from rfl,chkT _ (by unfold rv;rw[Yan]),YC0 (gr.qok D) (gr.qI D) (by omega),YBw,c2,YBw]
   have hpos:0<db.length:=by
    obtain⟨n,hn,_⟩:=g.at' _ (Yaj (d:=zA) (show 0<l.length from g.ne))
    omega
   have w1:YG7 .i64 k=k:=wr6 (by omega) (by omega)
   have t0:=Int.tmod_nonneg (db.length:Int) hk
   have t1:k.tmod (db.length:Int)< (db.length:Int):=Int.tmod_lt_of_pos _ (by omega)
   simp only[w1]
   rw[chkT _ (by omega),chkT _ ⟨t0,t1⟩]
   obtain⟨j,hj⟩: ∃j:Nat,(k.tmod (db.length:Int)).toNat=j:=⟨_,rfl⟩
   have hjl:j<db.length:=by omega
   rw[hj]
   have ht':=Yaj (d:=zT) hjl
   obtain⟨t,ht⟩: ∃t,db.getD j zT=t:=⟨_,rfl⟩
   rw[ht]at ht'⊢
   by_cases hr:(0:Int)< (t.2.2.length:Int)
   ·rw[decide_eq_true hr,cond_true,chkT _ (by decide),chkT _ (by omega)]
    have hrows:=D.rs _ ht'
    have q0:0<=k.tdiv 3:=Int.tdiv_nonneg hk (by decide)
    have q1:k.tdiv 3<=k:=Int.tdiv_le_self _ hk
    have w2:YG7 .i64 (k.tdiv 3)=k.tdiv 3:=wr6 (by omega) (by omega)
    have i0:=Int.tmod_nonneg (t.2.2.length:Int) q0
    have i1:(k.tdiv 3).tmod (t.2.2.length:Int)< (t.2.2.length:Int):=Int.tmod_lt_of_pos _ hr
    simp only[w2]
    obtain⟨i,hi⟩: ∃i:Nat,(k.tdiv 3).tmod (t.2.2.length:Int)=(i:Int):=⟨_,(Int.toNat_of_nonneg i0).symm⟩
    rw[hi]at i0 i1⊢
    have w3:YG7 .i64 ((i:Int)+1)=((i+1:Nat):Int):=by rw[wr6 (by omega) (by omega)];omega
    simp only[w3,YG1,YGz,YGm]
    have c3:q162 loO (t.2.2.take i)=some (t.2.2.take i):=by
     unfold q162
     have:(YGD (t.2.2.take i).length maxEl&&YGD 1 2)=true:=by rw[YGW,Nat.ble_eq];exact⟨by rw[List.length_take];omega,rfl⟩
     rw[this];rfl
    have hsub:(t.2.2.take i++t.2.2.drop (i+1)).Sublist t.2.2:=by
     have h1:=List.Sublist.append (List.Sublist.refl (t.2.2.take i)) (List.drop_sublist 1 (t.2.2.drop i))
     rw[List.drop_drop,List.take_append_drop]at h1
     exact h1
    have hsub':(t.2.2.take i++t.2.2.drop (i+1)).Sublist (db.getD j zT).2.2:=by rw[ht];exact hsub
    have hna:=D.na _ ht'
    have hg:=D.gt _ ht'
    rw[chkT _ (by omega),c3,YBw,chkT _ (by omega),chkT _ (by simp;omega),YF5 _ _ _ _ (by omega) (by have:=hsub.length_le;omega) (fun r hr=>by have:=hg.len r (hsub.subset hr);omega),YBw]
    rw[show db.set j (t.1,t.2.1,t.2.2.take i++t.2.2.drop (i+1))=YCa db j (t.2.2.take i++t.2.2.drop (i+1)) by unfold YCa;rw[ht]]
    rw[YoX D (YoW D hjl hsub') g (YBr hjl g) gr he (fun x hx=>YBs D hjl hsub' g hx),YBw]
   ·rw[decide_eq_false hr,cond_false,YoX D D g g gr he (fun x hx=>hx),YBw]
theorem mono_fin(x:List (Int×Int×List (List Int))×List Int×List (Int×List Int)×Int)(hr:(cs [.l (cs [.i .u8,.i .u8,.l (cs [.l (cs [.i .u8])])]),.l (cs [.i .u8]),.l (cs [.i .u8,.l (cs [.i .u8])]),.i .u8]).rng x):q165 loO x.1 x.2.1 x.2.2.1 x.2.2.2=some true:=
 YBt _ _ _ _ (YBm hr.1) (YoR hr.2.1) (YBn hr.2.2.1) (rng8 hr.2.2.2.1).1 (rng8 hr.2.2.2.1).2
end
end Go.Abs.G47
