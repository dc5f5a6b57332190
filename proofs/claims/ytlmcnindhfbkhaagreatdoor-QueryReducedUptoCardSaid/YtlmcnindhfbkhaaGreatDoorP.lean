/- Helpers of the plain laws: loops as states by number, tables, short words. No condition. -/
import Derived.Test.YtlmcnindhfbkhaaGreatDoorB
import Derived.Test.YtlmcnindhfbkhaaGreatDoorG1
set_option linter.unusedVariables false
set_option linter.unusedSimpArgs false
set_option linter.unusedSectionVars false
open List renaming getElem?_eq_getElem → YGh, map_cons → YGj, getElem?_map → YGk, map_nil → YGl, mem_cons → YGn, mem_cons_self → YGo, length_eq_zero_iff → YGq, mem_map → YGr, take_length → YGt, mem_cons_of_mem → YGv, append_assoc → YGw, all_eq_true → YGx, length_map → YGy, drop_zero → YGz, length_cons → YGA, mem_iff_getElem → YGD, mem_singleton → YGE, cons_append → YGF, map_map → YGG, mem_append → YGI, getD_eq_getElem?_getD → YGK, mem_append_left → YGN, drop_of_length_le → YGO
open Nat renaming le_refl → YGQ, ble → YGR, blt → YGS, le_trans → YGU, zero_add → YGW, add_mul → YGY, zero_le → YGZ
open Option renaming bind → YG1, bind_some → YG4, isSome_iff_exists → YG5
open Bool renaming and_eq_true → YG9, not_true → YHa, not_false → YHb, eq_iff_iff → YHc, and_self → YHd, not_eq_true → YHe
open Int renaming toNat_natCast → YHf
open ByteArray renaming mk → YHk
open Go.IntKind renaming wrap → YHl
namespace Go.Abs
theorem wr6{n:Int}(h0: -9223372036854775808<=n)(h1:n<9223372036854775808):YHl .i64 n=n:=by
 have e:(2:Int)^IntKind.bits .i64=18446744073709551616:=rfl
 have e':(2:Int)^(IntKind.bits .i64-1)=9223372036854775808:=rfl
 have s:IntKind.signed .i64=true:=rfl
 simp only[YHl,e,e',s,Bool.true_and,ge_iff_le,decide_eq_true_eq]
 omega
theorem chkT{β:Type}{p:Prop}[Decidable p](x:Option β)(h:p):chk p x=x:=by simp[chk,h]
theorem cT{β:Type}{p:Prop}[Decidable p](x y:β)(h:p):(bif decide p then x else y)=x:=by simp[h]
theorem YBP{α β:Type}(a:α)(f:α->Option β):YG1 (some a) f=f a:=rfl
theorem Yn7{S R:Type}{step:S->Option (S⊕R)}(st:Nat->S)(N:Nat)(r:R)(he:step (st N)=some (.inr r))(hs: ∀n,n<N->step (st n)=some (.inl (st (n+1)))): ∀k n,n+k=N->YB5 step (st n)=some r
 |0,n,h=>by rw[Yan];simp_all
 |k+1,n,h=>by rw[Yan,hs n (by omega)];exact Yn7 st N r he hs k (n+1) (by omega)
theorem Yao{S R:Type}{step:S->Option (S⊕R)}{st:Nat->S}{N:Nat}{r:R}{s:S}(hst:s=st 0)(he:step (st N)=some (.inr r))(hs: ∀n,n<N->step (st n)=some (.inl (st (n+1)))):YB5 step s=some r:=by
 subst hst;exact Yn7 st N r he hs N 0 (by omega)
def tab{α:Type}(n:Nat)(f:Nat->α):List α:=(List.range n).map f
theorem YaB{α:Type}(n:Nat)(f:Nat->α):(tab n f).length=n:=by simp[tab]
theorem Yb9{α:Type}(n:Nat)(f:Nat->α):tab n f++[f n]=tab (n+1) f:=by simp[tab,List.range_succ]
def bl(s:ByteArray):List UInt8:=s.data.toList
theorem Ybm(s:ByteArray):(bl s).length=s.size:=Array.length_toList
theorem YeQ(s:ByteArray)(i:Nat)(h:i<s.size):(bl s).drop i=s.data.getD i 0::(bl s).drop (i+1):=by
 have h':i< (bl s).length:=by trivial
 rw[List.drop_eq_getElem_cons h']
 congr 1
 simp[bl,Array.getD]
 omega
theorem YAz(s:ByteArray)(i:Nat)(h:i<s.size):(bl s).take (i+1)=(bl s).take i++[s.data.getD i 0]:=by
 have h':i< (bl s).length:=by trivial
 rw[<-List.take_append_getElem h']
 congr 2
 simp[bl,Array.getD]
 omega
theorem YAA(a b:ByteArray)(i j:Nat):(YBQ a i=YBQ b j)↔a.data.getD i 0=b.data.getD j 0:=by
 simp only[YBQ,YHf]
 constructor
 ·intro h
  have:(a.data.getD i 0).toNat=(b.data.getD j 0).toNat:=by omega
  exact UInt8.toNat_inj.1 this
 simp_all
theorem YAB{a b:ByteArray}(h:bl a=bl b):a=b:=by
 have:a.data=b.data:=by simpa[bl]using h
 cases a;simp_all
end Go.Abs
namespace Go.Abs.G47
open Go Go.Abs
set_option maxRecDepth 100000
abbrev Vals:=List (Int×Int×ByteArray)
abbrev Rws:=List (Int×Vals)
abbrev Tabl:=ByteArray×List ByteArray×Rws
abbrev Term:=ByteArray×Int×Int×ByteArray
abbrev Atom:=ByteArray×List Term
theorem Yoa{clk:Int}{ents:List (Int×ByteArray×Vals)}{m2:Bool}
  {y} (hd:(ents.map (·.1)).Nodup) (hl:ents.length<=maxEl)
  (hy:Yb5 loO (ents.map (·.2.1),clk,clk,[],false,clk,ents,m2)=some y):
  YcW loO ([],clk,ents,m2)=some y:=by
 show rngF Yep (YcV loO) (Yb5 loO) ([],clk,clk,[],false,clk,ents,m2)=some y
 refine Yst (YAC (p:=Yep) (t:=YcV loO) (r:=Yb5 loO) (fun sn=>(sn.map (kAt (YHk #[]) ents),clk,clk,sn,false,clk,ents,m2)) (B:=ents.map (·.1)) (c:=clk) hd (fun sn=>rfl) (fun sn b hb hn hsd hsB=> ?_) (fun sn hp=> ?_))
 ·obtain⟨e,he⟩:=YAE hb
  have hlen:sn.length<ents.length:=by
   have h1:(sn++[b]).Nodup:=by
    rw[List.nodup_append]
    exact⟨hsd,by simp,fun x hx y hy=>by rw[YGE]at hy;subst hy;intro e;subst e;exact hn hx⟩
   have:=List.Nodup.length_le_of_subset h1 (l₂:=ents.map (·.1)) (fun a ha=>by
    rcases YGI.1 ha with ha|ha
    ·exact hsB a ha
    ·rw[YGE]at ha;subst ha;exact hb)
   simp at this;omega
  simp only[YcV,addI,List.getLast?_append,List.getLast?_singleton,Option.some_or,YG4,he,chk,decide_true,cond_true,YGy,List.length_singleton]
  have:decide (sn.length+1<=maxEl)=true:=by simp;omega
  simp only[this,cond_true,List.map_append,YGj,YGl,kAt,he]
 ·have hperm:(sn.map (kAt (YHk #[]) ents)).Perm (ents.map (·.2.1)):=by
   rw[<-YAF (d:=YHk #[]) hd];exact hp.map _
  rw[<-hy]
  show YG1 (q65 loO (sn.map (kAt (YHk #[]) ents))) _=YG1 (q65 loO (ents.map (·.2.1))) _
  have e1:q65 loO (sn.map (kAt (YHk #[]) ents))=q65 loO (ents.map (·.2.1)):=YAD hperm
  rw[e1]
  have e2:=hperm.length_eq
  congr 1
  funext y152
  rw[e2]
def nodB:List Int->Bool
 | []=>true
 |a::r=> !(r.any fun b=>decide (b=a))&&nodB r
theorem Yob: ∀{l:List Int},nodB l=true->l.Nodup
 | [],_=>List.nodup_nil
 |a::r,h=>by
  simp only[nodB,YG9,Bool.not_eq_true',List.any_eq_false,decide_eq_true_eq]at h
  exact List.nodup_cons.2 ⟨fun hm=>h.1 a hm rfl,Yob h.2⟩
def j18C(lo:Lo):(List ByteArray×Int×List (Int×ByteArray×Vals)×Bool)->Option (List Vals×Int):=fun x=>match x with
 | (keys,clk,ents,m2)=>bif keys.isEmpty&& (nodB (ents.map (·.1))&&YGR ents.length maxEl)then Yb5 lo (ents.map (·.2.1),clk,clk,[],false,clk,ents,m2)else none
theorem YAH{x y}(h:j18C loO x=some y):YcW loO x=some y:=by
 obtain⟨keys,clk,ents,m2⟩:=x
 unfold j18C at h
 obtain⟨e,hk⟩:=Yab h
 simp only[YG9,List.isEmpty_iff]at e
 obtain⟨rfl,e1,e2⟩:=e
 exact Yoa (Yob e1) (by simpa using e2) hk
def YEz(lo:Lo)(db:List Tabl)(q0:List ByteArray)(q1:List Atom):Option (List Vals×Int):=
 YG1 (q40 lo db q0 q1) fun y105=>bif(!decide (y105=(0:Int)))then(some ([],y105))else(YG1 (q41 lo db q0 q1) fun y108=>YG1 (q50 lo (0:Int) y108.1 y108.2.1 y108.2.2.1 y108.2.2.2.1 y108.2.2.2.2.1 y108.2.2.2.2.2.1 y108.2.2.2.2.2.2.1 y108.2.2.2.2.2.2.2 (0:Int) [] false) fun y163=>chk (y163.2.2.2.1.length=y108.2.2.1.length) (bif(!y163.1)then(some ([],(3:Int)))else(YG1 (j18C lo ([],y163.2.2.2.2.2.2.2.2.1,y163.2.2.2.2.2.2.2.2.2.1,y163.2.2.2.2.2.2.2.2.2.2.1)) fun y228=>some (y228.1,y228.2))))
theorem Yhn{α β:Type}{a:Option α}{f g:α->Option β}{y:β}(h: ∀z,f z=some y->g z=some y):YG1 a f=some y->YG1 a g=some y:=by
 cases a with
 |none=>intro h;cases h
 |some z=>exact h z
theorem Yoc{β:Type}{b:Bool}{x x' z:Option β}{y:β}(h:x=some y->x'=some y):(bif b then z else x)=some y->(bif b then z else x')=some y:=by
 cases b with
 |true=>exact id
 |false=>exact h
theorem YAI{β:Type}{p:Prop}[Decidable p]{x x':Option β}{y:β}(h:x=some y->x'=some y):chk p x=some y->chk p x'=some y:=by
 unfold chk
 cases decide p with
 |true=>exact h
 |false=>exact id
theorem YAJ{db q0 q1 y}:YEz loO db q0 q1=some y->q66 loO db q0 q1=some y:=by
 unfold YEz q66
 refine Yhn fun _=>Yoc (Yhn fun _=>Yhn fun z=>YAI (Yoc ?_))
 intro h
 cases hj:j18C loO ([],z.2.2.2.2.2.2.2.2.1,z.2.2.2.2.2.2.2.2.2.1,z.2.2.2.2.2.2.2.2.2.2.1)with
 |none=>rw[hj]at h;cases h
 |some q=>rw[hj]at h;rw[YAH hj];exact h
noncomputable def R2:Int×Vals:=(q1 (loM 400) 1 [1,2]).getD (0,[])
noncomputable def R3:Int×Vals:=(q1 (loM 400) 2 [1,3]).getD (0,[])
noncomputable def R4:Int×Vals:=(q1 (loM 400) 3 [2,3]).getD (0,[])
noncomputable def R5:Int×Vals:=(q1 (loM 400) 1 [3]).getD (0,[])
noncomputable def T6:Term:=(q2 (loM 400) (YHk #[120])).getD (YHk #[],0,0,YHk #[])
noncomputable def T7:Term:=(q2 (loM 400) (YHk #[121])).getD (YHk #[],0,0,YHk #[])
noncomputable def EA:List Vals×Int:=(YEz (loM 400) [((YHk #[114]),[(YHk #[97]),(YHk #[98])],[R2,R3,R4]),((YHk #[115]),[(YHk #[99])],[R5])] ([(YHk #[120])]) ([((YHk #[114]),[T6,T7]),((YHk #[115]),[T7])])).getD ([],0)
theorem aw:q99 loO=some true:=by
 have e2:q1 loO 1 [1,2]=some R2:=(congrArg (fun l=>q1 l 1 [1,2]) (Yba 400)).symm.trans (by kernel_rfl)
 have e3:q1 loO 2 [1,3]=some R3:=(congrArg (fun l=>q1 l 2 [1,3]) (Yba 400)).symm.trans (by kernel_rfl)
 have e4:q1 loO 3 [2,3]=some R4:=(congrArg (fun l=>q1 l 3 [2,3]) (Yba 400)).symm.trans (by kernel_rfl)
 have e5:q1 loO 1 [3]=some R5:=(congrArg (fun l=>q1 l 1 [3]) (Yba 400)).symm.trans (by kernel_rfl)
 have e6:q2 loO (YHk #[120])=some T6:=(congrArg (fun l=>q2 l (YHk #[120])) (Yba 400)).symm.trans (by kernel_rfl)
 have e7:q2 loO (YHk #[121])=some T7:=(congrArg (fun l=>q2 l (YHk #[121])) (Yba 400)).symm.trans (by kernel_rfl)
 have eA:q66 loO [((YHk #[114]),[(YHk #[97]),(YHk #[98])],[R2,R3,R4]),((YHk #[115]),[(YHk #[99])],[R5])] ([(YHk #[120])]) ([((YHk #[114]),[T6,T7]),((YHk #[115]),[T7])])=some EA:=
  YAJ ((congrArg (fun l=>YEz l [((YHk #[114]),[(YHk #[97]),(YHk #[98])],[R2,R3,R4]),((YHk #[115]),[(YHk #[99])],[R5])] ([(YHk #[120])]) ([((YHk #[114]),[T6,T7]),((YHk #[115]),[T7])])) (Yba 400)).symm.trans (by kernel_rfl))
 unfold q99
 rw[e2,YBP,e3,YBP,e4,YBP,e5,YBP,e6,YBP,e7,YBP,YBP,eA,YBP,<-Yba 400]
 show(_:Option Bool)=some true
 kernel_rfl
end Go.Abs.G47
namespace Go.Abs
def YBR{R:Type}(f:Nat->Option R):Nat->Nat->R->R
 |0,_,r0=>r0
 |k+1,n,r0=>match f n with
  |some r=>r
  |none=>YBR f k (n+1) r0
theorem Yod{R:Type}{f g:Nat->Option R}{r0:R}: ∀(k n:Nat),(∀m,n<=m->m<n+k->f m=g m)->YBR f k n r0=YBR g k n r0
 |0,n,h=>rfl
 |k+1,n,h=>by
  simp only[YBR]
  rw[h n (YGQ _) (by omega),Yod k (n+1) (fun m h1 h2=>h m (by omega) (by omega))]
theorem Yam{S R:Type}{step:S->Option (S⊕R)}(st:Nat->S)(f:Nat->Option R)(N:Nat)(r0:R){s:S}(hst:s=st 0)(he:step (st N)=some (.inr r0))
  (hs: ∀n,n<N->step (st n)=some (match f n with|some r=>.inr r|none=>.inl (st (n+1)))):YB5 step s=some (YBR f N 0 r0):=by
 subst hst
 have: ∀k n,n+k=N->YB5 step (st n)=some (YBR f k n r0):=by
  intro k
  induction k with
  |zero=>intro n h;rw[Yan];simp only[Nat.add_zero]at h;subst h;rw[he];rfl
  |succ k ih=>
   intro n h
   rw[Yan,hs n (by omega)]
   simp only[YBR]
   grind
 simp_all
theorem YeR{R:Type}{f:Nat->Option R}{r0:R}: ∀(k n:Nat),(∀m,n<=m->m<n+k->f m=none)->YBR f k n r0=r0
 |0,n,h=>rfl
 |k+1,n,h=>by
  simp only[YBR]
  rw[h n (YGQ _) (by omega)]
  exact YeR k (n+1) (fun m h1 h2=>h m (by omega) (by omega))
def anyN(p:Nat->Bool):Nat->Nat->Bool
 |0,_=>false
 |k+1,n=>p n||anyN p k (n+1)
def idxR(p:Nat->Bool)(k n:Nat):Int:=match YBR (R:=Int⊕Unit) (fun m=>bif p m then some (.inl (m:Int))else none) k n (.inr ())with
 | .inl i=>i
 | .inr _=> -1
theorem Yc4(p:Nat->Bool): ∀k n,decide (0<=idxR p k n)=anyN p k n
 |0,n=>rfl
 |k+1,n=>by
  have:=Yc4 p k (n+1)
  unfold idxR at this⊢
  simp only[YBR,anyN]
  grind
theorem YaO{R:Type}{f:Nat->Option R}{r0:R}: ∀(k n:Nat),(∃m r,n<=m/\m<n+k/\f m=some r/\YBR f k n r0=r)\/(YBR f k n r0=r0/\ ∀m,n<=m->m<n+k->f m=none)
 |0,n=>.inr ⟨rfl,fun m h1 h2=>by omega⟩
 |k+1,n=>by
  simp only[YBR]
  cases hf:f n with
  |some r=>grind
  |none=>
   rcases YaO (f:=f) (r0:=r0) k (n+1)with⟨m,r,h1,h2,h3,h4⟩| ⟨h1,h2⟩
   ·grind
   grind
theorem Yho(s:ByteArray)(i:Int):0<=YBQ s i/\YBQ s i<256:=by
 unfold YBQ
 have:=(s.data.getD i.toNat 0).toNat_lt
 omega
theorem Yaj{α:Type}{l:List α}{n:Nat}{d:α}(h:n<l.length):l.getD n d∈l:=by
 simp_all
theorem YAK{a b:ByteArray}(hs:a.size=b.size)(h: ∀n:Nat,n<a.size->YBQ a n=YBQ b n):a=b:=by
 have:a.data=b.data:=by
  apply Array.ext hs
  intro i h1 h2
  have:=h i h1
  rw[YAA]at this
  unfold Array.getD at this
  rw[dif_pos h1,dif_pos h2]at this
  trivial
 cases a;simp_all
theorem Yoe{α:Type}{a b:List α}{d:α}(hs:a.length=b.length)(h: ∀n,n<a.length->a.getD n d=b.getD n d):a=b:=by
 apply List.ext_getElem hs
 simp_all
theorem anyN_iff{p:Nat->Bool}: ∀{k n:Nat},anyN p k n=true↔ ∃m,n<=m/\m<n+k/\p m=true
 |0,n=>⟨fun h=>(by cases h),fun⟨m,h1,h2,_⟩=>(by omega)⟩
 |k+1,n=>by
  simp only[anyN,Bool.or_eq_true,anyN_iff (k:=k) (n:=n+1)]
  grind
theorem Yhp{R:Type}{p:Nat->Bool}(hit:Nat->R)(r0:R)(T:R->Bool)(h0:T r0=false)(h1: ∀m,T (hit m)=true): ∀k n,T (YBR (fun m=>bif p m then some (hit m)else none) k n r0)=anyN p k n
 |0,n=>h0
 |k+1,n=>by
  simp only[YBR,anyN]
  cases hp:p n with
  |true=>grind
  |false=>simpa using Yhp hit r0 T h0 h1 k (n+1)
theorem Yhq{p:Nat->Bool}(b:Bool)(k n:Nat):YBR (R:=Bool⊕Unit) (fun m=>bif p m then some (.inl b)else none) k n (.inr ())=bif anyN p k n then .inl b else .inr ():=by
 induction k generalizing n with
 |zero=>rfl
 |succ k ih=>
  simp only[YBR,anyN]
  grind
theorem Ybn{α:Type}{l:List α}{n:Nat}{d:α}(h:n<l.length):l.take (n+1)=l.take n++[l.getD n d]:=by
 simp_all
end Go.Abs
namespace Go.Abs.G47
open Go Go.Abs
noncomputable section
theorem Yof{A B C:Type}(b:B)(f:A->Option C)(g:B->Option C):alt2 (.inr b:A⊕B) f g=g b:=rfl
def lt(c:Int):Bool:=decide (97<=c)&&decide (c<=122)||decide (65<=c)&&decide (c<=90)||decide (c=95)
theorem YeS(c:Int):q102 loO c=some (lt c):=by
 unfold q102 lt
 by_cases h1:(97:Int)<=c<;>by_cases h2:c<=(122:Int)<;>by_cases h3:(65:Int)<=c<;>by_cases h4:c<=(90:Int)<;>simp[h1,h2,h3,h4]
def fN(s:ByteArray)(n:Nat):Option (Bool⊕Unit):=
 bif lt (YBQ s n)then none else bif decide (n=0)then some (.inl false)else bif decide (YBQ s n<48)then some (.inl false)else bif decide ((57:Int)<YBQ s n)then some (.inl false)else none
theorem YAL(s:ByteArray)(hs:s.size<=24):Ygr loO (s,(s.size:Int),0)=some (YBR (fN s) s.size 0 (.inr ())):=by
 refine Yam (fun n=>(s,(s.size:Int),(n:Int))) (fN s) s.size (.inr ()) rfl ?_ (fun n hn=> ?_)
 ·simp[Yd3]
 ·have e1:decide ((n:Int)< (s.size:Int))=true:=by simp;omega
  have e2:YHl .i64 ((n:Int)+1)=((n+1:Nat):Int):=by rw[wr6 (by omega) (by omega)];omega
  simp only[Yd3,e1,cond_true,e2]
  rw[chkT _ (by omega)]
  unfold fN lt
  have e3:decide ((n:Int)=0)=decide (n=0):=by simp
  simp only[e3]
  generalize YBQ s n=c
  by_cases h1:(97:Int)<=c<;>by_cases h2:c<=(122:Int)<;>by_cases h3:(65:Int)<=c<;>by_cases h4:c<=(90:Int)<;>by_cases h5:c=95<;>by_cases h6:n=0<;>by_cases h7:c<48<;>by_cases h8:(57:Int)<c<;>simp[h1,h2,h3,h4,h5,h6,h7,h8]
def nul:ByteArray:=YHk #[110,117,108,108]
def YCd(s:ByteArray):Bool:=
 bif decide (s=YHk #[])then false else bif decide ((24:Int)< (s.size:Int))then false else bif decide (s=nul)then false else
  match YBR (fN s) s.size 0 (.inr ())with| .inl b=>b| .inr _=>true
theorem Yog(s:ByteArray):q3 loO s=some (YCd s):=by
 unfold q3 YCd nul
 by_cases h1:s=YHk #[]
 ·simp[h1]
 ·by_cases h2:(24:Int)< (s.size:Int)
  ·simp[h1,h2]
  ·by_cases h3:s=YHk #[110,117,108,108]
   ·simp[h1,h2,h3]
   ·simp only[h1,h2,h3,decide_false,cond_false]
    rw[YAL s (by omega)]
    simp only[YBP]
    cases YBR (fN s) s.size 0 (.inr ())<;>rfl
def fR(s:ByteArray)(n:Nat):Option (Bool⊕Unit):=
 bif lt (YBQ s n)then none else bif decide (YBQ s n<48)then some (.inl false)else bif decide ((57:Int)<YBQ s n)then some (.inl false)else none
theorem Yoh(s:ByteArray)(hs:s.size<=24):Yg6 loO (s,0)=some (YBR (fR s) s.size 0 (.inr ())):=by
 refine Yam (fun n=>(s,(n:Int))) (fR s) s.size (.inr ()) rfl ?_ (fun n hn=> ?_)
 ·simp[YeD]
 ·have e1:decide ((n:Int)< (s.size:Int))=true:=by simp;omega
  have e2:YHl .i64 ((n:Int)+1)=((n+1:Nat):Int):=by rw[wr6 (by omega) (by omega)];omega
  simp only[YeD,e1,cond_true,e2,YeS,YBP]
  rw[chkT _ (by omega)]
  unfold fR
  generalize YBQ s n=c
  have h0:(0:Int)<=(n:Int)/\ (n:Int)< (s.size:Int):=by omega
  cases lt c<;>by_cases h7:c<48<;>by_cases h8:(57:Int)<c<;>simp[h7,h8,chkT,h0]
theorem YFP(s:ByteArray):s.size=0↔s=YHk #[]:=by
 constructor
 ·intro h
  have:s.data= #[]:=Array.eq_empty_of_size_eq_zero h
  cases s;simp_all
 ·intro h;subst h;rfl
theorem Yhr(s:ByteArray):q103 loO s=some (YCd s):=by
 unfold q103 YCd nul
 by_cases h1:s=YHk #[]
 ·subst h1;rfl
 ·have h1':s.size≠0:=fun h=>h1 ((YFP s).1 h)
  by_cases h2:(24:Int)< (s.size:Int)
  ·have: ¬ (s.size:Int)=0:=by omega
   simp[h1,h2,this]
  ·have h0: ¬ (s.size:Int)=0:=by omega
   simp only[h1,h2,h0,decide_false,cond_false,YeS,YBP]
   rw[chkT _ (by omega)]
   have hz:YBQ s 0=YBQ s ((0:Nat):Int):=rfl
   have hsz:s.size=(s.size-1)+1:=by omega
   cases hl:lt (YBQ s 0)with
   |false=>
    have:YBR (fN s) s.size 0 (.inr ())= .inl false:=by
     rw[hsz];simp only[YBR,fN,<-hz,hl];rfl
    rw[this]
    by_cases h3:s=YHk #[110,117,108,108]<;>simp[h3]
   |true=>
    have:YBR (fN s) s.size 0 (.inr ())=YBR (fR s) s.size 0 (.inr ()):=Yod _ _ (fun m _ _=>by
     unfold fN fR
     by_cases hm:m=0
     ·subst hm;rw[<-hz,hl];rfl
     ·simp[hm])
    rw[this,Yoh s (by omega)]
    by_cases h3:s=YHk #[110,117,108,108]
    ·simp[h3]
    ·simp only[h3,decide_false,cond_false,YHa,YBP]
     cases YBR (fR s) s.size 0 (.inr ())<;>rfl
def idxI(l:List ByteArray)(v:ByteArray):Int:=idxR (fun m=>decide (v=l.getD m (YHk #[]))) l.length 0
theorem YAM(l:List ByteArray)(v:ByteArray)(hl:l.length<=maxEl):q4 loO l v=some (idxI l v):=by
 have hm:maxEl=1073741824:=rfl
 have:Ygs loO (l,v,(l.length:Int),0)=some (YBR (R:=Int⊕Unit) (fun m=>bif decide (v=l.getD m (YHk #[]))then some (.inl (m:Int))else none) l.length 0 (.inr ())):=by
  refine Yam (fun n=>(l,v,(l.length:Int),(n:Int))) _ l.length (Sum.inr ()) rfl ?_ (fun n hn=> ?_)
  ·simp[Yd4]
  ·have e1:decide ((n:Int)< (l.length:Int))=true:=by simp;omega
   have e2:YHl .i64 ((n:Int)+1)=((n+1:Nat):Int):=by rw[wr6 (by omega) (by omega)];omega
   simp only[Yd4,e1,cond_true,e2,YHf]
   rw[chkT _ (by omega)]
   cases decide (v=l.getD n (YHk #[]))<;>rfl
 unfold q4 idxI idxR
 rw[this,YBP]
 cases YBR (R:=Int⊕Unit) (fun m=>bif decide (v=l.getD m (YHk #[]))then some (.inl (m:Int))else none) l.length 0 (.inr ())<;>rfl
theorem Yhs(l:List ByteArray)(v:ByteArray)(hl:l.length<=maxEl):q5 loO l v=some (decide (0<=idxI l v)):=by
 unfold q5;rw[YAM l v hl];rfl
theorem Yc5(l:List ByteArray)(v:ByteArray)(hl:l.length<=maxEl):q104 loO l v=some (idxI l v):=by
 have hm:maxEl=1073741824:=rfl
 have:Yg7 loO (l,v,0)=some (YBR (R:=Int⊕Unit) (fun m=>bif decide (v=l.getD m (YHk #[]))then some (.inl (m:Int))else none) l.length 0 (.inr ())):=by
  refine Yam (fun n=>(l,v,(n:Int))) _ l.length (Sum.inr ()) rfl ?_ (fun n hn=> ?_)
  ·simp[YeE]
  ·have e1:decide ((n:Int)< (l.length:Int))=true:=by simp;omega
   have e2:YHl .i64 ((n:Int)+1)=((n+1:Nat):Int):=by rw[wr6 (by omega) (by omega)];omega
   have e3:decide (l.getD n (YHk #[])=v)=decide (v=l.getD n (YHk #[])):=by simp only[eq_comm]
   simp only[YeE,e1,cond_true,e2,YHf,e3]
   rw[chkT _ (by omega)]
   cases decide (v=l.getD n (YHk #[]))<;>rfl
 unfold q104 idxI idxR
 rw[this,YBP]
 cases YBR (R:=Int⊕Unit) (fun m=>bif decide (v=l.getD m (YHk #[]))then some (.inl (m:Int))else none) l.length 0 (.inr ())<;>rfl
def vB(v:Int×Int×ByteArray):Bool:=(q6 loO v.1 v.2.1 v.2.2).getD false
theorem Yc6(a b:Int)(c:ByteArray):q6 loO a b c=some (vB (a,b,c)):=by
 unfold vB q6
 by_cases h0:a=0<;>by_cases h1:a=1<;>by_cases h2:a=2<;>by_cases h3:a=3<;>by_cases h4:b=0<;>by_cases h5:1<=b<;>simp[h0,h1,h2,h3,h4,h5]
theorem YAN(a b:Int)(c:ByteArray):q106 loO a b c=some (vB (a,b,c)):=Yc6 a b c
abbrev zV:Int×Int×ByteArray:=(0,0,YHk #[])
def vsB(l:Vals):Bool:= !anyN (fun m=> !vB (l.getD m zV)) l.length 0
theorem YAO(l:Vals)(hl:l.length<=maxEl):q10 loO l=some (vsB l):=by
 have hm:maxEl=1073741824:=rfl
 have:Ygt loO (l,(l.length:Int),0)=some (YBR (R:=Int⊕Unit) (fun m=>bif !vB (l.getD m zV)then some (.inl (m:Int))else none) l.length 0 (.inr ())):=by
  refine Yam (fun n=>(l,(l.length:Int),(n:Int))) _ l.length (Sum.inr ()) rfl ?_ (fun n hn=> ?_)
  ·simp[Yd5]
  ·have e1:decide ((n:Int)< (l.length:Int))=true:=by simp;omega
   have e2:YHl .i64 ((n:Int)+1)=((n+1:Nat):Int):=by rw[wr6 (by omega) (by omega)];omega
   simp only[Yd5,e1,cond_true,e2,YHf,q7,Yc6,YBP]
   rw[chkT _ (by omega)]
   cases vB (l.getD n zV)<;>rfl
 have h2:q8 loO l=some (idxR (fun m=> !vB (l.getD m zV)) l.length 0):=by
  unfold q8 idxR
  rw[this,YBP]
  cases YBR (R:=Int⊕Unit) (fun m=>bif !vB (l.getD m zV)then some (.inl (m:Int))else none) l.length 0 (.inr ())<;>rfl
 unfold q10 q9 vsB
 rw[h2,YBP,YBP,Yc4]
def fA(l:List ByteArray)(n:Nat):Bool:= !YCd (l.getD n (YHk #[]))||decide (0<=idxI (l.take n) (l.getD n (YHk #[])))
abbrev zR:Int×Vals:=(0,[])
def YDt(rows:Rws):Nat->Int
 |0=>0
 |n+1=>(rows.getD n zR).1
def fV(attrs:List ByteArray)(rows:Rws)(n:Nat):Option (Int⊕Unit):=
 bif decide ((rows.getD n zR).1<=YDt rows n)then some (.inl 1)else bif !decide (((rows.getD n zR).2.length:Int)=(attrs.length:Int))then some (.inl 6)else bif !vsB (rows.getD n zR).2 then some (.inl 1)else none
def YCt(nm:ByteArray)(attrs:List ByteArray)(rows:Rws):Int:=
 bif !YCd nm then 1 else bif decide ((16:Int)< (attrs.length:Int))then 3 else bif decide ((1000:Int)< (rows.length:Int))then 3 else bif anyN (fA attrs) attrs.length 0 then 1 else
  match YBR (fV attrs rows) rows.length 0 (.inr ())with| .inl i=>i| .inr _=>0
theorem YFQ(nm:ByteArray)(attrs:List ByteArray)(rows:Rws):q11 loO nm attrs rows=some (YCt nm attrs rows):=by
 have hm:maxEl=1073741824:=rfl
 unfold q11 YCt
 rw[Yog,YBP]
 cases YCd nm with
 |false=>rfl
 |true=>
  by_cases h1:(16:Int)< (attrs.length:Int)
  ·simp[h1]
  ·by_cases h2:(1000:Int)< (rows.length:Int)
   ·simp[h1,h2]
   ·simp only[h1,h2,decide_false,cond_false,YHa]
    have e20:Ygu loO (attrs,(attrs.length:Int),0,nm,attrs,rows)=some (YBR (R:=Int⊕ (ByteArray×List ByteArray×Rws)) (fun m=>bif fA attrs m then some (.inl 1)else none) attrs.length 0 (.inr (nm,attrs,rows))):=by
     refine Yam (fun n=>(attrs,(attrs.length:Int),(n:Int),nm,attrs,rows)) _ attrs.length _ rfl ?_ (fun n hn=> ?_)
     ·simp[Yd6]
     ·have e1:decide ((n:Int)< (attrs.length:Int))=true:=by simp;omega
      have e2:YHl .i64 ((n:Int)+1)=((n+1:Nat):Int):=by rw[wr6 (by omega) (by omega)];omega
      simp only[Yd6,e1,cond_true,e2,YHf,Yog,YBP,YGz]
      rw[chkT _ (by omega),chkT _ (by omega),Yhs _ _ (by simp;omega),YBP]
      unfold fA
      cases YCd (attrs.getD n (YHk #[]))<;>cases decide (0<=idxI (attrs.take n) (attrs.getD n (YHk #[])))<;>rfl
    rw[e20,YBP]
    have hsc: ∀k n,YBR (R:=Int⊕ (ByteArray×List ByteArray×Rws)) (fun m=>bif fA attrs m then some (.inl 1)else none) k n (.inr (nm,attrs,rows))=bif anyN (fA attrs) k n then .inl 1 else .inr (nm,attrs,rows):=by
     intro k
     induction k with
     |zero=>intro n;rfl
     |succ k ih=>intro n;simp only[YBR,anyN];cases fA attrs n with
      |true=>rfl
      |false=>simpa using ih (n+1)
    rw[hsc]
    cases anyN (fA attrs) attrs.length 0 with
    |true=>rfl
    |false=>
     simp only[cond_false,alt2]
     have e3:Ygv loO (0,rows,(rows.length:Int),0,nm,attrs,rows)=some (YBR (fV attrs rows) rows.length 0 (.inr ())):=by
      refine Yam (fun n=>(YDt rows n,rows,(rows.length:Int),(n:Int),nm,attrs,rows)) _ rows.length _ rfl ?_ (fun n hn=> ?_)
      ·simp[Yd7]
      ·have e1:decide ((n:Int)< (rows.length:Int))=true:=by simp;omega
       have e2:YHl .i64 ((n:Int)+1)=((n+1:Nat):Int):=by rw[wr6 (by omega) (by omega)];omega
       simp only[Yd7,e1,cond_true,e2,YHf]
       rw[chkT _ (by omega)]
       unfold fV
       by_cases g1:(rows.getD n zR).1<=YDt rows n
       ·simp only[g1,decide_true,cond_true]
       ·by_cases g2:((rows.getD n zR).2.length:Int)=(attrs.length:Int)
        ·simp only[g1,g2,decide_false,decide_true,cond_false,YHa]
         rw[YAO _ (show(rows.getD n zR).2.length<=maxEl by omega),YBP]
         cases vsB (rows.getD n zR).2<;>rfl
        ·simp only[g1,g2,decide_false,cond_false,YHb,cond_true]
     rw[e3,YBP]
     cases YBR (fV attrs rows) rows.length 0 (.inr ())<;>rfl
end
end Go.Abs.G47
namespace Go.Abs.G47
open Go Go.Abs
noncomputable section
theorem inc{n N:Nat}(h:n<N)(hN:N<=maxEl):YHl .i64 ((n:Int)+1)=((n+1:Nat):Int):=by
 have hm:maxEl=1073741824:=rfl
 rw[wr6 (by omega) (by omega)];omega
theorem ltI{n N:Nat}(h:n<N):decide ((n:Int)< (N:Int))=true:=by simp_all
theorem nlI(N:Nat):decide ((N:Int)< (N:Int))=false:=by simp
abbrev zT:Tabl:=(YHk #[],[],[])
abbrev zA:Atom:=(YHk #[],[])
abbrev zM:Term:=(YHk #[],0,0,YHk #[])
abbrev nul0:ByteArray:=YHk #[]
def tabP(db:List Tabl)(nm:ByteArray)(n:Nat):Bool:=decide ((db.getD n zT).1=nm)
def tabI(db:List Tabl)(nm:ByteArray):Int:=idxR (tabP db nm) db.length 0
theorem Yoi(db:List Tabl)(nm:ByteArray)(h:db.length<=maxEl):q14 loO db nm=some (tabI db nm):=by
 have:Ygw loO (db,(db.length:Int),0,nm)=some (YBR (R:=(Int×ByteArray)⊕ByteArray) (fun m=>bif tabP db nm m then some (.inl ((m:Int),nm))else none) db.length 0 (.inr nm)):=by
  refine Yam (fun n=>(db,(db.length:Int),(n:Int),nm)) _ db.length _ rfl ?_ (fun n hn=> ?_)
  ·simp[Yd8]
  ·simp only[Yd8,ltI hn,cond_true,inc hn h,YHf,q12,YBP]
   rw[chkT _ (by omega)]
   unfold tabP
   grind
 unfold q14 q13
 rw[this,YBP]
 unfold tabI idxR
 have key: ∀k n,(match YBR (R:=(Int×ByteArray)⊕ByteArray) (fun m=>bif tabP db nm m then some (.inl ((m:Int),nm))else none) k n (.inr nm)with| .inl i=>Sum.inl (β:=Unit) i.1| .inr _=>.inr ())=YBR (R:=Int⊕Unit) (fun m=>bif tabP db nm m then some (.inl (m:Int))else none) k n (.inr ()):=by
  intro k
  induction k with
  |zero=>intro n;rfl
  |succ k ih=>intro n;simp only[YBR];grind
 rw[<-key]
 cases YBR (R:=(Int×ByteArray)⊕ByteArray) (fun m=>bif tabP db nm m then some (.inl ((m:Int),nm))else none) db.length 0 (.inr nm)<;>rfl
def tabO(db:List Tabl)(nm:ByteArray):Tabl:=bif decide (0<=tabI db nm)then db.getD (tabI db nm).toNat zT else zT
theorem YeT{p:Nat->Bool}: ∀{k n:Nat},(∃m,n<=m/\m<n+k/\p m=true/\idxR p k n=(m:Int))\/(idxR p k n= -1/\ ∀m,n<=m->m<n+k->p m=false)
 |0,n=>.inr ⟨rfl,fun m h1 h2=>by omega⟩
 |k+1,n=>by
  cases hp:p n with
  |true=>exact .inl ⟨n,YGQ _,by omega,hp,by unfold idxR;simp[YBR,hp]⟩
  |false=>
   have e:idxR p (k+1) n=idxR p k (n+1):=by unfold idxR;simp[YBR,hp]
   rcases YeT (p:=p) (k:=k) (n:=n+1)with⟨m,h1,h2,h3,h4⟩| ⟨h1,h2⟩
   ·grind
   grind
theorem YFR(db:List Tabl)(nm:ByteArray)(h:db.length<=maxEl):q25 loO db nm=some ((tabO db nm).1,(tabO db nm).2.1,(tabO db nm).2.2,decide (0<=tabI db nm)):=by
 have:Ygy loO (nm,db,(db.length:Int),0,nul0,[],[])=some (YBR (R:=(Bool×Tabl)⊕Tabl) (fun m=>bif tabP db nm m then some (.inl (true,db.getD m zT))else none) db.length 0 (.inr zT)):=by
  refine Yam (fun n=>(nm,db,(db.length:Int),(n:Int),nul0,[],[])) _ db.length _ rfl ?_ (fun n hn=> ?_)
  ·simp[Yea]
  ·simp only[Yea,ltI hn,cond_true,inc hn h,YHf]
   rw[chkT _ (by omega)]
   unfold tabP
   grind
 unfold q25
 rw[this,YBP]
 have key: ∀k n,YBR (R:=(Bool×Tabl)⊕Tabl) (fun m=>bif tabP db nm m then some (.inl (true,db.getD m zT))else none) k n (.inr zT)=bif decide (0<=idxR (tabP db nm) k n)then .inl (true,db.getD (idxR (tabP db nm) k n).toNat zT)else .inr zT:=by
  intro k
  induction k with
  |zero=>intro n;rfl
  |succ k ih=>
   intro n
   cases hp:tabP db nm n with
   |true=>unfold idxR;simp[YBR,hp]
   |false=>
    have e:idxR (tabP db nm) (k+1) n=idxR (tabP db nm) k (n+1):=by unfold idxR;simp[YBR,hp]
    rw[e,<-ih (n+1)]
    simp[YBR,hp]
 rw[key]
 unfold tabO tabI
 cases decide (0<=idxR (tabP db nm) db.length 0)<;>rfl
def fD(db:List Tabl)(n:Nat):Option (Int⊕Unit):=
 bif !decide (YCt (db.getD n zT).1 (db.getD n zT).2.1 (db.getD n zT).2.2=0)then some (.inl (YCt (db.getD n zT).1 (db.getD n zT).2.1 (db.getD n zT).2.2))else bif decide (0<=tabI (db.take n) (db.getD n zT).1)then some (.inl 5)else none
def dbI(db:List Tabl):Int:=bif decide ((50:Int)< (db.length:Int))then 3 else match YBR (fD db) db.length 0 (.inr ())with| .inl i=>i| .inr _=>0
theorem YAP(db:List Tabl):q15 loO db=some (dbI db):=by
 have hm:maxEl=1073741824:=rfl
 unfold q15 dbI
 by_cases h:(50:Int)< (db.length:Int)
 ·simp[h]
 ·have hl:db.length<=maxEl:=by omega
  simp only[h,decide_false,cond_false]
  have:Ygx loO (db,(db.length:Int),0,db)=some (YBR (fD db) db.length 0 (.inr ())):=by
   refine Yam (fun n=>(db,(db.length:Int),(n:Int),db)) _ db.length _ rfl ?_ (fun n hn=> ?_)
   ·simp[Yd9]
   ·simp only[Yd9,ltI hn,cond_true,inc hn hl,YHf,YFQ,YBP,YGz]
    rw[chkT _ (by omega),chkT _ (by omega),Yoi _ _ (by grind),YBP]
    unfold fD
    grind
  rw[this,YBP]
  cases YBR (fD db) db.length 0 (.inr ())<;>rfl
theorem YAQ(nm:ByteArray)(attrs:List ByteArray)(rows:Rws):YCt nm attrs rows≠4:=by
 unfold YCt
 cases YCd nm with
 |false=>simp
 |true=>
  cases decide ((16:Int)< (attrs.length:Int))with
  |true=>simp
  |false=>
   cases decide ((1000:Int)< (rows.length:Int))with
   |true=>simp
   |false=>
    cases anyN (fA attrs) attrs.length 0 with
    |true=>simp
    |false=>
     rcases YaO (f:=fV attrs rows) (r0:=.inr ()) rows.length 0 with⟨m,r,_,_,h3,h4⟩| ⟨h1,_⟩
     ·unfold fV at h3
      grind
     simp_all
theorem YAR(db:List Tabl):dbI db≠4:=by
 unfold dbI
 cases decide ((50:Int)< (db.length:Int))with
 |true=>simp
 |false=>
  rcases YaO (f:=fD db) (r0:=.inr ()) db.length 0 with⟨m,r,_,_,h3,h4⟩| ⟨h1,_⟩
  ·rw[h4]
   unfold fD at h3
   cases hv:decide (YCt (db.getD m zT).1 (db.getD m zT).2.1 (db.getD m zT).2.2=0)with
   |false=>rw[hv]at h3;injection h3 with h3;subst h3;exact YAQ _ _ _
   |true=>
    grind
  simp_all
theorem Yht{db:List Tabl}(h:dbI db=0):db.length<=50/\ ∀n,n<db.length->YCt (db.getD n zT).1 (db.getD n zT).2.1 (db.getD n zT).2.2=0:=by
 unfold dbI at h
 by_cases h50:(50:Int)< (db.length:Int)
 ·simp_all
 ·refine⟨by omega,?_⟩
  rcases YaO (f:=fD db) (r0:=.inr ()) db.length 0 with⟨m,r,_,h2,h3,h4⟩| ⟨h1,hn⟩
  ·unfold fD at h3
   grind
  ·intro n hl
   have:=hn n (YGZ _) (by omega)
   unfold fD at this
   grind
theorem YAS{nm:ByteArray}{attrs:List ByteArray}{rows:Rws}(h:YCt nm attrs rows=0):YCd nm=true:=by
 unfold YCt at h
 grind
theorem YAT{db:List Tabl}(h:dbI db=0):tabI db nul0= -1:=by
 rcases YeT (p:=tabP db nul0) (k:=db.length) (n:=0)with⟨m,_,h2,h3,_⟩| ⟨h1,_⟩
 ·exfalso
  have:=YAS ((Yht h).2 m (by omega))
  rw[of_decide_eq_true (show decide ((db.getD m zT).1=nul0)=true from h3)]at this
  trivial
 trivial
theorem YAU(db:List Tabl):q24 loO db nul0 [] nul0 []=some (bif !decide (dbI db=0)then dbI db else 4):=by
 have hm:maxEl=1073741824:=rfl
 unfold q24
 rw[YAP,YBP]
 by_cases h:dbI db=0
 ·have hl:=(Yht h).1
  simp only[h,decide_true,YHa,cond_false]
  unfold q23
  rw[Yoi _ _ (by omega),YBP,YBP,YAT h];rfl
 simp_all
theorem lexL(c:Int):q26 loO c=some (lt c):=YeS c
theorem lexD(c:Int):q27 loO c=some (decide (48<=c)&&decide (c<=57)):=by
 unfold q27
 grind
theorem YAV(s:ByteArray)(hs:s.size<=24):Ygz loO (s,(s.size:Int),0)=some (YBR (fR s) s.size 0 (.inr ())):=by
 have hm:maxEl=1073741824:=rfl
 refine Yam (fun n=>(s,(s.size:Int),(n:Int))) (fR s) s.size (.inr ()) rfl ?_ (fun n hn=> ?_)
 ·simp[Yeb]
 ·simp only[Yeb,ltI hn,cond_true,inc hn (show s.size<=maxEl by omega),lexL,lexD,YBP]
  rw[chkT _ (by omega),chkT _ (by omega)]
  unfold fR
  grind
theorem lexN(s:ByteArray):q28 loO s=some (YCd s):=by
 rw[<-Yhr]
 unfold q28 q103
 by_cases h1:s=YHk #[]
 ·subst h1;rfl
 ·have h1':s.size≠0:=fun h=>h1 ((YFP s).1 h)
  have h0: ¬ (s.size:Int)=0:=by omega
  by_cases h2:(24:Int)< (s.size:Int)
  ·simp_all
  ·by_cases h3:s=YHk #[110,117,108,108]
   ·subst h3
    rfl
   ·simp only[h1,h2,h3,h0,decide_false,cond_false,lexL,YeS,YBP]
    rw[chkT _ (by omega),chkT _ (by omega),YAV s (by omega),Yoh s (by omega),YBP]
def YCh(t:Term):Bool:=bif !decide (t.1=nul0)then YCd t.1&& (decide (t.2.1=0)&& (decide (t.2.2.1=0)&& (decide (t.2.2.2=nul0)&&true)))else vB t.2
theorem YFS(t:Term):q29 loO t.1 t.2.1 t.2.2.1 t.2.2.2=some (YCh t):=by
 unfold q29 YCh
 rw[lexN,Yc6,YBP,YBP]
 grind
theorem YGa(t:Term):q111 loO t.1 t.2.1 t.2.2.1 t.2.2.2=some (YCh t):=by
 unfold q111 YCh
 rw[Yhr,YAN,YBP,YBP]
 grind
def badT(l:List Term):Bool:=anyN (fun m=> !YCh (l.getD m zM)) l.length 0
theorem YFT(l:List Term)(h:l.length<=maxEl):q32 loO l=some (badT l):=by
 have:YgA loO (l,(l.length:Int),0)=some (YBR (R:=Int⊕Unit) (fun m=>bif !YCh (l.getD m zM)then some (.inl (m:Int))else none) l.length 0 (.inr ())):=by
  refine Yam (fun n=>(l,(l.length:Int),(n:Int))) _ l.length _ rfl ?_ (fun n hn=> ?_)
  ·simp[Yec]
  ·simp only[Yec,ltI hn,cond_true,inc hn h,YHf,q30]
   rw[chkT _ (by omega),YFS,YBP,YBP]
   grind
 unfold q32 q31 badT
 rw[this,YBP,<-Yc4]
 unfold idxR
 cases YBR (R:=Int⊕Unit) (fun m=>bif !YCh (l.getD m zM)then some (.inl (m:Int))else none) l.length 0 (.inr ())<;>rfl
theorem YFU(nm:ByteArray)(l:List Term)(h:l.length<=maxEl):q112 loO nm l=some (!badT l):=by
 have:Yg8 loO (0,nm,l)=some (YBR (R:=Bool⊕Unit) (fun m=>bif !YCh (l.getD m zM)then some (.inl false)else none) l.length 0 (.inr ())):=by
  refine Yam (fun n=>((n:Int),nm,l)) _ l.length _ rfl ?_ (fun n hn=> ?_)
  ·simp[YeF]
  ·simp only[YeF,ltI hn,cond_true,inc hn h,YHf]
   rw[chkT _ (by omega),YGa,YBP]
   grind
 unfold q112 badT
 rw[this,YBP,Yhq]
 cases anyN (fun m=> !YCh (l.getD m zM)) l.length 0<;>rfl
def addV(out:List ByteArray)(v:ByteArray):List ByteArray:=bif !decide (v=nul0)&&decide (idxI out v<0)then out++[v]else out
def YCm(out:List ByteArray)(l:List Term):List ByteArray:=l.foldl (fun o t=>addV o t.1) out
def YBZ(out:List ByteArray)(l:List Atom):List ByteArray:=l.foldl (fun o a=>YCm o a.2) out
theorem YAW(out:List ByteArray)(v:ByteArray):(addV out v).length<=out.length+1:=by
 unfold addV
 grind
theorem YeU: ∀(l:List Term) (out:List ByteArray),(YCm out l).length<=out.length+l.length
 | [],out=>by simp[YCm]
 |t::l,out=>by
  have h1:=YeU l (addV out t.1)
  have h2:=YAW out t.1
  simp only[YCm,List.foldl_cons,YGA]at h1⊢
  omega
def sumT(l:List Atom):Nat:=(l.map fun a=>a.2.length).sum
theorem Yca: ∀(l:List Atom) (out:List ByteArray),(YBZ out l).length<=out.length+sumT l
 | [],out=>by simp[YBZ,sumT]
 |a::l,out=>by
  have h1:=Yca l (YCm out a.2)
  have h2:=YeU a.2 out
  simp only[YBZ,sumT,List.foldl_cons,YGj,List.sum_cons]at h1⊢
  omega
theorem Ycb{α β:Type}(f:β->α->β)(b:β){l:List α}{n:Nat}{d:α}(h:n<l.length):(l.take (n+1)).foldl f b=f ((l.take n).foldl f b) (l.getD n d):=by
 rw[Ybn (d:=d) h,List.foldl_append];rfl
theorem YAX{l:List Nat}: ∀(n:Nat),(l.take n).sum<=l.sum:=by
 induction l with
 |nil=>simp
 |cons a r ih=>
  intro n
  cases n with
  |zero=>simp
  |succ n=>simp_all
theorem YAY(l:List Atom)(n:Nat):sumT (l.take n)<=sumT l:=by
 unfold sumT;rw[List.map_take];exact YAX n
theorem Ybb{l:List Atom}{n:Nat}(h:n<l.length):sumT (l.take n)+(l.getD n zA).2.length<=sumT l:=by
 have:=YAY l (n+1)
 rw[Ybn (d:=zA) h]at this
 unfold sumT at this⊢
 grind
theorem YFV(l:List Atom)(h:l.length<=maxEl)(h2:sumT l<=maxEl):q113 loO l=some (YBZ [] l):=by
 have inner: ∀(i:Nat) (out:List ByteArray),i<l.length->out.length<=sumT (l.take i)->Yg9 loO (l,(i:Int),0,out)=some (l,(i:Int),YCm out (l.getD i zA).2):=by
  intro i out hi ho
  have hb:=Ybb hi
  refine Yao (st:=fun n=>(l,(i:Int),(n:Int),YCm out ((l.getD i zA).2.take n))) (N:=(l.getD i zA).2.length) rfl ?_ (fun n hn=> ?_)
  ·simp only[YeG,YHf,nlI,cond_false,YGt]
   rw[chkT _ (by omega)]
  ·have ht:=YeU ((l.getD i zA).2.take n) out
   rw[List.length_take,Nat.min_eq_left (by omega)]at ht
   simp only[YeG,YHf,ltI hn,cond_true,inc hn (show(l.getD i zA).2.length<=maxEl by omega)]
   rw[chkT _ (by omega),chkT _ (by omega),chkT _ ⟨by omega,Int.ofNat_lt.2 hn⟩,Yc5 _ _ (by omega),YBP]
   have e:YCm out ((l.getD i zA).2.take (n+1))=addV (YCm out ((l.getD i zA).2.take n)) ((l.getD i zA).2.getD n zM).1:=Ycb (fun o (t:Term)=>addV o t.1) out (d:=zM) hn
   rw[e]
   rw[chkT _ (by grind)]
   unfold addV
   grind
 have outer:Yha loO (l,0,[])=some (YBZ [] l):=by
  refine Yao (st:=fun n=>(l,(n:Int),YBZ [] (l.take n))) (N:=l.length) rfl ?_ (fun n hn=> ?_)
  ·simp only[YeH,nlI,cond_false,YGt]
  ·have hl:=Yca (l.take n) []
   simp at hl
   simp only[YeH,ltI hn,cond_true]
   rw[inner n _ hn hl,YBP]
   simp only[inc hn h]
   have e:YBZ [] (l.take (n+1))=YCm (YBZ [] (l.take n)) (l.getD n zA).2:=Ycb (fun o (a:Atom)=>YCm o a.2) [] (d:=zA) hn
   rw[e]
 unfold q113
 simp_all
def inL(l:List ByteArray)(v:ByteArray):Bool:=l.any fun w=>decide (v=w)
theorem inL_iff{l:List ByteArray}{v:ByteArray}:inL l v=true↔v∈l:=by
 unfold inL;simp
theorem YeV(l:List ByteArray)(v:ByteArray):decide (0<=idxI l v)=inL l v:=by
 unfold idxI
 rw[Yc4,YHc,anyN_iff,inL_iff]
 constructor
 ·simp_all
 ·intro h
  obtain⟨m,hm,e⟩:=YGD.1 h
  exact⟨m,YGZ _,by omega,by simp_all⟩
theorem YeW(l:List ByteArray)(v:ByteArray):decide (idxI l v<0)= !inL l v:=by
 rw[<-YeV];grind
theorem YAZ(out:List ByteArray)(w v:ByteArray):v∈addV out w↔v∈out\/(v≠nul0/\w=v):=by
 unfold addV
 rw[YeW]
 by_cases h1:w=nul0
 ·grind
 ·by_cases h2:w∈out
  ·grind
  ·have h3:inL out w=false:=by rw[<-YHe,inL_iff];exact h2
   grind
theorem Yoj: ∀(l:List Term) (out:List ByteArray) (v:ByteArray),v∈YCm out l↔v∈out\/(v≠nul0/\ ∃t∈l,t.1=v)
 | [],out,v=>by simp[YCm]
 |t::l,out,v=>by
  have:=Yoj l (addV out t.1) v
  simp only[YCm,List.foldl_cons]at this⊢
  rw[this,YAZ]
  grind
theorem YbK: ∀(l:List Atom) (out:List ByteArray) (v:ByteArray),v∈YBZ out l↔v∈out\/(v≠nul0/\ ∃a∈l,∃t∈a.2,t.1=v)
 | [],out,v=>by simp[YBZ]
 |a::l,out,v=>by
  have:=YbK l (YCm out a.2) v
  simp only[YBZ,List.foldl_cons]at this⊢
  rw[this,Yoj]
  simp
  constructor
  ·rintro((h| ⟨h1,h2⟩)| ⟨h1,h2⟩)
   ·simp_all
   ·simp_all
   simp_all
  ·rintro(h| ⟨h1,h2|h2⟩)
   ·simp_all
   ·simp_all
   simp_all
def fHd(hd:List ByteArray)(at':List Atom)(n:Nat):Bool:=inL (YBZ [] at') (hd.getD n nul0)&& !inL (hd.take n) (hd.getD n nul0)
def YDh(hd:List ByteArray)(at':List Atom):Bool:= !anyN (fun m=> !fHd hd at' m) hd.length 0
theorem YGb(l:List Term)(v:ByteArray)(h:l.length<=maxEl):q35 loO l v=some (anyN (fun m=>decide ((l.getD m zM).1=v)) l.length 0,v):=by
 have:YgB loO (l,(l.length:Int),0,v)=some (YBR (R:=(Int×ByteArray)⊕ByteArray) (fun m=>bif decide ((l.getD m zM).1=v)then some (.inl ((m:Int),v))else none) l.length 0 (.inr v)):=by
  refine Yam (fun n=>(l,(l.length:Int),(n:Int),v)) _ l.length _ rfl ?_ (fun n hn=> ?_)
  ·simp[Yed]
  ·simp only[Yed,ltI hn,cond_true,inc hn h,YHf,q33,YBP]
   rw[chkT _ (by omega)]
   grind
 unfold q35 q34
 rw[this,YBP]
 have k1:=Yhp (R:=(Int×ByteArray)⊕ByteArray) (p:=fun m=>decide ((l.getD m zM).1=v)) (fun m=>.inl ((m:Int),v)) (.inr v) (fun r=>match r with| .inl i=>decide (0<=i.1)| .inr _=>false) rfl (fun m=>by simp) l.length 0
 have k2: ∀k n,(match YBR (R:=(Int×ByteArray)⊕ByteArray) (fun m=>bif decide ((l.getD m zM).1=v)then some (.inl ((m:Int),v))else none) k n (.inr v)with| .inl i=>i.2| .inr b=>b)=v:=by
  intro k
  induction k with
  |zero=>intro n;rfl
  |succ k ih=>intro n;simp only[YBR];grind
 have k2:=k2 l.length 0
 rw[<-k1]
 revert k2
 cases YBR (R:=(Int×ByteArray)⊕ByteArray) (fun m=>bif decide ((l.getD m zM).1=v)then some (.inl ((m:Int),v))else none) l.length 0 (.inr v)with
 |inl i=>intro k2;subst k2;rfl
 |inr b=>intro k2;subst k2;rfl
theorem YGc(l:List Atom)(v:ByteArray)(h:l.length<=maxEl)(h2:sumT l<=maxEl):q38 loO l v=some (anyN (fun m=>anyN (fun k=>decide (((l.getD m zA).2.getD k zM).1=v)) (l.getD m zA).2.length 0) l.length 0,v):=by
 have:YgC loO (l,(l.length:Int),0,v)=some (YBR (R:=(Int×ByteArray)⊕ByteArray) (fun m=>bif anyN (fun k=>decide (((l.getD m zA).2.getD k zM).1=v)) (l.getD m zA).2.length 0 then some (.inl ((m:Int),v))else none) l.length 0 (.inr v)):=by
  refine Yam (fun n=>(l,(l.length:Int),(n:Int),v)) _ l.length _ rfl ?_ (fun n hn=> ?_)
  ·simp[Yee]
  ·have:=Ybb hn
   have hg:(l.getD n zA).2.length<=maxEl:=by omega
   simp only[Yee,ltI hn,cond_true,inc hn h,YHf,q36]
   rw[chkT _ (by omega),YGb _ _ hg,YBP,YBP]
   grind
 unfold q38 q37
 rw[this,YBP]
 have k1:=Yhp (R:=(Int×ByteArray)⊕ByteArray) (p:=fun m=>anyN (fun k=>decide (((l.getD m zA).2.getD k zM).1=v)) (l.getD m zA).2.length 0) (fun m=>.inl ((m:Int),v)) (.inr v) (fun r=>match r with| .inl i=>decide (0<=i.1)| .inr _=>false) rfl (fun m=>by simp) l.length 0
 have k2: ∀k n,(match YBR (R:=(Int×ByteArray)⊕ByteArray) (fun m=>bif anyN (fun k=>decide (((l.getD m zA).2.getD k zM).1=v)) (l.getD m zA).2.length 0 then some (.inl ((m:Int),v))else none) k n (.inr v)with| .inl i=>i.2| .inr b=>b)=v:=by
  intro k
  induction k with
  |zero=>intro n;rfl
  |succ k ih=>intro n;simp only[YBR];grind
 have k2:=k2 l.length 0
 rw[<-k1]
 revert k2
 cases YBR (R:=(Int×ByteArray)⊕ByteArray) (fun m=>bif anyN (fun k=>decide (((l.getD m zA).2.getD k zM).1=v)) (l.getD m zA).2.length 0 then some (.inl ((m:Int),v))else none) l.length 0 (.inr v)with
 |inl i=>intro k2;subst k2;rfl
 |inr b=>intro k2;subst k2;rfl
theorem Ycc{α:Type}(p:α->Bool)(l:List α)(d:α):anyN (fun m=>p (l.getD m d)) l.length 0=l.any p:=by
 rw[YHc,anyN_iff,List.any_eq_true]
 constructor
 ·grind
 ·rintro⟨x,hx,h3⟩
  obtain⟨m,hm,e⟩:=YGD.1 hx
  refine⟨m,YGZ _,by omega,?_⟩
  simp_all
theorem occ(l:List Atom)(v:ByteArray):(!decide (v=nul0)&&anyN (fun m=>anyN (fun k=>decide (((l.getD m zA).2.getD k zM).1=v)) (l.getD m zA).2.length 0) l.length 0)=inL (YBZ [] l) v:=by
 have e1:anyN (fun m=>anyN (fun k=>decide (((l.getD m zA).2.getD k zM).1=v)) (l.getD m zA).2.length 0) l.length 0=l.any (fun a=>a.2.any fun t=>decide (t.1=v)):=by
  rw[<-Ycc (fun a=>a.2.any fun t=>decide (t.1=v)) l zA]
  congr 1;funext m
  exact Ycc (fun t=>decide (t.1=v)) (l.getD m zA).2 zM
 rw[e1,YHc,inL_iff,YbK]
 simp
theorem YFW(hd:List ByteArray)(l:List Atom)(hh:hd.length<=maxEl)(h:l.length<=maxEl)(h2:sumT l<=maxEl):q39 loO hd l=some (YDh hd l):=by
 have:YgD loO (hd,(hd.length:Int),0,hd,l)=some (YBR (R:=Bool⊕Unit) (fun m=>bif !fHd hd l m then some (.inl false)else none) hd.length 0 (.inr ())):=by
  refine Yam (fun n=>(hd,(hd.length:Int),(n:Int),hd,l)) _ hd.length _ rfl ?_ (fun n hn=> ?_)
  ·simp[Yef]
  ·simp only[Yef,ltI hn,cond_true,inc hn hh,YHf,YGz]
   rw[chkT _ (by omega),chkT _ (by omega),Yhs _ _ (by grind),YBP,YGc _ _ h h2,YBP]
   unfold fHd
   rw[<-occ,YeV]
   grind
 unfold q39 YDh
 rw[this,YBP,Yhq]
 cases anyN (fun m=> !fHd hd l m) hd.length 0<;>rfl
theorem YGd(hd:List ByteArray)(l:List Atom)(hh:hd.length<=maxEl)(h:l.length<=maxEl)(h2:sumT l<=maxEl):q114 loO hd l=some (YDh hd l):=by
 have hv:=Yca l []
 simp at hv
 have:Yhb loO (YBZ [] l,0,hd,l)=some (YBR (R:=Bool⊕Unit) (fun m=>bif !fHd hd l m then some (.inl false)else none) hd.length 0 (.inr ())):=by
  refine Yam (fun n=>(YBZ [] l,(n:Int),hd,l)) _ hd.length _ rfl ?_ (fun n hn=> ?_)
  ·simp[YeI]
  ·simp only[YeI,ltI hn,cond_true,inc hn hh,YHf,YGz]
   rw[chkT _ (by omega),chkT _ (by omega),chkT _ (by omega),Yc5 _ _ (by omega),YBP,Yc5 _ _ (by grind),YBP]
   unfold fHd
   rw[YeW,YeV]
   grind
 unfold q114 YDh
 rw[YFV l h h2,YBP,this,YBP,Yhq]
 cases anyN (fun m=> !fHd hd l m) hd.length 0<;>rfl
def fQ(db:List Tabl)(l:List Atom)(n:Nat):Option (Int⊕Unit):=
 bif !decide (0<=tabI db (l.getD n zA).1)then some (.inl 4)else bif !decide (((tabO db (l.getD n zA).1).2.1.length:Int)=((l.getD n zA).2.length:Int))then some (.inl 6)else bif badT (l.getD n zA).2 then some (.inl 1)else none
def qI(db:List Tabl)(hd:List ByteArray)(l:List Atom):Int:=
 bif !decide (dbI db=0)then dbI db else bif decide ((l.length:Int)<1)then 1 else bif decide ((6:Int)< (l.length:Int))then 1 else
  match YBR (fQ db l) l.length 0 (.inr ())with| .inl i=>i| .inr _=>bif !YDh hd l then 1 else 0
theorem Yok{R R' T:Type}(f:Nat->Option (R⊕T))(g:Nat->Option (R⊕R'))(t:T)(r0:R')(hf: ∀n,g n=match f n with|some (.inl i)=>some (.inl i)|some (.inr _)=>none|none=>none)(hn: ∀n u,f n≠some (.inr u)): ∀k n,YBR g k n (.inr r0)=match YBR f k n (.inr t)with| .inl i=>.inl i| .inr _=>.inr r0
 |0,n=>rfl
 |k+1,n=>by
  simp only[YBR]
  rw[hf]
  cases h:f n with
  |none=>exact Yok f g t r0 hf hn k (n+1)
  |some x=>grind
theorem YA0(db:List Tabl)(l:List Atom)(n:Nat)(u:Unit):fQ db l n≠some (.inr u):=by
 unfold fQ
 grind
def up{R':Type}(x:Option (Int⊕Unit)):Option (Int⊕R'):=match x with|some (.inl i)=>some (.inl i)|some (.inr _)=>none|none=>none
theorem tQ(db:List Tabl)(hd:List ByteArray)(l:List Atom)(hh:hd.length<=maxEl)(h2:sumT l<=maxEl):q40 loO db hd l=some (qI db hd l):=by
 have hm:maxEl=1073741824:=rfl
 unfold q40 qI
 rw[YAU,YBP]
 by_cases h:dbI db=0
 ·have hl:=(Yht h).1
  simp only[h,decide_true,YHa,cond_false]
  by_cases h1:(l.length:Int)<1
  ·grind
  ·by_cases h6:(6:Int)< (l.length:Int)
   ·simp_all
   ·simp only[h1,h6,decide_false,cond_false]
    have:YgE loO (l,(l.length:Int),0,db,hd,l)=some (YBR (R:=Int⊕ (List ByteArray×List Atom)) (fun n=>up (fQ db l n)) l.length 0 (.inr (hd,l))):=by
     refine Yam (fun n=>(l,(l.length:Int),(n:Int),db,hd,l)) _ l.length _ rfl ?_ (fun n hn=> ?_)
     ·simp[Yeg]
     ·have:=Ybb hn
      have hg:(l.getD n zA).2.length<=maxEl:=by omega
      simp only[Yeg,ltI hn,cond_true,inc hn (show l.length<=maxEl by omega),YHf]
      rw[chkT _ (by omega),YFR _ _ (by omega),YBP]
      rw[YFT _ hg,YBP]
      unfold fQ
      cases decide (0<=tabI db (l.getD n zA).1)<;>cases decide (((tabO db (l.getD n zA).1).2.1.length:Int)=((l.getD n zA).2.length:Int))<;>cases badT (l.getD n zA).2<;>rfl
    rw[this,YBP,Yok (fQ db l) (fun n=>up (fQ db l n)) () (hd,l) (fun n=>by rcases fQ db l n with _| (_|_)<;>rfl) (YA0 db l)]
    cases YBR (fQ db l) l.length 0 (.inr ())with
    |inl i=>rfl
    |inr u=>
     simp only[alt2]
     rw[YFW hd l hh (by omega) h2,YBP]
     grind
 ·have h4:=YAR db
  simp_all
theorem YA1{l:List Atom}{k:Nat}(h: ∀n,n<l.length->(l.getD n zA).2.length<=k):sumT l<=l.length*k:=by
 unfold sumT
 have: ∀a∈l,a.2.length<=k:=fun a ha=>by
  obtain⟨m,hm,e⟩:=YGD.1 ha
  grind
 clear h
 induction l with
 |nil=>simp
 |cons a r ih=>
  have h1:=this a (YGo ..)
  have h2:=ih (fun b hb=>this b (YGv _ hb))
  simp only[YGj,List.sum_cons,YGA,YGY];omega
end
end Go.Abs.G47
namespace Go.Abs.G47
open Go Go.Abs
noncomputable section
abbrev Asg(ν:Type):=ByteArray->Option ν
abbrev Ent(ν:Type):=List (Int×ByteArray×ν)
section
variable{ν:Type}[DecidableEq ν]
omit [DecidableEq ν] in
theorem Yhu(k k':ByteArray)(c:Int)(v:ν): ∀l:Ent ν,mfd eqS k' (mpt eqS c k v l)=bif eqS k' k then some v else mfd eqS k' l
 | []=>rfl
 |e::r=>by
  simp only[mpt]
  by_cases h:k=e.2.1
  ·have:eqS k e.2.1=true:=by simp[eqS,h]
   rw[this,cond_true]
   simp only[mfd,<-h]
   cases eqS k' k<;>rfl
  ·have:eqS k e.2.1=false:=by simp[eqS,h]
   rw[this,cond_false]
   simp only[mfd,Yhu k k' c v r]
   by_cases h1:k'=e.2.1
   ·have a1:eqS k' e.2.1=true:=by simp[eqS,h1]
    have a2:eqS k' k=false:=by simp only[eqS,decide_eq_false_iff_not];intro e';exact h (e'.symm.trans h1)
    rw[a1,a2];rfl
   ·have a1:eqS k' e.2.1=false:=by simp[eqS,h1]
    rw[a1];rfl
omit [DecidableEq ν] in
theorem Yhv{c:Int}{k:ByteArray}{v:ν}: ∀l:Ent ν,(mpt eqS c k v l).map (·.2.1)=(match mfd eqS k l with|some _=>l.map (·.2.1)|none=>l.map (·.2.1)++[k])
 | []=>rfl
 |e::r=>by
  simp only[mpt,mfd]
  cases h:eqS k e.2.1 with
  |true=>
   have:k=e.2.1:=by unfold eqS at h;simpa using h
   simp[this]
  |false=>
   simp only[cond_false,YGj,Yhv r]
   cases mfd eqS k r<;>rfl
def lk(l:Ent ν):Asg ν:=fun k=>mfd eqS k l
def upd(σ:Asg ν)(x:ByteArray)(u:ν):Asg ν:=fun k=>if k=x then some u else σ k
def del(σ:Asg ν)(x:ByteArray):Asg ν:=fun k=>if k=x then none else σ k
def KN(l:Ent ν):Prop:=(l.map (·.2.1)).Nodup
omit [DecidableEq ν] in
theorem Yhw(c:Int)(k:ByteArray)(v:ν)(l:Ent ν):lk (mpt eqS c k v l)=upd (lk l) k v:=by
 funext k'
 unfold lk upd
 rw[Yhu]
 by_cases h:k'=k<;>simp[eqS,h]
omit [DecidableEq ν] in
theorem mfd_none{k:ByteArray}: ∀{l:Ent ν},mfd eqS k l=none↔k∉l.map (·.2.1)
 | []=>by simp[mfd]
 |e::r=>by
  simp only[mfd,YGj,YGn,not_or]
  by_cases h:k=e.2.1
  ·simp[eqS,h]
  ·have:eqS k e.2.1=false:=by simp[eqS,h]
   rw[this,cond_false,mfd_none (l:=r)]
   simp[h]
omit [DecidableEq ν] in
theorem Yol{c:Int}{k:ByteArray}{v:ν}{l:Ent ν}(h:KN l):KN (mpt eqS c k v l):=by
 unfold KN
 rw[Yhv]
 cases hm:mfd eqS k l with
 |some _=>exact h
 |none=>
  rw[List.nodup_append]
  exact⟨h,by simp,fun x hx y hy=>by rw[YGE]at hy;subst hy;intro e;subst e;exact mfd_none.1 hm hx⟩
omit [DecidableEq ν] in
theorem Yom{k x:ByteArray}: ∀{l:Ent ν},x∈ (mdl eqS k l).map (·.2.1)->x∈l.map (·.2.1)
 | [],h=>h
 |e::r,h=>by
  simp only[mdl]at h
  cases hk:eqS k e.2.1 with
  |true=>rw[hk,cond_true]at h;exact YGv _ h
  |false=>
   rw[hk,cond_false,YGj,YGn]at h
   rw[YGj,YGn]
   exact h.imp_right Yom
omit [DecidableEq ν] in
theorem Yon{k:ByteArray}: ∀{l:Ent ν},KN l->KN (mdl eqS k l)/\lk (mdl eqS k l)=del (lk l) k
 | [],h=>⟨h,by funext x;unfold lk del;simp[mdl,mfd]⟩
 |e::r,h=>by
  have h':e.2.1∉r.map (·.2.1)/\KN r:=by unfold KN at h⊢;rw[YGj,List.nodup_cons]at h;exact h
  obtain⟨i1,i2⟩:=Yon (k:=k) h'.2
  simp only[mdl]
  by_cases hk:k=e.2.1
  ·have:eqS k e.2.1=true:=by simp[eqS,hk]
   rw[this,cond_true]
   refine⟨h'.2,?_⟩
   funext x
   unfold lk del
   by_cases hx:x=k
   ·rw[if_pos hx,hx,hk];exact mfd_none.2 h'.1
   ·rw[if_neg hx]
    have:eqS x e.2.1=false:=by simp[eqS,<-hk,hx]
    simp only[mfd,this,cond_false]
  ·have:eqS k e.2.1=false:=by simp[eqS,hk]
   rw[this,cond_false]
   refine⟨?_,?_⟩
   ·show(List.map (·.2.1) (e::mdl eqS k r)).Nodup
    rw[YGj,List.nodup_cons]
    exact⟨fun hm=>h'.1 (Yom hm),i1⟩
   ·funext x
    have i2:=congrFun i2 x
    unfold lk del at i2⊢
    simp only[mfd,i2]
    by_cases hx:x=k
    ·have:eqS x e.2.1=false:=by simp[eqS,hx,hk]
     rw[this];simp[hx]
    ·simp[hx]
def delG(l:Ent ν)(fresh:List ByteArray):Ent ν:=fresh.foldl (fun l k=>mdl eqS k l) l
omit [DecidableEq ν] in
theorem Yoo: ∀(fresh:List ByteArray) {l:Ent ν},KN l->KN (delG l fresh)/\ ∀k,lk (delG l fresh) k=bif inL fresh k then none else lk l k
 | [],l,h=>⟨h,fun k=>rfl⟩
 |x::r,l,h=>by
  obtain⟨h1,h2⟩:=Yon (k:=x) h
  obtain⟨i1,i2⟩:=Yoo r h1
  refine⟨i1,fun k=> ?_⟩
  show lk (delG (mdl eqS x l) r) k=_
  rw[i2,h2]
  unfold del
  show _=bif decide (k=x)||inL r k then none else _
  by_cases hx:k=x<;>cases inL r k<;>simp[hx]
def tmM(σ:Asg ν)(x:ByteArray)(c u:ν):Option (Asg ν):=if x=nul0 then(if c=u then some σ else none)else
 match σ x with
 |some w=>if w=u then some σ else none
 |none=>some (upd σ x u)
def tsM:Asg ν->List (ByteArray×ν)->List ν->Option (Asg ν)
 |σ,[],_=>some σ
 |σ,_::_,[]=>none
 |σ,p::ps,u::us=>(tmM σ p.1 p.2 u).bind fun σ'=>tsM σ' ps us
def fitG:List (ByteArray×ν)->List ν->Int->Ent ν->List ByteArray->Bool×Int×Ent ν×List ByteArray
 | [],_,clk,l,fr=>(true,clk,l,fr)
 |_::_,[],clk,l,fr=>(false,clk,l,fr)
 |p::ps,u::us,clk,l,fr=>if p.1=nul0 then(if p.2=u then fitG ps us clk l fr else(false,clk,l,fr))else
  match mfd eqS p.1 l with
  |some w=>if w=u then fitG ps us clk l fr else(false,clk,l,fr)
  |none=>fitG ps us (mck eqS clk p.1 l) (mpt eqS clk p.1 u l) (fr++[p.1])
structure FitOk(σ0:Asg ν)(σ':Option (Asg ν))(r:Bool×Int×Ent ν×List ByteArray)(n:Nat):Prop where
 kn:KN r.2.2.1
 len:r.2.2.2.length<=n
 new: ∀k∈r.2.2.2,σ0 k=none
 old: ∀k,k∉r.2.2.2->lk r.2.2.1 k=σ0 k
 ok:r.1=σ'.isSome
 val: ∀σ1,σ'=some σ1->lk r.2.2.1=σ1
theorem YeX{σ0:Asg ν}: ∀(ps:List (ByteArray×ν)) (us:List ν) (clk:Int) (l:Ent ν) (fr:List ByteArray),KN l->(∀k∈fr,σ0 k=none)->(∀k,k∉fr->lk l k=σ0 k)->
  FitOk σ0 (tsM (lk l) ps us) (fitG ps us clk l fr) (fr.length+ps.length)
 | [],us,clk,l,fr,hk,hf,hl=>⟨hk,by simp[fitG],hf,hl,rfl,fun σ1 h=>by injection h⟩
 |p::ps,[],clk,l,fr,hk,hf,hl=>⟨hk,by simp[fitG],hf,hl,rfl,fun σ1 h=>by cases h⟩
 |p::ps,u::us,clk,l,fr,hk,hf,hl=>by
  have up: ∀{σ' r},FitOk σ0 σ' r (fr.length+ps.length)->FitOk σ0 σ' r (fr.length+(p::ps).length):=fun h=>⟨h.kn,by have:=h.len;grind,h.new,h.old,h.ok,h.val⟩
  have stop:FitOk σ0 none (false,clk,l,fr) (fr.length+(p::ps).length):=⟨hk,by simp,hf,hl,rfl,fun σ1 h=>by cases h⟩
  simp only[fitG,tsM,tmM]
  by_cases h0:p.1=nul0
  ·rw[if_pos h0,if_pos h0]
   by_cases hc:p.2=u
   ·rw[if_pos hc,if_pos hc];exact up (YeX ps us clk l fr hk hf hl)
   simp_all
  ·rw[if_neg h0,if_neg h0]
   have e:lk l p.1=mfd eqS p.1 l:=rfl
   rw[e]
   cases hm:mfd eqS p.1 l with
   |some w=>
    simp only
    by_cases hc:w=u
    ·rw[if_pos hc,if_pos hc];exact up (YeX ps us clk l fr hk hf hl)
    simp_all
   |none=>
    have:=YeX (σ0:=σ0) ps us (mck eqS clk p.1 l) (mpt eqS clk p.1 u l) (fr++[p.1]) (Yol hk) (fun k hk'=>by
     grind) (fun k hk'=>by
     rw[Yhw];unfold upd;simp_all)
    rw[Yhw]at this
    grind
theorem fit0{ps:List (ByteArray×ν)}{us:List ν}(clk:Int){l:Ent ν}(hk:KN l):FitOk (lk l) (tsM (lk l) ps us) (fitG ps us clk l []) ps.length:=by
 have:=YeX (σ0:=lk l) ps us clk l [] hk (fun k h=>by cases h) (fun k _=>rfl)
 simp_all
omit [DecidableEq ν] in
theorem YeY{σ0:Asg ν}{fr:List ByteArray}{l:Ent ν}(hk:KN l)(hn: ∀k∈fr,σ0 k=none)(ho: ∀k,k∉fr->lk l k=σ0 k):KN (delG l fr)/\lk (delG l fr)=σ0:=by
 obtain⟨h1,h2⟩:=Yoo fr hk
 refine⟨h1,?_⟩
 funext k
 rw[h2]
 cases h:inL fr k with
 |true=>exact(hn k (inL_iff.1 h)).symm
 |false=>exact ho k fun hm=>by rw[inL_iff.2 hm]at h;cases h
def leA(σ τ:Asg ν):Prop:= ∀k v,σ k=some v->τ k=some v
omit [DecidableEq ν] in
theorem leA.refl(σ:Asg ν):leA σ σ:=fun _ _ h=>h
omit [DecidableEq ν] in
theorem leA.trans{σ τ ρ:Asg ν}(h:leA σ τ)(h':leA τ ρ):leA σ ρ:=fun k v e=>h' k v (h k v e)
def Img(σ:Asg ν):List (ByteArray×ν)->List ν->Prop
 | [],_=>True
 |_::_,[]=>False
 |p::ps,u::us=>(if p.1=nul0 then p.2=u else σ p.1=some u)/\Img σ ps us
omit [DecidableEq ν] in
theorem Img.mono{σ τ:Asg ν}(h:leA σ τ): ∀{ps us},Img σ ps us->Img τ ps us
 | [],_,_=>trivial
 |_::_,[],h'=>h'.elim
 |p::ps,u::us,h'=>by
  refine⟨?_,h'.2.mono h⟩
  have:=h'.1
  by_cases h0:p.1=nul0
  ·rw[if_pos h0]at this⊢;exact this
  ·rw[if_neg h0]at this⊢;exact h _ _ this
theorem YA2{σ σ':Asg ν}{x:ByteArray}{c u:ν}(h:tmM σ x c u=some σ'):leA σ σ'/\if x=nul0 then c=u else σ' x=some u:=by
 unfold tmM at h
 by_cases h0:x=nul0
 ·rw[if_pos h0]at h⊢
  by_cases hc:c=u
  ·rw[if_pos hc]at h;injection h with h;subst h;exact⟨leA.refl _,hc⟩
  simp_all
 ·rw[if_neg h0]at h⊢
  cases hs:σ x with
  |some w=>
   rw[hs]at h;simp only at h
   by_cases hc:w=u
   ·rw[if_pos hc]at h;injection h with h;subst h;exact⟨leA.refl _,by simp_all⟩
   simp_all
  |none=>
   rw[hs]at h;injection h with h;subst h
   refine⟨fun k v e=> ?_,by unfold upd;simp⟩
   unfold upd
   grind
theorem Yhx: ∀{ps:List (ByteArray×ν)} {us:List ν} {σ σ':Asg ν},tsM σ ps us=some σ'->leA σ σ'/\Img σ' ps us
 | [],us,σ,σ',h=>by injection h with h;subst h;exact⟨leA.refl _,trivial⟩
 |_::_,[],_,_,h=>by cases h
 |p::ps,u::us,σ,σ',h=>by
  simp only[tsM]at h
  cases h1:tmM σ p.1 p.2 u with
  |none=>simp_all
  |some σ1=>
   rw[h1]at h
   obtain⟨a1,a2⟩:=YA2 h1
   obtain⟨b1,b2⟩:=Yhx (show tsM σ1 ps us=some σ' from h)
   refine⟨a1.trans b1,?_,b2⟩
   by_cases h0:p.1=nul0
   ·simp_all
   ·rw[if_neg h0]at a2⊢;exact b1 _ _ a2
theorem Yhy: ∀{ps:List (ByteArray×ν)} {us:List ν} {σ τ:Asg ν},leA σ τ->Img τ ps us-> ∃σ',tsM σ ps us=some σ'/\leA σ' τ
 | [],us,σ,τ,h,_=>⟨σ,rfl,h⟩
 |_::_,[],_,_,_,h=>h.elim
 |p::ps,u::us,σ,τ,h,h'=>by
  have hm: ∃σ1,tmM σ p.1 p.2 u=some σ1/\leA σ1 τ:=by
   have h1:=h'.1
   unfold tmM
   by_cases h0:p.1=nul0
   ·simp_all
   ·rw[if_neg h0]at h1⊢
    cases hs:σ p.1 with
    |some w=>
     have:=h _ _ hs
     simp_all
    |none=>
     refine⟨_,rfl,fun k v e=> ?_⟩
     unfold upd at e
     by_cases hk:k=p.1
     ·simp_all
     ·rw[if_neg hk]at e;exact h k v e
  obtain⟨σ1,e1,l1⟩:=hm
  obtain⟨σ',e2,l2⟩:=Yhy l1 h'.2
  exact⟨σ',by simp only[tsM,e1];exact e2,l2⟩
end
end
end Go.Abs.G47
namespace Go.Abs.G47
open Go Go.Abs
noncomputable section
theorem YFX{A B:Type}{a:Option A}{f g:A->Option B}{y:B}(h:YG1 a f=some y)(k: ∀z,f z=some y->g z=some y):YG1 a g=some y:=by
 cases a with
 |none=>cases h
 |some z=>simp_all
theorem YEA{A B:Type}{a a':Option A}{f g:A->Option B}{y:B}(h:YG1 a f=some y)(ha: ∀z,a=some z->a'=some z)(k: ∀z,f z=some y->g z=some y):YG1 a' g=some y:=by
 cases a with
 |none=>cases h
 |some z=>simp_all
theorem chkm{B:Type}{p:Prop}[Decidable p]{a a':Option B}{y:B}(h:chk p a=some y)(k:a=some y->a'=some y):chk p a'=some y:=by
 by_cases hp:p
 ·rw[chkT _ hp]at*;grind
 ·simp[chk,hp]at h
theorem YDD{B:Type}{c:Bool}{a a' x x':Option B}{y:B}(h:(bif c then a else x)=some y)(k:a=some y->a'=some y)(k':x=some y->x'=some y):(bif c then a' else x')=some y:=by
 grind
theorem Yop{S R:Type}{s s':S->Option (S⊕R)}(h: ∀x y,s x=some y->s' x=some y){x:S}{y:R}(hy:YB5 s x=some y):YB5 s' x=some y:=by
 obtain⟨n,hn⟩:=YcO hy
 refine Yb1 (n:=n) ?_
 clear hy
 induction n generalizing x with
 |zero=>cases hn
 |succ n ih=>
  simp only[YCw]at hn⊢
  grind
theorem Ycd{α:Type}{l:List α}{n:Nat}{d:α}(h:n<l.length):l.drop n=l.getD n d::l.drop (n+1):=by
 simp_all
theorem eqT(a b:Term):(decide (a.1=b.1)&& (decide (a.2.1=b.2.1)&& (decide (a.2.2.1=b.2.2.1)&& (decide (a.2.2.2=b.2.2.2)&&true))))=decide (a=b):=by
 grind
def wfB(hd:List ByteArray)(l:List Atom):Bool:=bif decide ((l.length:Int)<1)then false else bif decide ((6:Int)< (l.length:Int))then false else
 bif anyN (fun m=> !YCd (l.getD m zA).1||badT (l.getD m zA).2) l.length 0 then false else YDh hd l
theorem YFe(l:List Term)(h:l.length<=maxEl):q76 loO l=some (badT l):=by
 have:YgV loO (l,(l.length:Int),0)=some (YBR (R:=Int⊕Unit) (fun m=>bif !YCh (l.getD m zM)then some (.inl (m:Int))else none) l.length 0 (.inr ())):=by
  refine Yam (fun n=>(l,(l.length:Int),(n:Int))) _ l.length _ rfl ?_ (fun n hn=> ?_)
  ·simp[Yer]
  ·simp only[Yer,ltI hn,cond_true,inc hn h,YHf,q74]
   rw[chkT _ (by omega),YFS,YBP,YBP]
   grind
 unfold q76 q75 badT
 rw[this,YBP,<-Yc4]
 unfold idxR
 cases YBR (R:=Int⊕Unit) (fun m=>bif !YCh (l.getD m zM)then some (.inl (m:Int))else none) l.length 0 (.inr ())<;>rfl
def fW(l:List Atom)(n:Nat):Bool:= !YCd (l.getD n zA).1||badT (l.getD n zA).2
theorem tWf(hd:List ByteArray)(l:List Atom)(hh:hd.length<=maxEl)(h2:sumT l<=maxEl):q77 loO hd l=some (wfB hd l):=by
 have hm:maxEl=1073741824:=rfl
 unfold q77 wfB
 by_cases h1:(l.length:Int)<1
 ·grind
 ·by_cases h6:(6:Int)< (l.length:Int)
  ·simp_all
  ·simp only[h1,h6,decide_false,cond_false]
   have:YgW loO (l,(l.length:Int),0,hd,l)=some (YBR (R:=Bool⊕ (List ByteArray×List Atom)) (fun m=>bif fW l m then some (.inl false)else none) l.length 0 (.inr (hd,l))):=by
    refine Yam (fun n=>(l,(l.length:Int),(n:Int),hd,l)) _ l.length _ rfl ?_ (fun n hn=> ?_)
    ·simp[Yes]
    ·have:=Ybb hn
     simp only[Yes,ltI hn,cond_true,inc hn (show l.length<=maxEl by omega),YHf]
     have hx:(l.getD n zA).2.length<=maxEl:=by omega
     rw[chkT _ (by omega),lexN,YBP,YFe _ hx,YBP]
     unfold fW
     grind
   rw[this,YBP]
   show _=some (bif anyN (fW l) l.length 0 then false else _)
   rcases YaO (f:=fun m=>bif fW l m then some (.inl false)else none) (r0:=(.inr (hd,l):Bool⊕ (List ByteArray×List Atom))) l.length 0 with⟨m,r,g1,g2,g3,g4⟩| ⟨g1,g2⟩
   ·rw[g4]
    have ha:anyN (fW l) l.length 0=true:=anyN_iff.2 ⟨m,g1,g2,by
     grind⟩
    rw[ha]
    cases hf:fW l m with
    |true=>rw[hf]at g3;injection g3 with g3;subst g3;rfl
    |false=>simp_all
   ·rw[g1]
    have ha:anyN (fW l) l.length 0=false:=by
     cases ha:anyN (fW l) l.length 0 with
     |false=>rfl
     |true=>
      obtain⟨m,m1,m2,m3⟩:=anyN_iff.1 ha
      grind
    rw[ha]
    simp only[alt2,cond_false]
    rw[YFW hd l hh (by omega) h2,YBP]
theorem rWf(hd:List ByteArray)(l:List Atom)(hh:hd.length<=maxEl)(h2:sumT l<=maxEl):q139 loO hd l=some (wfB hd l):=by
 have hm:maxEl=1073741824:=rfl
 unfold q139 wfB
 by_cases h1:(l.length:Int)<1
 ·grind
 ·by_cases h6:(6:Int)< (l.length:Int)
  ·simp_all
  ·simp only[h1,h6,decide_false,cond_false]
   have:Yhl loO (0,hd,l)=some (YBR (R:=Bool⊕ (List ByteArray×List Atom)) (fun m=>bif fW l m then some (.inl false)else none) l.length 0 (.inr (hd,l))):=by
    refine Yam (fun n=>((n:Int),hd,l)) _ l.length _ rfl ?_ (fun n hn=> ?_)
    ·simp[YeO]
    ·have:=Ybb hn
     simp only[YeO,ltI hn,cond_true,inc hn (show l.length<=maxEl by omega),YHf]
     have hx:(l.getD n zA).2.length<=maxEl:=by omega
     rw[chkT _ (by omega),chkT _ (by omega),Yhr,YBP,YFU _ _ hx,YBP]
     unfold fW
     grind
   rw[this,YBP]
   show _=some (bif anyN (fW l) l.length 0 then false else _)
   rcases YaO (f:=fun m=>bif fW l m then some (.inl false)else none) (r0:=(.inr (hd,l):Bool⊕ (List ByteArray×List Atom))) l.length 0 with⟨m,r,g1,g2,g3,g4⟩| ⟨g1,g2⟩
   ·rw[g4]
    have ha:anyN (fW l) l.length 0=true:=anyN_iff.2 ⟨m,g1,g2,by
     grind⟩
    rw[ha]
    cases hf:fW l m with
    |true=>rw[hf]at g3;injection g3 with g3;subst g3;rfl
    |false=>simp_all
   ·rw[g1]
    have ha:anyN (fW l) l.length 0=false:=by
     cases ha:anyN (fW l) l.length 0 with
     |false=>rfl
     |true=>
      obtain⟨m,m1,m2,m3⟩:=anyN_iff.1 ha
      grind
    rw[ha]
    simp only[alt2,cond_false]
    rw[YGd hd l hh (by omega) h2,YBP]
abbrev pT(l:List Term):List (ByteArray×Term):=l.map fun t=>(t.1,t)
def atG(a b:Atom)(clk:Int)(l:Ent Term):Bool×Int×Ent Term×List ByteArray:=bif !decide (a.1=b.1)then(false,clk,l,[])else bif !decide ((a.2.length:Int)=(b.2.length:Int))then(false,clk,l,[])else fitG (pT a.2) b.2 clk l []
def atM(σ:Asg Term)(a b:Atom):Option (Asg Term):=bif !decide (a.1=b.1)then none else bif !decide ((a.2.length:Int)=(b.2.length:Int))then none else tsM σ (pT a.2) b.2
theorem YA3(a b:Atom)(clk:Int){l:Ent Term}(hk:KN l):FitOk (lk l) (atM (lk l) a b) (atG a b clk l) a.2.length:=by
 have stop:FitOk (lk l) none (false,clk,l,[]) a.2.length:=⟨hk,by simp,fun _ h=>(List.not_mem_nil h).elim,fun _ _=>rfl,rfl,fun _ h=>nomatch h⟩
 unfold atM atG
 cases decide (a.1=b.1)with
 |false=>trivial
 |true=>
  cases decide ((a.2.length:Int)=(b.2.length:Int))with
  |false=>trivial
  |true=>
   have:=fit0 (ps:=pT a.2) (us:=b.2) clk hk
   simp_all
theorem YA4(ts us:List Term)(b0:ByteArray)(m2 m3:Bool)(h:ts.length=us.length)(hm:ts.length<=maxEl): ∀(k n:Nat),n+k=ts.length-> ∀(clk:Int) (l:Ent Term) (fr:List ByteArray),fr.length+k<=maxEl->
  YgZ loO (ts,(ts.length:Int),(n:Int),clk,l,m2,m3,b0,us,fr)=some (let r:=fitG ((pT ts).drop n) (us.drop n) clk l fr
   bif r.1 then .inr (r.2.1,r.2.2.1,m2,m3,r.2.2.2)else .inl (r.2.2.2,false,r.2.1,r.2.2.1,m2,m3)):=by
 have hM:maxEl=1073741824:=rfl
 intro k
 induction k with
 |zero=>
  intro n hn clk l fr hf
  show YB5 _ _=_
  rw[Yan]
  have e:n=ts.length:=by omega
  subst e
  simp only[YcX,nlI,cond_false]
  rw[YGO (by simp)]
  rfl
 |succ k ih=>
  intro n hn clk l fr hf
  have hlt:n<ts.length:=by omega
  show YB5 _ _=_
  have e1:(pT ts).drop n=((ts.getD n zM).1,ts.getD n zM)::(pT ts).drop (n+1):=by
   rw[Ycd (d:=(zM.1,zM)) (by simp_all)]
   simp_all
  rw[e1,Ycd (l:=us) (d:=zM) (by omega)]
  have key: ∀t u:Term,ts.getD n zM=t->us.getD n zM=u->YB5 (YcX loO) (ts,(ts.length:Int),(n:Int),clk,l,m2,m3,b0,us,fr)=some (let r:=fitG ((t.1,t)::(pT ts).drop (n+1)) (u::us.drop (n+1)) clk l fr
   bif r.1 then .inr (r.2.1,r.2.2.1,m2,m3,r.2.2.2)else .inl (r.2.2.2,false,r.2.1,r.2.2.1,m2,m3)):=by
   intro t u ht hu'
   rw[Yan]
   simp only[YcX,ltI hlt,cond_true,YHf,Yev,fitG,ht,hu']
   rw[chkT _ (by omega)]
   by_cases h0:t.1=nul0
   ·rw[if_pos h0]
    simp only[h0,decide_true,YHa,cond_false]
    rw[chkT _ (by omega)]
    have et:=eqT t u
    simp only[h0]at et
    rw[et]
    by_cases hu:t=u
    ·rw[if_pos hu]
     simp only[hu,decide_true,YHa,cond_false,YBP,alt2,inc hlt hm]
     exact ih (n+1) (by omega) clk l fr (by omega)
    ·rw[if_neg hu]
     simp only[hu,decide_false,YHb,cond_true,YBP,alt2]
     rfl
   ·rw[if_neg h0]
    have e0:decide (t.1=nul0)=false:=decide_eq_false h0
    simp only[e0,YHb,cond_true]
    unfold mhs mgt
    cases hf:mfd eqS t.1 l with
    |none=>
     simp
     rw[chkT _ (by omega),chkT _ (by grind),YBP]
     simp only[alt2,inc hlt hm]
     exact ih (n+1) (by omega) _ _ _ (by grind)
    |some w=>
     simp only[YHa,cond_false]
     rw[chkT _ (by omega),eqT]
     by_cases hu:w=u
     ·rw[if_pos hu]
      simp only[hu,decide_true,YHa,cond_false,YBP,alt2,inc hlt hm]
      exact ih (n+1) (by omega) clk l fr (by omega)
     ·rw[if_neg hu]
      simp only[hu,decide_false,YHb,cond_true,YBP,alt2]
      rfl
  simp_all
theorem tAt(a b:Atom)(clk:Int)(l:Ent Term)(m2 m3:Bool)(hm:a.2.length<=maxEl):q82 loO a.1 a.2 b.1 b.2 clk l m2 m3=some ((atG a b clk l).2.2.2,(atG a b clk l).1,(atG a b clk l).2.1,(atG a b clk l).2.2.1,m2,m3):=by
 unfold q82 atG
 by_cases h1:a.1=b.1
 ·by_cases h2:(a.2.length:Int)=(b.2.length:Int)
  ·simp only[h1,h2,decide_true,YHa,cond_false]
   have:=YA4 a.2 b.2 b.1 m2 m3 (by omega) hm a.2.length 0 (by omega) clk l [] (by simp_all)
   simp only[YGz,h2]at this
   rw[show((0:Nat):Int)=0 from rfl]at this
   rw[this,YBP]
   cases(fitG (pT a.2) b.2 clk l []).1<;>rfl
  simp_all
 simp_all
end
end Go.Abs.G47
namespace Go.Abs.G47
open Go Go.Abs
noncomputable section
abbrev Val:=Int×Int×ByteArray
abbrev Way:=List Int×Asg Val
def pV(l:List Term):List (ByteArray×Val):=l.map fun t=>(t.1,t.2)
theorem eqV(a b:Val):(decide (a.1=b.1)&& (decide (a.2.1=b.2.1)&& (decide (a.2.2=b.2.2)&&true)))=decide (a=b):=by
 grind
def wyM:List (List Term×Rws)->Asg Val->List Int->List Way
 | [],σ,r=>[(r,σ)]
 |q::rest,σ,r=>q.2.flatMap fun row=>match tsM σ (pV q.1) row.2 with
  |some σ'=>wyM rest σ' (r++[row.1])
  |none=>[]
def visit{E:Type}(see:Way->E->Bool×E):List Way->E->Bool×E
 | [],e=>(true,e)
 |w::ws,e=>match see w e with
  | (true,e')=>visit see ws e'
  | (false,e')=>(false,e')
theorem Yoq{E:Type}(see:Way->E->Bool×E)(b:List Way): ∀(a:List Way) (e:E),visit see (a++b) e=match visit see a e with| (true,e')=>visit see b e'| (false,e')=>(false,e')
 | [],e=>rfl
 |w::a,e=>by
  simp only[YGF,visit]
  rcases h:see w e with⟨_|_,e'⟩
  ·rfl
  ·exact Yoq see b a e'
theorem Yor{E:Type}{see:Way->E->Bool×E}{I:E->Prop}(hs: ∀w e,I e->(see w e).1=true->I (see w e).2): ∀{ws:List Way} {e:E},I e->(visit see ws e).1=true->I (visit see ws e).2
 | [],e,h,_=>h
 |w::ws,e,h,hv=>by
  have h1:=hs w e h
  simp only[visit]at hv⊢
  rcases hx:see w e with⟨_|_,e'⟩
  ·simp_all
  ·rw[hx]at hv h1;exact Yor hs (h1 rfl) hv
def PR(l:List Atom)(tb:List Tabl):List (List Term×Rws):=List.zipWith (fun a t=>(a.2,t.2.2)) l tb
theorem YA5{l:List Atom}{tb:List Tabl}(h:l.length=tb.length){n:Nat}(hn:n<l.length):(PR l tb).drop n=((l.getD n zA).2,(tb.getD n zT).2.2)::(PR l tb).drop (n+1):=by
 unfold PR
 have h2:n< (List.zipWith (fun(a:Atom) (t:Tabl)=>(a.2,t.2.2)) l tb).length:=by simp_all
 rw[List.drop_eq_getElem_cons h2]
 simp_all
theorem YA6{l:List Atom}{tb:List Tabl}(h:l.length=tb.length):(PR l tb).drop l.length=[]:=by
 apply YGO
 unfold PR;simp_all
structure TbOk(l:List Atom)(tb:List Tabl):Prop where
 len:l.length=tb.length
 sm:l.length<=6
 tl: ∀n,n<l.length->(l.getD n zA).2.length<=maxEl
 rl: ∀n,n<l.length->(tb.getD n zT).2.2.length<=maxEl
 ar: ∀n,n<l.length-> ∀row∈ (tb.getD n zT).2.2,row.2.length=(l.getD n zA).2.length
end
end Go.Abs.G47
namespace Go.Abs.G47
open Go Go.Abs
noncomputable section
abbrev E:=Int×Ent Vals×Bool
abbrev RRec:=Int×List ByteArray×List Atom×List Tabl×Int×Ent Val×Bool×Bool×List Int×Int×Ent Vals×Bool->Option (Bool×List ByteArray×List Atom×List Tabl×Int×Ent Val×Bool×Bool×Int×Ent Vals×Bool×List Int)
theorem YA7(ts:List Term)(us:Vals)(r0:Int)(hd:List ByteArray)(l0:List Atom)(tb:List Tabl)(m2 m3:Bool)(rs:List Int)(e:E)(h:us.length=ts.length)(hm:ts.length<=maxEl): ∀(k n:Nat),n+k=ts.length-> ∀(clk:Int) (l:Ent Val) (fr:List ByteArray),fr.length+k<=maxEl->
  YgL loO (ts,(ts.length:Int),(n:Int),hd,l0,tb,clk,l,m2,m3,rs,e.1,e.2.1,e.2.2,r0,us,fr)=some (let r:=fitG ((pV ts).drop n) (us.drop n) clk l fr
   bif r.1 then .inr (hd,l0,tb,r.2.1,r.2.2.1,m2,m3,rs,e.1,e.2.1,e.2.2,r.2.2.2)else .inl (false,hd,l0,tb,r.2.1,r.2.2.1,m2,m3,rs,e.1,e.2.1,e.2.2,r.2.2.2)):=by
 have hM:maxEl=1073741824:=rfl
 intro k
 induction k with
 |zero=>
  intro n hn clk l fr hf
  show YB5 _ _=_
  rw[Yan]
  have e:n=ts.length:=by omega
  subst e
  simp only[YcQ,nlI,cond_false]
  rw[YGO (by unfold pV;simp)]
  rfl
 |succ k ih=>
  intro n hn clk l fr hf
  have hlt:n<ts.length:=by omega
  show YB5 _ _=_
  have e1:(pV ts).drop n=((ts.getD n zM).1,(ts.getD n zM).2)::(pV ts).drop (n+1):=by
   unfold pV
   rw[Ycd (d:=(zM.1,zM.2)) (by simp_all)]
   simp
  rw[e1,Ycd (l:=us) (d:=zV) (by omega)]
  have key: ∀(t:Term) (u:Val),ts.getD n zM=t->us.getD n zV=u->YB5 (YcQ loO) (ts,(ts.length:Int),(n:Int),hd,l0,tb,clk,l,m2,m3,rs,e.1,e.2.1,e.2.2,r0,us,fr)=some (let r:=fitG ((t.1,t.2)::(pV ts).drop (n+1)) (u::us.drop (n+1)) clk l fr
   bif r.1 then .inr (hd,l0,tb,r.2.1,r.2.2.1,m2,m3,rs,e.1,e.2.1,e.2.2,r.2.2.2)else .inl (false,hd,l0,tb,r.2.1,r.2.2.1,m2,m3,rs,e.1,e.2.1,e.2.2,r.2.2.2)):=by
   intro t u ht hu'
   rw[Yan]
   simp only[YcQ,ltI hlt,cond_true,YHf,Yel,fitG,ht,hu']
   rw[chkT _ (by omega)]
   by_cases h0:t.1=nul0
   ·rw[if_pos h0]
    simp only[h0,decide_true,YHa,cond_false]
    rw[chkT _ (by omega),eqV t.2 u]
    by_cases hu:t.2=u
    ·rw[if_pos hu]
     simp only[hu,decide_true,YHa,cond_false,YBP,alt2,inc hlt hm]
     exact ih (n+1) (by omega) clk l fr (by omega)
    ·rw[if_neg hu]
     simp only[hu,decide_false,YHb,cond_true,YBP,alt2]
     rfl
   ·rw[if_neg h0]
    have e0:decide (t.1=nul0)=false:=decide_eq_false h0
    simp only[e0,YHb,cond_true]
    unfold mhs mgt
    cases hf:mfd eqS t.1 l with
    |none=>
     simp
     rw[chkT _ (by omega),chkT _ (by grind),YBP]
     simp only[alt2,inc hlt hm]
     exact ih (n+1) (by omega) _ _ _ (by grind)
    |some w=>
     simp only[YHa,cond_false]
     rw[chkT _ (by omega),eqV w u]
     by_cases hu:w=u
     ·rw[if_pos hu]
      simp only[hu,decide_true,YHa,cond_false,YBP,alt2,inc hlt hm]
      exact ih (n+1) (by omega) clk l fr (by omega)
     ·rw[if_neg hu]
      simp only[hu,decide_false,YHb,cond_true,YBP,alt2]
      rfl
  simp_all
theorem fit(a0:ByteArray)(ts:List Term)(us:Vals)(r0:Int)(hd:List ByteArray)(l0:List Atom)(tb:List Tabl)(m2 m3:Bool)(rs:List Int)(e:E)(clk:Int)(l:Ent Val)(h:us.length=ts.length)(hm:ts.length<=maxEl):
  q49 loO a0 ts r0 us hd l0 tb clk l m2 m3 rs e.1 e.2.1 e.2.2=some ((fitG (pV ts) us clk l []).1,hd,l0,tb,(fitG (pV ts) us clk l []).2.1,(fitG (pV ts) us clk l []).2.2.1,m2,m3,rs,e.1,e.2.1,e.2.2,(fitG (pV ts) us clk l []).2.2.2):=by
 unfold q49
 have:=YA7 ts us r0 hd l0 tb m2 m3 rs e h hm ts.length 0 (by omega) clk l [] (by simp_all)
 rw[YGz,YGz,show((0:Nat):Int)=0 from rfl]at this
 rw[this,YBP]
 generalize fitG (pV ts) us clk l []=r
 obtain⟨_|_,r⟩:=r<;>rfl
theorem delR(rec:RRec)(i n m:Int)(on:Bool)(R:Rws)(fr:List ByteArray)(hd:List ByteArray)(l0:List Atom)(tb:List Tabl)(clk:Int)(l:Ent Val)(m2 m3:Bool)(rs:List Int)(e:E)(h:fr.length<=maxEl):
  Yen loO rec (i,on,R,n,m,(fr.length:Int),0,hd,l0,tb,clk,l,m2,m3,e.1,e.2.1,e.2.2,fr,rs)=some (i,on,R,n,m,hd,l0,tb,clk,delG l fr,m2,m3,e.1,e.2.1,e.2.2,rs):=by
 refine Yao (st:=fun j=>(i,on,R,n,m,(fr.length:Int),(j:Int),hd,l0,tb,clk,delG l (fr.take j),m2,m3,e.1,e.2.1,e.2.2,fr,rs)) (N:=fr.length) rfl ?_ (fun j hj=> ?_)
 ·simp only[Yem,nlI,cond_false,YGt]
 ·simp only[Yem,ltI hj,cond_true,inc hj h,YHf]
  rw[chkT _ (by omega)]
  have e:delG l (fr.take (j+1))=mdl eqS (fr.getD j nul0) (delG l (fr.take j)):=Ycb (fun l k=>mdl eqS k l) l (d:=nul0) hj
  rw[e]
section
variable{see:Way->E->Bool×E}{I:E->Prop}{J:Asg Val->Prop}{hd:List ByteArray}{l0:List Atom}{tb:List Tabl}{m2 m3:Bool}
theorem YA8(hI: ∀w e,I e->(see w e).1=true->I (see w e).2)(ok:TbOk l0 tb)(hJ: ∀i,i<l0.length-> ∀row∈ (tb.getD i zT).2.2,∀σ σ',J σ->tsM σ (pV (l0.getD i zA).2) row.2=some σ'->J σ')(rec:RRec){i:Nat}(hi:i<l0.length)(rs:List Int)(hr:rs.length=i)
  (hrec: ∀clk (l:Ent Val) id e,KN l->J (lk l)->I e-> ∃clk' l',rec (((i+1:Nat):Int),hd,l0,tb,clk,l,m2,m3,rs++[id],e.1,e.2.1,e.2.2)=some ((visit see (wyM ((PR l0 tb).drop (i+1)) (lk l) (rs++[id])) e).1,hd,l0,tb,clk',l',m2,m3,(visit see (wyM ((PR l0 tb).drop (i+1)) (lk l) (rs++[id])) e).2.1,(visit see (wyM ((PR l0 tb).drop (i+1)) (lk l) (rs++[id])) e).2.2.1,(visit see (wyM ((PR l0 tb).drop (i+1)) (lk l) (rs++[id])) e).2.2.2,rs++[id])/\KN l'/\lk l'=lk l) (σ:Asg Val) (hσ:J σ):
  ∀(k n:Nat),n+k=(tb.getD i zT).2.2.length-> ∀clk (l:Ent Val) e,KN l->lk l=σ->I e-> ∃clk' l',KN l'/\lk l'=σ/\YcR loO rec ((i:Int),(tb.getD i zT).2.2,((tb.getD i zT).2.2.length:Int),(n:Int),hd,l0,tb,clk,l,m2,m3,e.1,e.2.1,e.2.2,rs)=some (
   match visit see (((tb.getD i zT).2.2.drop n).flatMap fun row=>match tsM σ (pV (l0.getD i zA).2) row.2 with|some σ'=>wyM ((PR l0 tb).drop (i+1)) σ' (rs++[row.1])|none=>[]) e with
   | (true,e)=>.inr (hd,l0,tb,clk',l',m2,m3,e.1,e.2.1,e.2.2,rs)
   | (false,e)=>.inl (false,hd,l0,tb,clk',l',m2,m3,e.1,e.2.1,e.2.2,rs)):=by
 have hM:maxEl=1073741824:=rfl
 have hT:=ok.tl i hi
 have hR:=ok.rl i hi
 have hA:=ok.ar i hi
 have hJi:=hJ i hi
 have hS:=ok.sm
 generalize(tb.getD i zT).2.2=R at*
 intro k
 induction k with
 |zero=>
  intro n hn clk l e hk hl he
  refine⟨clk,l,hk,hl,?_⟩
  have en:n=R.length:=by omega
  subst en
  rw[YGO (YGQ _)]
  show YB5 _ _=_
  rw[Yan]
  simp only[Yb3,nlI,cond_false]
  rfl
 |succ k ih=>
  intro n hn clk l e hk hl he
  have hlt:n<R.length:=by omega
  rw[Ycd (d:=zR) hlt,List.flatMap_cons,Yoq]
  have hrow:=hA _ (Yaj (d:=zR) hlt)
  have hJr:=hJi _ (Yaj (d:=zR) hlt)
  generalize hq:R.getD n zR=row at*
  have hF:=fit0 (ps:=pV (l0.getD i zA).2) (us:=row.2) clk hk
  rw[hl]at hF
  have hfl:(fitG (pV (l0.getD i zA).2) row.2 clk l []).2.2.2.length<=maxEl:=by
   have:=hF.len;unfold pV at this;rw[YGy]at this;exact YGU this hT
  have hf:=fit (l0.getD i zA).1 (l0.getD i zA).2 row.2 row.1 hd l0 tb m2 m3 rs e clk l hrow hT
  have step: ∀s',Yb3 loO rec ((i:Int),R,(R.length:Int),(n:Int),hd,l0,tb,clk,l,m2,m3,e.1,e.2.1,e.2.2,rs)=s'->YcR loO rec ((i:Int),R,(R.length:Int),(n:Int),hd,l0,tb,clk,l,m2,m3,e.1,e.2.1,e.2.2,rs)=(match s' with|some (.inl s)=>YcR loO rec s|some (.inr x)=>some x|none=>none):=by
   intro s' hs;subst hs
   show YB5 _ _=_
   rw[Yan]
   rcases Yb3 loO rec ((i:Int),R,(R.length:Int),(n:Int),hd,l0,tb,clk,l,m2,m3,e.1,e.2.1,e.2.2,rs)with _| (_|_)<;>rfl
  have nx:YHl .i64 ((n:Int)+1)=((n+1:Nat):Int):=inc hlt hR
  have ix:YHl .i64 ((i:Int)+1)=((i+1:Nat):Int):=inc hi (by omega)
  have tk: ∀id:Int,(rs++[id]).take i=rs:=fun id=>by rw[<-hr];simp
  simp only[Yb3,ltI hlt,cond_true,YHf,hq]at step
  rw[chkT _ (by omega),chkT _ (by omega),hf,YBP]at step
  dsimp only at step
  rw[chkT _ rfl,chkT _ rfl,chkT _ (by rw[List.length_singleton];omega),hF.ok]at step
  cases hx:tsM σ (pV (l0.getD i zA).2) row.2 with
  |none=>
   rw[hx]at step
   simp only[Option.isSome_none,YHb,cond_true]at step
   rw[chkT _ (by simp;omega),tk,delR _ _ _ _ _ _ _ _ _ _ _ _ _ _ _ e hfl,YBP]at step
   simp only[YHa,cond_false,nx]at step
   obtain⟨d1,d2⟩:=YeY hF.kn hF.new hF.old
   obtain⟨clk',l',k1,k2,k3⟩:=ih (n+1) (by omega) (fitG (pV (l0.getD i zA).2) row.2 clk l []).2.1 _ e d1 d2 he
   refine⟨clk',l',k1,k2,?_⟩
   rw[step _ rfl]
   exact k3
  |some σ1=>
   rw[hx]at step
   simp only[Option.isSome_some,YHa,cond_false,ix]at step
   obtain⟨c2,l2,r1,r2,r3⟩:=hrec (fitG (pV (l0.getD i zA).2) row.2 clk l []).2.1 _ row.1 e hF.kn (by rw[hF.val σ1 hx];exact hJr σ σ1 hσ hx) he
   rw[r1,YBP,hF.val σ1 hx]at step
   rw[hF.val σ1 hx]at r3
   dsimp only at step
   obtain⟨d1,d2⟩:=YeY (σ0:=σ) r2 hF.new (by rw[r3,<-hF.val σ1 hx];exact hF.old)
   have hv:=Yor (see:=see) hI (ws:=wyM ((PR l0 tb).drop (i+1)) σ1 (rs++[row.1])) he
   rcases hvv:visit see (wyM ((PR l0 tb).drop (i+1)) σ1 (rs++[row.1])) e with⟨_|_,e'⟩
   ·rw[hvv]at step
    rw[chkT _ rfl,chkT _ (by simp;omega),tk,delR _ _ _ _ _ _ _ _ _ _ _ _ _ _ _ e' hfl,YBP]at step
    simp only[YHb,cond_true]at step
    exact⟨c2,_,d1,d2,by rw[step _ rfl]⟩
   ·rw[hvv]at step hv
    rw[chkT _ rfl,chkT _ (by simp;omega),tk,delR _ _ _ _ _ _ _ _ _ _ _ _ _ _ _ e' hfl,YBP]at step
    simp only[YHa,cond_false,nx]at step
    obtain⟨clk',l',k1,k2,k3⟩:=ih (n+1) (by omega) c2 _ e' d1 d2 (hv rfl)
    refine⟨clk',l',k1,k2,?_⟩
    rw[step _ rfl]
    exact k3
theorem YA9(hI: ∀w e,I e->(see w e).1=true->I (see w e).2)(ok:TbOk l0 tb)(hJ: ∀i,i<l0.length-> ∀row∈ (tb.getD i zT).2.2,∀σ σ',J σ->tsM σ (pV (l0.getD i zA).2) row.2=some σ'->J σ')
  (hsee: ∀(clk:Int) (l:Ent Val) (rs:List Int) (e:E),rs.length<=6->KN l->J (lk l)->I e->q48 loO hd l0 e.1 e.2.1 e.2.2 tb clk l m2 m3 rs=some ((see (rs,lk l) e).1,hd,l0,(see (rs,lk l) e).2.1,(see (rs,lk l) e).2.2.1,(see (rs,lk l) e).2.2.2,tb,clk,l,m2,m3,rs)) (j:Nat):
  ∀(k i:Nat),i+k=l0.length-> ∀clk (l:Ent Val) rs e,rs.length=i->KN l->J (lk l)->I e-> ∃clk' l',YaX loO (k+1+j) ((i:Int),hd,l0,tb,clk,l,m2,m3,rs,e.1,e.2.1,e.2.2)=some ((visit see (wyM ((PR l0 tb).drop i) (lk l) rs) e).1,hd,l0,tb,clk',l',m2,m3,(visit see (wyM ((PR l0 tb).drop i) (lk l) rs) e).2.1,(visit see (wyM ((PR l0 tb).drop i) (lk l) rs) e).2.2.1,(visit see (wyM ((PR l0 tb).drop i) (lk l) rs) e).2.2.2,rs)/\KN l'/\lk l'=lk l:=by
 intro k
 have hS:=ok.sm
 induction k with
 |zero=>
  intro i hi clk l rs e hr hk hj he
  have en:i=l0.length:=by omega
  subst en
  refine⟨clk,l,?_,hk,rfl⟩
  rw[show 0+1+j=j+1 by omega]
  show Yb4 loO (YaX loO j) _ _ _ _ _ _ _ _ _ _ _ _=_
  unfold Yb4
  rw[cT _ _ rfl]
  rw[hsee clk l rs e (by omega) hk hj he,YBP,YA6 ok.len]
  dsimp only
  rw[chkT _ rfl,chkT _ rfl]
  simp only[wyM,visit]
  grind
 |succ k ih=>
  intro i hi clk l rs e hr hk hj he
  have hlt:i<l0.length:=by omega
  rw[show k+1+1+j=(k+1+j)+1 by omega]
  show∃clk' l',Yb4 loO (YaX loO (k+1+j)) _ _ _ _ _ _ _ _ _ _ _ _=_/\_
  unfold Yb4
  have e0:decide ((i:Int)=(l0.length:Int))=false:=by grind
  have hl:=ok.len
  simp only[e0,cond_false,YHf]
  rw[chkT _ (by omega)]
  obtain⟨clk',l',k1,k2,k3⟩:=YA8 hI ok hJ (YaX loO (k+1+j)) hlt rs hr (fun clk l id e hk hj he=>ih (i+1) (by omega) clk l (rs++[id]) e (by simp_all) hk hj he) (lk l) hj (tb.getD i zT).2.2.length 0 (by omega) clk l e hk rfl he
  rw[show((0:Nat):Int)=0 from rfl,YGz]at k3
  refine⟨clk',l',?_,k1,k2⟩
  rw[k3,YBP,YA5 hl hlt]
  simp only[wyM]
  generalize visit see ((tb.getD i zT).2.2.flatMap fun row=>match tsM (lk l) (pV (l0.getD i zA).2) row.2 with|some σ'=>wyM ((PR l0 tb).drop (i+1)) σ' (rs++[row.1])|none=>[]) e=q
  obtain⟨_|_,e'⟩:=q<;>rfl
theorem Yos: ∀n x y,YaX loO n x=some y->YaX loO (n+1) x=some y
 |0,_,_,h=>by cases h
 |n+1,x,y,h=>by
  have ih:=Yos n
  have h':Yb4 loO (YaX loO n) x.1 x.2.1 x.2.2.1 x.2.2.2.1 x.2.2.2.2.1 x.2.2.2.2.2.1 x.2.2.2.2.2.2.1 x.2.2.2.2.2.2.2.1 x.2.2.2.2.2.2.2.2.1 x.2.2.2.2.2.2.2.2.2.1 x.2.2.2.2.2.2.2.2.2.2.1 x.2.2.2.2.2.2.2.2.2.2.2=some y:=h
  refine YDD h' (fun h=>h) fun h=>chkm h fun h=>YEA h (fun z hz=> ?_) fun _ h=>h
  refine Yop (fun s q hs=> ?_) hz
  exact YDD hs (fun h=>chkm h fun h=>chkm h fun h=>YFX h fun _ h=>chkm h fun h=>chkm h fun h=>chkm h fun h=>YDD h (fun h=>h) fun h=>YEA h (ih _) fun _ h=>h) fun h=>h
theorem run(hI: ∀w e,I e->(see w e).1=true->I (see w e).2)(ok:TbOk l0 tb)(hJ: ∀i,i<l0.length-> ∀row∈ (tb.getD i zT).2.2,∀σ σ',J σ->tsM σ (pV (l0.getD i zA).2) row.2=some σ'->J σ')
  (hsee: ∀(clk:Int) (l:Ent Val) (rs:List Int) (e:E),rs.length<=6->KN l->J (lk l)->I e->q48 loO hd l0 e.1 e.2.1 e.2.2 tb clk l m2 m3 rs=some ((see (rs,lk l) e).1,hd,l0,(see (rs,lk l) e).2.1,(see (rs,lk l) e).2.2.1,(see (rs,lk l) e).2.2.2,tb,clk,l,m2,m3,rs)) (clk:Int) (l:Ent Val) (e:E) (hk:KN l) (hj:J (lk l)) (he:I e):
  ∃clk' l',q50 loO 0 hd l0 tb clk l m2 m3 [] e.1 e.2.1 e.2.2=some ((visit see (wyM (PR l0 tb) (lk l) []) e).1,hd,l0,tb,clk',l',m2,m3,(visit see (wyM (PR l0 tb) (lk l) []) e).2.1,(visit see (wyM (PR l0 tb) (lk l) []) e).2.2.1,(visit see (wyM (PR l0 tb) (lk l) []) e).2.2.2,[]):=by
 obtain⟨clk',l',h1,_⟩:=YA9 hI ok hJ hsee 0 l0.length 0 (by omega) clk l [] e rfl hk hj he
 exact⟨clk',l',Ygi Yos (n:=0) (by rw[YGW];exact h1)⟩
end
end
end Go.Abs.G47
namespace Go.Abs.G47
open Go Go.Abs
noncomputable section
def SzV(l:Vals):Prop:=l.length<=maxEl/\ ∀v∈l,v.2.2.size<=maxEl
def sg(a b:Int):Int:=bif decide (a<b)then-1 else bif decide (b<a)then 1 else 0
theorem YeZ(a b:Int):q124 loO a b=some (sg a b):=by
 unfold q124 sg
 grind
theorem sg_zero{a b:Int}:sg a b=0↔a=b:=by
 unfold sg
 grind
def fS(a b:ByteArray)(n:Nat):Option (Int⊕ (ByteArray×ByteArray)):=bif !decide (YBQ a n=YBQ b n)then some (.inl (sg (YBQ a n) (YBQ b n)))else none
def cmpS(a b:ByteArray):Int:=match YBR (fS a b) (min a.size b.size) 0 (.inr (a,b))with
 | .inl i=>i
 | .inr _=>sg a.size b.size
theorem YBa(a b:ByteArray)(ha:a.size<=maxEl)(hb:b.size<=maxEl):q125 loO a b=some (cmpS a b):=by
 have hm:maxEl=1073741824:=rfl
 have hL:Yhi loO (a,b,0)=some (YBR (fS a b) (min a.size b.size) 0 (.inr (a,b))):=by
  refine Yam (fun n=>(a,b,(n:Int))) _ (min a.size b.size) _ rfl ?_ (fun n hn=> ?_)
  ·rcases Nat.le_total a.size b.size with h|h
   ·rw[Nat.min_eq_left h];simp[Yc2]
   ·rw[Nat.min_eq_right h]
    have e:decide ((b.size:Int)< (b.size:Int))=false:=by simp
    simp only[Yc2,e,cond_false]
    simp
  ·have e1:decide ((n:Int)< (a.size:Int))=true:=by grind
   have e1':decide ((n:Int)< (b.size:Int))=true:=by grind
   have e2:YHl .i64 ((n:Int)+1)=((n+1:Nat):Int):=by rw[wr6 (by omega) (by omega)];omega
   have r1:=Yho a n
   have r2:=Yho b n
   simp only[Yc2,e1,e1',cond_true,e2,YeZ,YBP,wr6 (show-9223372036854775808<=YBQ a n by omega) (by omega),wr6 (show-9223372036854775808<=YBQ b n by omega) (by omega)]
   rw[chkT _ (by omega),chkT _ (by omega),chkT _ (by omega),chkT _ (by omega)]
   unfold fS
   grind
 unfold q125 cmpS
 rw[hL,YBP]
 rcases YaO (f:=fS a b) (r0:=.inr (a,b)) (min a.size b.size) 0 with⟨m,r,h1,h2,h3,h4⟩| ⟨h1,h2⟩
 ·rw[h4]
  unfold fS at h3
  cases hd:decide (YBQ a m=YBQ b m)with
  |true=>simp_all
  |false=>rw[hd]at h3;injection h3 with h3;subst h3;rfl
 ·rw[h1];simp only[alt2,YeZ,YBP]
theorem YBb{a b:ByteArray}:cmpS a b=0↔a=b:=by
 unfold cmpS
 rcases YaO (f:=fS a b) (r0:=.inr (a,b)) (min a.size b.size) 0 with⟨m,r,h1,h2,h3,h4⟩| ⟨h1,h2⟩
 ·rw[h4]
  unfold fS at h3
  by_cases hd:YBQ a m=YBQ b m
  ·simp_all
  ·simp[hd]at h3
   subst h3
   rw[sg_zero]
   grind
 ·rw[h1]
  simp only[sg_zero]
  constructor
  ·intro h
   have hs:a.size=b.size:=by omega
   refine YAK hs (fun n hn=> ?_)
   have:=h2 n (by omega) (by omega)
   unfold fS at this
   grind
  simp_all
def cmpV(v w:Int×Int×ByteArray):Int:=bif !decide (sg v.1 w.1=0)then sg v.1 w.1 else bif !decide (sg v.2.1 w.2.1=0)then sg v.2.1 w.2.1 else cmpS v.2.2 w.2.2
theorem YBc(v w:Int×Int×ByteArray)(hv:v.2.2.size<=maxEl)(hw:w.2.2.size<=maxEl):q126 loO v.1 v.2.1 v.2.2 w.1 w.2.1 w.2.2=some (cmpV v w):=by
 unfold q126 cmpV
 simp only[YeZ,YBP,YBa _ _ hv hw]
 grind
theorem cmpV_zero{v w:Int×Int×ByteArray}:cmpV v w=0↔v=w:=by
 obtain⟨a,b,c⟩:=v
 obtain⟨a',b',c'⟩:=w
 unfold cmpV
 by_cases h1:sg a a'=0
 ·by_cases h2:sg b b'=0
  ·simp only[h1,h2,decide_true,YHa,cond_false,YBb]
   rw[sg_zero]at h1 h2
   simp_all
  ·simp only[h1,h2,decide_true,decide_false,YHa,YHb,cond_false,cond_true]
   refine⟨fun h=>h.elim,fun h=> ?_⟩
   injection h with _ h;injection h with h _
   exact h2 (sg_zero.2 h)
 ·simp only[h1,decide_false,YHb,cond_true]
  refine⟨fun h=>h.elim,fun h=> ?_⟩
  injection h with h _
  exact h1 (sg_zero.2 h)
def fL(a b:Vals)(n:Nat):Option (Int⊕ (Vals×Vals)):=bif !decide (cmpV (a.getD n zV) (b.getD n zV)=0)then some (.inl (cmpV (a.getD n zV) (b.getD n zV)))else none
def cmpL(a b:Vals):Int:=match YBR (fL a b) (min a.length b.length) 0 (.inr (a,b))with
 | .inl i=>i
 | .inr _=>sg a.length b.length
theorem YBd(a b:Vals)(ha:SzV a)(hb:SzV b):q133 loO a b=some (cmpL a b):=by
 have hm:maxEl=1073741824:=rfl
 have hbl:=hb.1
 have hL:Yhj loO (a,b,0)=some (YBR (fL a b) (min a.length b.length) 0 (.inr (a,b))):=by
  refine Yam (fun n=>(a,b,(n:Int))) _ (min a.length b.length) _ rfl ?_ (fun n hn=> ?_)
  ·rcases Nat.le_total a.length b.length with h|h
   ·rw[Nat.min_eq_left h];simp[Yc3]
   ·rw[Nat.min_eq_right h]
    have e:decide ((b.length:Int)< (b.length:Int))=false:=by simp
    simp only[Yc3,e,cond_false]
    simp
  ·have e1:decide ((n:Int)< (a.length:Int))=true:=by grind
   have e1':decide ((n:Int)< (b.length:Int))=true:=by grind
   have e2:YHl .i64 ((n:Int)+1)=((n+1:Nat):Int):=by rw[wr6 (by omega) (by omega)];omega
   have q1:=ha.2 (a.getD n zV) (Yaj (by omega))
   have q2:=hb.2 (b.getD n zV) (Yaj (by omega))
   simp only[Yc3,e1,e1',cond_true,e2,YHf]
   rw[chkT _ (by omega),chkT _ (by omega),YBc _ _ q1 q2,YBP]
   unfold fL
   grind
 unfold q133 cmpL
 rw[hL,YBP]
 rcases YaO (f:=fL a b) (r0:=.inr (a,b)) (min a.length b.length) 0 with⟨m,r,h1,h2,h3,h4⟩| ⟨h1,h2⟩
 ·rw[h4]
  unfold fL at h3
  cases hd:decide (cmpV (a.getD m zV) (b.getD m zV)=0)with
  |true=>simp_all
  |false=>rw[hd]at h3;injection h3 with h3;subst h3;rfl
 ·rw[h1];simp only[alt2,YeZ,YBP]
theorem cmpL_zero{a b:Vals}:cmpL a b=0↔a=b:=by
 unfold cmpL
 rcases YaO (f:=fL a b) (r0:=.inr (a,b)) (min a.length b.length) 0 with⟨m,r,h1,h2,h3,h4⟩| ⟨h1,h2⟩
 ·rw[h4]
  unfold fL at h3
  by_cases hd:cmpV (a.getD m zV) (b.getD m zV)=0
  ·simp_all
  ·rw[decide_eq_false hd]at h3;injection h3 with h3
   subst h3
   exact⟨fun h=>absurd h hd,fun h=>by subst h;exact absurd (cmpV_zero.2 rfl) hd⟩
 ·rw[h1]
  simp only[sg_zero]
  constructor
  ·intro h
   have hs:a.length=b.length:=by omega
   refine Yoe (d:=zV) hs (fun n hn=> ?_)
   have:=h2 n (by omega) (by omega)
   unfold fL at this
   by_cases hd:cmpV (a.getD n zV) (b.getD n zV)=0
   ·exact cmpV_zero.1 hd
   simp_all
  simp_all
theorem YBe(a b:Vals)(ha:SzV a)(hb:SzV b):q134 loO a b=some (decide (a=b)):=by
 unfold q134
 rw[YBd a b ha hb,YBP]
 have:decide (cmpL a b=0)=decide (a=b):=by rw[decide_eq_decide];exact cmpL_zero
 grind
end
end Go.Abs.G47
namespace Go.Abs.G47
open Go Go.Abs
noncomputable section
def cl:List UInt8->List UInt8->Int
 | [],[]=>0
 | [],_::_=> -1
 |_::_,[]=>1
 |x::a,y::b=>if x.toNat<y.toNat then-1 else if y.toNat<x.toNat then 1 else cl a b
theorem Yce: ∀a:List UInt8,cl a a=0
 | []=>rfl
 |x::a=>by simp[cl,Yce a]
theorem Yot: ∀{a b:List UInt8},cl a b=0->a=b
 | [],[],_=>rfl
 | [],_::_,h=>by trivial
 |_::_,[],h=>by simp[cl]at h
 |x::a,y::b,h=>by
  simp only[cl]at h
  split at h
  ·omega
  ·split at h
   ·omega
   ·have:x=y:=UInt8.toNat_inj.1 (by omega)
    rw[this,Yot h]
theorem YBf(p:List UInt8)(s t:List UInt8):cl (p++s) (p++t)=cl s t:=by
 induction p with
 |nil=>rfl
 |cons x p ih=>simp[cl,ih]
theorem Ye0: ∀a b:List UInt8,le8 a b=decide (cl a b<=0)
 | [],b=>by cases b<;>rfl
 |_::_,[]=>rfl
 |x::a,y::b=>by
  simp only[le8,cl]
  by_cases h1:x.toNat<y.toNat
  ·simp_all
  ·have h1':YGS x.toNat y.toNat=false:=by rw[<-YHe];simp_all
   by_cases h2:y.toNat<x.toNat
   ·have:YGS y.toNat x.toNat=true:=by simp_all
    grind
   ·have h2':YGS y.toNat x.toNat=false:=by grind
    simp[h1,h1',h2,h2',Ye0 a b]
def esc:List UInt8->List UInt8
 | []=>[]
 |b::r=>(if b.toNat=0 then[0,255]else[b])++esc r
theorem You: ∀(x y s t:List UInt8),cl (esc x++([0,1]++s)) (esc y++([0,1]++t))=if cl x y=0 then cl s t else cl x y
 | [],[],s,t=>by rfl
 | [],b::y,s,t=>by
   simp only[esc]
   by_cases h:b.toNat=0
   ·simp[h,cl]
   ·have:0<b.toNat:=by omega
    simp[h,cl,this]
 |a::x,[],s,t=>by
  simp only[esc]
  by_cases h:a.toNat=0
  ·simp[h,cl]
  ·have:0<a.toNat:=by omega
   simp[h,cl,this]
 |a::x,b::y,s,t=>by
  have ih:=You x y s t
  by_cases h1:a.toNat<b.toNat
  ·have hb:b.toNat≠0:=by omega
   by_cases ha:a.toNat=0
   ·have:0<b.toNat:=by omega
    simp[esc,ha,hb,cl,this]
   ·simp[esc,ha,hb,cl,h1]
  ·by_cases h2:b.toNat<a.toNat
   ·have ha:a.toNat≠0:=by omega
    by_cases hb:b.toNat=0
    ·have:0<a.toNat:=by omega
     simp[esc,ha,hb,cl,this]
    ·simp[esc,ha,hb,cl,h1,h2]
   ·have:a=b:=UInt8.toNat_inj.1 (by omega)
    subst this
    have e:cl (a::x) (a::y)=cl x y:=by simp[cl]
    rw[e,<-ih]
    simp only[esc,YGw]
    exact YBf _ _ _
def be:Nat->Nat->List UInt8
 |0,_=>[]
 |k+1,n=>UInt8.ofNat (n/256^k % 256)::be k n
theorem Ye1: ∀(k n:Nat),be k n=be k (n % 256^k)
 |0,n=>rfl
 |k+1,n=>by
  have h1:n % 256^(k+1)/256^k % 256=n/256^k % 256:=by
   rw[Nat.pow_succ,Nat.mod_mul_right_div_self,Nat.mod_mod]
  have h2:n % 256^(k+1) % 256^k=n % 256^k:=Nat.mod_mod_of_dvd _ (Nat.pow_dvd_pow 256 (Nat.le_succ k))
  simp only[be]
  rw[h1,Ye1 k n,Ye1 k (n % 256^(k+1)),h2]
theorem Yov: ∀(k m n:Nat) (s t:List UInt8),m<256^k->n<256^k->cl (be k m++s) (be k n++t)=if m<n then-1 else if n<m then 1 else cl s t
 |0,m,n,s,t,hm,hn=>by
  simp at hm hn;subst hm;subst hn;rfl
 |k+1,m,n,s,t,hm,hn=>by
  have hp:0<256^k:=Nat.pow_pos (by decide)
  rw[Nat.pow_succ]at hm hn
  have qm:m/256^k<256:=Nat.div_lt_of_lt_mul hm
  have qn:n/256^k<256:=Nat.div_lt_of_lt_mul hn
  have em:=Nat.div_add_mod m (256^k)
  have en:=Nat.div_add_mod n (256^k)
  have lm:=Nat.mod_lt m hp
  have ln:=Nat.mod_lt n hp
  have tm:(UInt8.ofNat (m/256^k % 256)).toNat=m/256^k:=by simp_all
  have tn:(UInt8.ofNat (n/256^k % 256)).toNat=n/256^k:=by simp_all
  simp only[be,YGF,cl,tm,tn]
  have mono: ∀{a b c d:Nat},a<b->c<256^k->256^k*a+c<256^k*b+d:=fun{a b c d} h1 h2=>by
   have:256^k*(a+1)<=256^k*b:=Nat.mul_le_mul_left _ h1
   grind
  by_cases h1:m/256^k<n/256^k
  ·grind
  ·by_cases h2:n/256^k<m/256^k
   ·grind
   ·have e:m/256^k=n/256^k:=by omega
    simp only[h1,h2,if_false]
    rw[Ye1 k m,Ye1 k n,Yov k _ _ s t lm ln]
    grind
theorem Ycf(a b:ByteArray):bl (a++b)=bl a++bl b:=by rfl
theorem Ybc(l:List Int):bl (YBU l)=l.map fun n=>UInt8.ofNat n.toNat:=by rfl
theorem Ye2(s:ByteArray)(n:Nat):YBQ s n=(((s.data.getD n 0).toNat:Nat):Int):=by rfl
theorem YBg(x y:ByteArray):cmpS x y=cl (bl x) (bl y):=by
 have key: ∀k n,n+k=min x.size y.size->(match YBR (fS x y) k n (.inr (x,y))with| .inl i=>i| .inr _=>sg x.size y.size)=cl ((bl x).drop n) ((bl y).drop n):=by
  intro k
  induction k with
  |zero=>
   intro n hn
   simp only[YBR]
   rcases Nat.lt_trichotomy x.size y.size with h|h|h
   ·have e1:(bl x).drop n=[]:=List.drop_eq_nil_of_le (by rw[Ybm];omega)
    rw[e1,YeQ y n (by omega)]
    have:(x.size:Int)<y.size:=by omega
    simp[cl,sg,this]
   ·have e1:(bl x).drop n=[]:=List.drop_eq_nil_of_le (by rw[Ybm];omega)
    have e2:(bl y).drop n=[]:=List.drop_eq_nil_of_le (by rw[Ybm];omega)
    rw[e1,e2,h];simp[cl,sg]
   ·have e1:(bl y).drop n=[]:=List.drop_eq_nil_of_le (by rw[Ybm];omega)
    rw[e1,YeQ x n (by omega)]
    have a1:(y.size:Int)<x.size:=by omega
    have a2: ¬ (x.size:Int)<y.size:=by omega
    simp[cl,sg,a1,a2]
  |succ k ih=>
   intro n hn
   rw[YeQ x n (by omega),YeQ y n (by omega)]
   simp only[YBR,fS,Ye2,cl]
   by_cases h1:(x.data.getD n 0).toNat< (y.data.getD n 0).toNat
   ·have a1: ¬ ((x.data.getD n 0).toNat:Int)=((y.data.getD n 0).toNat:Int):=by omega
    simp only[YHb,cond_true,sg]
    simp_all
   ·by_cases h2:(y.data.getD n 0).toNat< (x.data.getD n 0).toNat
    ·have a1: ¬ ((x.data.getD n 0).toNat:Int)=((y.data.getD n 0).toNat:Int):=by omega
     have a2: ¬ ((x.data.getD n 0).toNat:Int)< ((y.data.getD n 0).toNat:Int):=by omega
     have a3:((y.data.getD n 0).toNat:Int)< ((x.data.getD n 0).toNat:Int):=by omega
     rw[decide_eq_false a1];simp only[YHb,cond_true,sg]
     simp_all
    grind
 have:=key (min x.size y.size) 0 (by omega)
 trivial
def num8(n:Int):List UInt8:=be 8 (n+9223372036854775808).toNat
def kb(v:Int×Int×ByteArray):List UInt8:=UInt8.ofNat v.1.toNat::(if v.1=1\/v.1=3 then num8 v.2.1 else if v.1=2 then esc (bl v.2.2)++[0,1]else[])
def I64(n:Int):Prop:= -9223372036854775808<=n/\n<=9223372036854775807
theorem Ye3{v:Int×Int×ByteArray}(h:vB v=true):(v.1=0/\v.2.1=0/\v.2.2=YHk #[])\/(v.1=1/\v.2.2=YHk #[])\/(v.1=2/\v.2.1=0/\v.2.2.size<=200)\/(v.1=3/\v.2.2=YHk #[]):=by
 obtain⟨a,b,c⟩:=v
 have he:=Yc6 a b c
 unfold q6 at he
 grind
theorem Yow(a b:Int)(ha:I64 a)(hb:I64 b)(s t:List UInt8):cl (num8 a++s) (num8 b++t)=if sg a b=0 then cl s t else sg a b:=by
 unfold num8
 obtain⟨a1,a2⟩:=ha
 obtain⟨b1,b2⟩:=hb
 rw[Yov 8 _ _ s t (by omega) (by omega)]
 unfold sg
 grind
theorem Yhz(a:Int):sg a a=0:=sg_zero.2 rfl
theorem YBh{v w:Int×Int×ByteArray}(hv:vB v=true)(hw:vB w=true)(iv:I64 v.2.1)(iw:I64 w.2.1)(s t:List UInt8):cl (kb v++s) (kb w++t)=if cmpV v w=0 then cl s t else cmpV v w:=by
 have kv:=Ye3 hv
 have kw:=Ye3 hw
 by_cases hk:v.1=w.1
 ·have e1:sg v.1 w.1=0:=sg_zero.2 hk
  have e2:cmpV v w=if sg v.2.1 w.2.1=0 then cl (bl v.2.2) (bl w.2.2)else sg v.2.1 w.2.1:=by
   unfold cmpV
   rw[e1,YBg]
   simp
  have e3: ∀x y:List UInt8,cl ((UInt8.ofNat v.1.toNat::x)++s) ((UInt8.ofNat w.1.toNat::y)++t)=cl (x++s) (y++t):=fun x y=>by
   rw[hk];simp[cl]
  unfold kb
  rw[e3,e2]
  rcases kv with⟨g1,g2,g3⟩| ⟨g1,g3⟩| ⟨g1,g2,g3⟩| ⟨g1,g3⟩
  ·rcases kw with⟨k1,k2,k3⟩| ⟨k1,k3⟩| ⟨k1,k2,k3⟩| ⟨k1,k3⟩<;>try omega
   simp[g1,k1,g2,k2,g3,k3,Yhz,Yce]
  ·rcases kw with⟨k1,k2,k3⟩| ⟨k1,k3⟩| ⟨k1,k2,k3⟩| ⟨k1,k3⟩<;>try omega
   simp only[g1,k1,g3,k3,true_or,if_true,Yce,Yow _ _ iv iw]
   omega
  ·rcases kw with⟨k1,k2,k3⟩| ⟨k1,k3⟩| ⟨k1,k2,k3⟩| ⟨k1,k3⟩<;>try omega
   have q: ¬ ((2:Int)=1\/(2:Int)=3):=by decide
   simp only[g1,k1,g2,k2,q,if_false,if_true,Yhz,YGw,You]
  ·rcases kw with⟨k1,k2,k3⟩| ⟨k1,k3⟩| ⟨k1,k2,k3⟩| ⟨k1,k3⟩<;>try(rw[g1,k1]at hk;exact absurd hk (by decide))
   simp only[g1,k1,g3,k3,or_true,if_true,Yce,Yow _ _ iv iw]
   omega
 ·have e1:sg v.1 w.1≠0:=fun h=>hk (sg_zero.1 h)
  have e2:cmpV v w=sg v.1 w.1:=by unfold cmpV;grind
  have r1:0<=v.1/\v.1<=3:=by omega
  have r2:0<=w.1/\w.1<=3:=by omega
  have t1:(UInt8.ofNat v.1.toNat).toNat=v.1.toNat:=by simp;omega
  have t2:(UInt8.ofNat w.1.toNat).toNat=w.1.toNat:=by simp;omega
  rw[e2,if_neg e1]
  unfold kb
  simp only[YGF,cl,t1,t2]
  unfold sg
  grind
def kl(l:Vals):List UInt8:=l.flatMap kb
def Ok(l:Vals):Prop:= ∀v∈l,vB v=true/\I64 v.2.1
theorem Yox{a b:Vals}(h:a.length=b.length)(ha:Ok a)(hb:Ok b):cl (kl a) (kl b)=cmpL a b:=by
 have key: ∀k n,n+k=a.length->cl (kl (a.drop n)) (kl (b.drop n))=(match YBR (fL a b) k n (.inr (a,b))with| .inl i=>i| .inr _=>sg a.length b.length):=by
  intro k
  induction k with
  |zero=>
   intro n hn
   rw[List.drop_eq_nil_of_le (by omega),List.drop_eq_nil_of_le (by omega)]
   simp only[YBR,h,Yhz];rfl
  |succ k ih=>
   intro n hn
   have d1:a.drop n=a.getD n zV::a.drop (n+1):=by
    rw[List.drop_eq_getElem_cons (by omega),YGK,YGh (by omega)];rfl
   have d2:b.drop n=b.getD n zV::b.drop (n+1):=by
    rw[List.drop_eq_getElem_cons (by omega),YGK,YGh (by omega)];rfl
   obtain⟨p1,p2⟩:=ha (a.getD n zV) (Yaj (by omega))
   obtain⟨q1,q2⟩:=hb (b.getD n zV) (Yaj (by omega))
   rw[d1,d2]
   simp only[kl,List.flatMap_cons]
   rw[YBh p1 q1 p2 q2]
   simp only[YBR,fL]
   by_cases hc:cmpV (a.getD n zV) (b.getD n zV)=0
   ·rw[if_pos hc,decide_eq_true hc]
    exact ih (n+1) (by omega)
   simp_all
 unfold cmpL
 grind
theorem Yoy{a b:Vals}(h:a.length=b.length)(ha:Ok a)(hb:Ok b):kl a=kl b↔a=b:=by
 constructor
 ·intro e
  have:=Yox h ha hb
  rw[e,Yce]at this
  exact cmpL_zero.1 this.symm
 simp_all
theorem YFY{x:Nat}(h:x<2^63):x^^^2^63=x+2^63:=by
 apply Nat.eq_of_testBit_eq
 intro i
 rw[Nat.testBit_xor,Nat.add_comm x]
 by_cases hi:i=63
 ·grind
 ·rw[Nat.testBit_two_pow_of_ne (Ne.symm hi)]
  rcases Nat.lt_or_gt_of_ne hi with h1|h1
  ·rw[Nat.testBit_two_pow_add_gt h1];simp
  ·have e1:x.testBit i=false:=Nat.testBit_lt_two_pow (Nat.lt_trans h (Nat.pow_lt_pow_right (by decide) h1))
   have e2:(2^63+x).testBit i=false:=Nat.testBit_lt_two_pow (by
    have:2^64<=2^i:=Nat.pow_le_pow_right (by decide) h1
    omega)
   simp_all
theorem xor63'{x:Nat}(h:x<2^63):(x+2^63)^^^2^63=x:=by
 rw[<-YFY h,Nat.xor_assoc,Nat.xor_self,Nat.xor_zero]
theorem w64(n:Int):YHl .u64 n=n % 18446744073709551616:=by
 rfl
theorem w8(n:Int):YHl .u8 n=n % 256:=by
 rfl
theorem YBi{n:Int}(h:I64 n):bits .xor .u64 (YHl .u64 n) 9223372036854775808=(((n+9223372036854775808).toNat:Nat):Int):=by
 obtain⟨h1,h2⟩:=h
 rw[w64]
 have hm:n % 18446744073709551616=(((n % 18446744073709551616).toNat:Nat):Int):=by omega
 rw[hm]
 have hx:(BitVec.ofInt 64 (((n % 18446744073709551616).toNat:Nat):Int)^^^BitVec.ofInt 64 ((9223372036854775808:Nat):Int)).toNat=(n % 18446744073709551616).toNat^^^2^63:=by
  grind
 have hv:(n % 18446744073709551616).toNat^^^2^63=(n+9223372036854775808).toNat:=by
  by_cases hn:0<=n
  ·have:(n % 18446744073709551616).toNat=n.toNat:=by omega
   rw[this,YFY (by omega)];omega
  ·have:(n % 18446744073709551616).toNat=(n+9223372036854775808).toNat+2^63:=by omega
   rw[this,xor63' (by omega)]
 show YHl .u64 ((BitVec.ofInt 64 (((n % 18446744073709551616).toNat:Nat):Int)^^^BitVec.ofInt 64 ((9223372036854775808:Nat):Int)).toNat:Nat)=_
 rw[hx,hv,w64]
 omega
def YEg(N k:Nat):Int:=YHl .u8 ((N:Int).fdiv (2^(56-8*k)))
def YDu(N:Nat)(out:ByteArray):Nat->ByteArray
 |0=>out
 |k+1=>YDu N out k++YBU [YEg N k]
theorem Yoz(N k:Nat):YEg N k=((N/2^(56-8*k) % 256:Nat):Int):=by
 unfold YEg
 rw[w8]
 grind
theorem YoA(a b:ByteArray):(a++b).size=a.size+b.size:=ByteArray.size_append
theorem YhA(l:List Int):(YBU l).size=l.length:=by simp[YBU,ByteArray.size]
theorem YoB(N:Nat)(out:ByteArray): ∀k,(YDu N out k).size=out.size+k
 |0=>rfl
 |k+1=>by simp only[YDu,YoA,YhA,YoB N out k,List.length_singleton];omega
theorem YoC(N:Nat)(out:ByteArray):bl (YDu N out 8)=bl out++be 8 N:=by
 simp only[YDu,Ycf,Ybc,Yoz,YGj,YGl,YHf,YGw,List.singleton_append,be]
 rfl
theorem YoD(n:Int)(out:ByteArray)(h:I64 n)(ho:out.size+8<=maxEl):q43 loO n out=some (YDu (n+9223372036854775808).toNat out 8):=by
 unfold q43
 rw[YBi h]
 generalize(n+9223372036854775808).toNat=N
 have hL:YgI loO ((N:Int),56,out)=some (YDu N out 8):=by
  refine Yao (N:=8) (st:=fun k=>((N:Int),56-8*(k:Int),YDu N out k)) rfl ?_ (fun k hk=> ?_)
  ·rfl
  ·have e1:decide ((0:Int)<=56-8*(k:Int))=true:=by grind
   have e2:YHl .i64 (56-8*(k:Int)-8)=56-8*((k+1:Nat):Int):=by rw[wr6 (by omega) (by omega)];omega
   have e3:min (56-8*(k:Int)).toNat (IntKind.bits .u64)=56-8*k:=by
    have:IntKind.bits .u64=64:=rfl
    omega
   have e4:inB [YEg N k]=true:=by
    have:=Yoz N k
    simp only[inB,List.all_cons,List.all_nil,Bool.and_true,YG9,decide_eq_true_eq]
    omega
   simp only[YgH,e1,cond_true,e3]
   rw[chkT _ (by omega)]
   show(bif inB [YEg N k]then _ else none)=_
   rw[e4,cond_true,chkT _ (by rw[YoB];grind),e2];rfl
 simp_all
theorem YoE: ∀a b:List UInt8,esc (a++b)=esc a++esc b
 | [],b=>rfl
 |x::a,b=>by simp[esc,YoE a b]
theorem YoF: ∀a:List UInt8,(esc a).length<=2*a.length
 | []=>by trivial
 |x::a=>by
  have:=YoF a
  simp only[esc,List.length_append,YGA]
  grind
def outE(s out:ByteArray):Nat->ByteArray
 |0=>out
 |n+1=>bif decide (YBQ s n=0)then(outE s out n++YBU [YBQ s n])++YBU [255]else outE s out n++YBU [YBQ s n]
theorem YhB(s out:ByteArray): ∀n,(outE s out n).size<=out.size+2*n
 |0=>by simp[outE]
 |n+1=>by
  have:=YhB s out n
  simp only[outE]
  cases decide (YBQ s n=0)<;>simp[YhA]<;>omega
theorem YoG(s out:ByteArray): ∀n,n<=s.size->bl (outE s out n)=bl out++esc ((bl s).take n)
 |0,_=>by simp[outE,esc]
 |n+1,h=>by
  have ih:=YoG s out n (by omega)
  rw[YAz s n (by omega),YoE]
  have hb:UInt8.ofNat (YBQ s n).toNat=s.data.getD n 0:=by rw[Ye2];simp
  simp only[outE]
  by_cases h0:YBQ s n=0
  ·have hz:(s.data.getD n 0).toNat=0:=by rw[Ye2]at h0;omega
   have hz':s.data.getD n 0=0:=UInt8.toNat_inj.1 hz
   rw[decide_eq_true h0,cond_true,Ycf,Ycf,ih,Ybc,Ybc]
   simp only[YGj,YGl,hb,esc,hz',YGw,List.append_nil]
   rfl
  ·have hz: ¬ (s.data.getD n 0).toNat=0:=by rw[Ye2]at h0;omega
   rw[decide_eq_false h0,cond_false,Ycf,ih,Ybc]
   simp only[YGj,YGl,hb,esc,hz,if_false,YGw,List.append_nil]
theorem YBj(v:Int×Int×ByteArray)(out:ByteArray)(hs:v.2.2.size<=200)(ho:out.size<=1000):YgJ loO ((v.2.2.size:Int),0,v.1,v.2.1,v.2.2,out)=some (outE v.2.2 out v.2.2.size):=by
 have hm:maxEl=1073741824:=rfl
 refine Yao (N:=v.2.2.size) (st:=fun n=>((v.2.2.size:Int),(n:Int),v.1,v.2.1,v.2.2,outE v.2.2 out n)) rfl ?_ (fun n hn=> ?_)
 ·simp[Yej]
 ·have e1:decide ((n:Int)< (v.2.2.size:Int))=true:=by simp_all
  have e2:YHl .i64 ((n:Int)+1)=((n+1:Nat):Int):=by rw[wr6 (by omega) (by omega)];omega
  have r:=Yho v.2.2 n
  have e3:inB [YBQ v.2.2 n]=true:=by
   simp only[inB,List.all_cons,List.all_nil,Bool.and_true,YG9,decide_eq_true_eq];omega
  have e4:inB [(255:Int)]=true:=rfl
  have hz:=YhB v.2.2 out n
  simp only[Yej,e1,e2,e3,e4,cond_true]
  rw[chkT _ (by omega),chkT _ (by grind),chkT _ (by omega),chkT _ (by simp[YhA];omega)]
  simp only[outE]
  grind
def keyB(v:Int×Int×ByteArray):ByteArray:=((q44 loO v.1 v.2.1 v.2.2).getD (YHk #[],0)).1
theorem YoH{v:Int×Int×ByteArray}(hv:vB v=true)(hi:I64 v.2.1):q44 loO v.1 v.2.1 v.2.2=some (keyB v,0)/\bl (keyB v)=kb v:=by
 have hm:maxEl=1073741824:=rfl
 have hc:=Ye3 hv
 have ew:YHl .u8 v.1=v.1:=by rw[w8];omega
 have ei:inB [v.1]=true:=by simp only[inB,List.all_cons,List.all_nil,Bool.and_true,YG9,decide_eq_true_eq];omega
 have hsz:(YBU [v.1]).size=1:=by rfl
 have main: ∃k,q44 loO v.1 v.2.1 v.2.2=some (k,0)/\bl k=kb v:=by
  unfold q44
  rw[Yc6,YBP]
  simp only[hv,YHa,cond_false,ew,ei,cond_true]
  rcases hc with⟨g1,g2,g3⟩| ⟨g1,g3⟩| ⟨g1,g2,g3⟩| ⟨g1,g3⟩
  ·have a1:decide (v.1=1)=false:=by simp_all
   have a3:decide (v.1=3)=false:=by simp_all
   have a2:decide (v.1=2)=false:=by simp_all
   simp only[a1,a3,cond_false,YbI,a2,YBP]
   refine⟨_,rfl,?_⟩
   rw[Ybc];unfold kb;grind
  ·have a1:decide (v.1=1)=true:=by simp_all
   simp only[a1,cond_true,YbI]
   rw[YoD _ _ hi (by omega),YBP,YBP]
   refine⟨_,rfl,?_⟩
   rw[YoC,Ybc];unfold kb num8;grind
  ·have a1:decide (v.1=1)=false:=by simp_all
   have a3:decide (v.1=3)=false:=by simp_all
   have a2:decide (v.1=2)=true:=by simp_all
   have e4:inB [(0:Int),1]=true:=rfl
   have hz:=YhB v.2.2 (YBU [v.1]) v.2.2.size
   simp only[a1,a3,cond_false,YbI,a2,cond_true]
   rw[YBj v _ g3 (by omega),YBP,e4,cond_true,chkT _ (by grind),YBP]
   refine⟨_,rfl,?_⟩
   rw[Ycf,YoG _ _ _ (YGQ _),Ybc,Ybc];unfold kb
   have ht:(bl v.2.2).take v.2.2.size=bl v.2.2:=List.take_of_length_le (by rw[Ybm];omega)
   simp_all
  ·have a1:decide (v.1=1)=false:=by simp_all
   have a3:decide (v.1=3)=true:=by simp_all
   simp only[a1,a3,cond_false,YbI,cond_true]
   rw[YoD _ _ hi (by omega),YBP,YBP]
   refine⟨_,rfl,?_⟩
   rw[YoC,Ybc];unfold kb num8;grind
 obtain⟨k,h1,h2⟩:=main
 have:keyB v=k:=by unfold keyB;simp_all
 simp_all
theorem YhC: ∀k n,(be k n).length=k
 |0,_=>rfl
 |k+1,n=>by simp[be,YhC k]
theorem YoI{v:Int×Int×ByteArray}(hv:vB v=true):(kb v).length<=403:=by
 unfold kb num8
 rcases Ye3 hv with⟨g1,g2,g3⟩| ⟨g1,g3⟩| ⟨g1,g2,g3⟩| ⟨g1,g3⟩
 ·grind
 ·simp[g1,YhC]
 ·have:=YoF (bl v.2.2)
  rw[Ybm]at this
  grind
 ·simp[g1,YhC]
def kOut(l:Vals):Nat->ByteArray
 |0=>YHk #[]
 |n+1=>kOut l n++keyB (l.getD n zV)
theorem YhD{l:Vals}(h:Ok l): ∀n,n<=l.length->bl (kOut l n)=kl (l.take n)/\ (kOut l n).size<=403*n
 |0,_=>⟨rfl,YGQ _⟩
 |n+1,hn=>by
  obtain⟨i1,i2⟩:=YhD h n (by omega)
  obtain⟨p1,p2⟩:=h (l.getD n zV) (Yaj (by omega))
  obtain⟨_,q2⟩:=YoH p1 p2
  refine⟨?_,?_⟩
  ·simp only[kOut]
   rw[Ycf,i1,q2,Ybn (d:=zV) (by omega)]
   simp[kl]
  ·simp only[kOut,YoA]
   have:=YoI p1
   have hl:(keyB (l.getD n zV)).size=(kb (l.getD n zV)).length:=by rw[<-q2,Ybm]
   omega
def keyL(l:Vals):ByteArray:=kOut l l.length
theorem Ye4{l:Vals}(h:Ok l):bl (keyL l)=kl l:=by
 have:=(YhD h l.length (YGQ _)).1
 rwa[YGt]at this
theorem YBk{a b:Vals}(h:a.length=b.length)(ha:Ok a)(hb:Ok b):keyL a=keyL b↔a=b:=by
 constructor
 ·intro e
  rw[<-Yoy h ha hb,<-Ye4 ha,<-Ye4 hb,e]
 simp_all
end
end Go.Abs.G47
namespace Go.Abs.G47
open Go Go.Abs
noncomputable section
def AllO(N:Nat)(L:List Vals):Prop:= ∀l∈L,Ok l/\l.length=N
theorem YBl{N:Nat}{a b:Vals}(ha:Ok a/\a.length=N)(hb:Ok b/\b.length=N):keyL a=keyL b↔a=b:=YBk (by omega) ha.1 hb.1
def hasV(L:List Vals)(l:Vals):Bool:=L.any fun x=>decide (x=l)
theorem hasV_iff{L:List Vals}{l:Vals}:hasV L l=true↔l∈L:=by
 unfold hasV
 simp
theorem Ye5(L:List Vals)(x l:Vals):hasV (L++[x]) l=(hasV L l||decide (x=l)):=by
 unfold hasV;simp
abbrev Ents:=List (Int×ByteArray×Vals)
def YEB(e:Int×Ents)(l:Vals):Int×Ents:=(mck eqS e.1 (keyL l) e.2,mpt eqS e.1 (keyL l) l e.2)
def mapOf(L:List Vals):Int×Ents:=L.foldl YEB (0,[])
theorem Ye6(L:List Vals)(l:Vals):mapOf (L++[l])=YEB (mapOf L) l:=by unfold mapOf;simp
theorem YDv{α:Type}{P:List α->Prop}(h0:P [])(h1: ∀L l,P L->P (L++[l]))(L:List α):P L:=by
 have: ∀n (L:List α),L.length=n->P L:=by
  intro n
  induction n with
  |zero=>simp_all
  |succ n ih=>
   intro L h
   have hne:L≠ []:=by grind
   rw[<-List.dropLast_concat_getLast hne]
   simp_all
 simp_all
theorem YBm(L:List Vals):((mapOf L).2.map (·.1)).Nodup/\ ∀b∈ (mapOf L).2.map (·.1),b< (mapOf L).1:=by
 induction L using YDv with
 |h0=>trivial
 |h1 L l ih=>rw[Ye6];exact YAG ih.1 ih.2
theorem YoJ{N:Nat}{L:List Vals}(hL:AllO N L): ∀l,Ok l/\l.length=N->mfd eqS (keyL l) (mapOf L).2=bif hasV L l then some l else none:=by
 induction L using YDv with
 |h0=>intro l _;rfl
 |h1 L x ih=>
  intro l hl
  have ih:=ih (fun y hy=>hL y (YGN _ hy)) l hl
  have hx:=hL x (List.mem_append_right _ (YGE.2 rfl))
  rw[Ye6]
  show mfd eqS (keyL l) (mpt eqS _ (keyL x) x _)=_
  rw[Yhu,ih]
  by_cases e:l=x
  ·subst e;simp[eqS,Ye5]
  ·have:eqS (keyL l) (keyL x)=false:=by unfold eqS;rw[decide_eq_false_iff_not,YBl hl hx];exact e
   rw[this]
   rw[Ye5,decide_eq_false (fun h=>e h.symm),Bool.or_false];rfl
theorem YoK{N:Nat}{L:List Vals}{l:Vals}(hL:AllO N (L++[l])):(mapOf (L++[l])).2.map (·.2.1)=bif hasV L l then(mapOf L).2.map (·.2.1)else(mapOf L).2.map (·.2.1)++[keyL l]:=by
 rw[Ye6]
 show(mpt eqS _ (keyL l) l _).map (·.2.1)=_
 rw[Yhv,YoJ (fun y hy=>hL y (YGN _ hy)) l (hL l (List.mem_append_right _ (YGE.2 rfl)))]
 grind
theorem YoL{N:Nat}{L:List Vals}(hL:AllO N L):(mapOf L).2.length<=L.length:=by
 induction L using YDv with
 |h0=>trivial
 |h1 L x ih=>
  have ih:=ih (fun y hy=>hL y (YGN _ hy))
  have:=congrArg List.length (YoK hL)
  grind
def leR(a b:Vals):Prop:=le8 (kl a) (kl b)=true
def insR:List Vals->Vals->List Vals->List Vals
 | [],x,Q=>x::Q
 |y::P,x,Q=>bif decide (cmpL x y<0)then insR P x (y::Q)else(y::P).reverse++x::Q
theorem YoM: ∀(P:List Vals) (x:Vals) (Q:List Vals),(insR P x Q).Perm (P.reverse++x::Q)
 | [],x,Q=>List.Perm.refl _
 |y::P,x,Q=>by
  simp only[insR]
  cases decide (cmpL x y<0)with
  |true=>
   refine(YoM P x (y::Q)).trans ?_
   rw[List.reverse_cons,YGw]
   exact List.Perm.append_left _ (List.Perm.swap ..)
  |false=>rfl
theorem YoN{N:Nat}{x:Vals}(hx:Ok x/\x.length=N): ∀(P Q:List Vals),(∀p∈P,Ok p/\p.length=N)->(P.reverse++Q).Pairwise leR->(∀q∈Q,leR x q)->(insR P x Q).Pairwise leR
 | [],Q,_,h,hq=>List.pairwise_cons.2 ⟨hq,h⟩
 |y::P,Q,hP,h,hq=>by
  have hy:=hP y (YGo ..)
  have ec:cl (kl x) (kl y)=cmpL x y:=Yox (by omega) hx.1 hy.1
  rw[List.reverse_cons,YGw]at h
  simp only[insR]
  cases hd:decide (cmpL x y<0)with
  |true=>
   have hxy:leR x y:=by unfold leR;rw[Ye0,ec];grind
   refine YoN hx P (y::Q) (fun p hp=>hP p (YGv _ hp)) h (fun q hq'=> ?_)
   grind
  |false=>
   have hd': ¬cmpL x y<0:=by simp_all
   have hyx:leR y x:=by
    unfold leR
    cases h1:le8 (kl y) (kl x)with
    |true=>rfl
    |false=>
     have:=Yd1 (kl y) (kl x)
     rw[h1,Bool.false_or,Ye0,ec,decide_eq_true_eq]at this
     have h0:cl (kl x) (kl y)=0:=by omega
     rw[Yot h0,Ye0,Yce]at h1
     trivial
   rw[cond_false,List.reverse_cons,YGw]
   obtain⟨p1,p2,p3⟩:=List.pairwise_append.1 h
   obtain⟨p4,p5⟩:=List.pairwise_cons.1 p2
   refine List.pairwise_append.2 ⟨p1,List.pairwise_cons.2 ⟨fun q hq'=> ?_,List.pairwise_cons.2 ⟨hq,p5⟩⟩,fun a ha b hb=> ?_⟩
   ·rcases YGn.1 hq' with rfl|hq'
    ·omega
    simp_all
   ·have hay:=p3 a ha y (YGo ..)
    rcases YGn.1 hb with rfl|hb
    ·omega
    ·rcases YGn.1 hb with rfl|hb
     ·exact Yd0 _ _ _ hay hyx
     simp_all
def YDE(R:List Vals)(l:Vals):List Vals:=bif hasV R l then R else insR R.reverse l []
def rowsR(L:List Vals):List Vals:=L.foldl YDE []
theorem Yc7(L:List Vals)(l:Vals):rowsR (L++[l])=YDE (rowsR L) l:=by unfold rowsR;simp
theorem Ye7(R:List Vals)(l:Vals):(insR R.reverse l []).Perm (R++[l]):=by
 have:=YoM R.reverse l []
 simp_all
theorem YoO(L:List Vals): ∀l,hasV (rowsR L) l=hasV L l:=by
 induction L using YDv with
 |h0=>intro l;rfl
 |h1 L x ih=>
  intro l
  rw[Yc7]
  unfold YDE
  rw[ih x,Ye5]
  cases hx:hasV L x with
  |true=>
   grind
  |false=>
   rw[cond_false]
   have:hasV (insR (rowsR L).reverse x []) l=hasV (rowsR L++[x]) l:=(Ye7 _ x).any_eq
   rw[this,Ye5,ih l]
theorem rowsR_mem{L:List Vals}{r:Vals}:r∈rowsR L↔r∈L:=by
 rw[<-hasV_iff,YoO,hasV_iff]
theorem YoP(L:List Vals):(rowsR L).length<=L.length:=by
 induction L using YDv with
 |h0=>trivial
 |h1 L x ih=>
  rw[Yc7]
  unfold YDE
  cases hasV (rowsR L) x with
  |true=>grind
  |false=>rw[cond_false,(Ye7 _ x).length_eq];simp_all
theorem YhE{N:Nat}{L:List Vals}(hL:AllO N L):(rowsR L).Pairwise leR:=by
 induction L using YDv with
 |h0=>exact List.Pairwise.nil
 |h1 L x ih=>
  have hL':AllO N L:=fun y hy=>hL y (YGN _ hy)
  have ih:=ih hL'
  rw[Yc7]
  unfold YDE
  cases hasV (rowsR L) x with
  |true=>exact ih
  |false=>
   refine YoN (N:=N) (hL x (List.mem_append_right _ (YGE.2 rfl))) _ _ (fun p hp=>hL' _ (rowsR_mem.1 (List.mem_reverse.1 hp))) ?_ (fun q hq=>by cases hq)
   simp_all
theorem YoQ{N:Nat}{L:List Vals}(hL:AllO N L):((mapOf L).2.map (·.2.1)).Perm ((rowsR L).map keyL):=by
 induction L using YDv with
 |h0=>rfl
 |h1 L x ih=>
  have ih:=ih (fun y hy=>hL y (YGN _ hy))
  rw[YoK hL,Yc7]
  unfold YDE
  rw[YoO]
  cases hasV L x with
  |true=>exact ih
  |false=>
   refine(List.Perm.append_right [keyL x] ih).trans ?_
   have:=((Ye7 (rowsR L) x).map keyL).symm
   simp_all
theorem YBn{N:Nat}{L:List Vals}(hL:AllO N L):YC5 ((mapOf L).2.map (·.2.1))=(rowsR L).map keyL:=by
 rw[Yn8 (YoQ hL)]
 refine(Ygp (le:=fun a b:ByteArray=>le8 (bl a) (bl b)) (fun a b c h k=>Yd0 _ _ _ h k) (fun a b=>Yd1 _ _) (fun a b h k=>YAB (Yd2 (bl a) (bl b) h k)) ?_ (List.Perm.refl _)).symm
 rw[List.pairwise_map]
 refine(List.Pairwise.imp_of_mem (fun{a b} ha hb h=> ?_) (YhE hL))
 have e1:bl (keyL a)=kl a:=Ye4 (hL _ (rowsR_mem.1 ha)).1
 have e2:bl (keyL b)=kl b:=Ye4 (hL _ (rowsR_mem.1 hb)).1
 rw[e1,e2];exact h
end
end Go.Abs.G47
namespace Go.Abs.G47
open Go Go.Abs
noncomputable section
def ansM(hd:List ByteArray)(σ:Asg Val):Vals:=hd.map fun v=>(σ v).getD zV
def goodV(v:Val):Prop:=vB v=true/\I64 v.2.1
def JV(σ:Asg Val):Prop:= ∀k v,σ k=some v->goodV v
theorem YhF{hd:List ByteArray}{σ:Asg Val}(h:JV σ):Ok (ansM hd σ)/\ (ansM hd σ).length=hd.length:=by
 refine⟨fun v hv=> ?_,by unfold ansM;simp⟩
 obtain⟨k,_,rfl⟩:=YGr.1 hv
 cases e:σ k with
 |none=>trivial
 |some w=>exact h k w e
theorem YhG: ∀{ps:List (ByteArray×Val)} {us:Vals} {σ σ':Asg Val},JV σ->(∀u∈us,goodV u)->tsM σ ps us=some σ'->JV σ'
 | [],us,σ,σ',h,_,e=>by injection e with e;simp_all
 |_::_,[],_,_,_,_,e=>by cases e
 |p::ps,u::us,σ,σ',h,hu,e=>by
  simp only[tsM]at e
  cases h1:tmM σ p.1 p.2 u with
  |none=>simp_all
  |some σ1=>
   rw[h1]at e
   refine YhG (σ:=σ1) ?_ (fun v hv=>hu v (YGv _ hv)) (show tsM σ1 ps us=some σ' from e)
   unfold tmM at h1
   by_cases h0:p.1=nul0
   ·simp_all
   ·rw[if_neg h0]at h1
    cases hs:σ p.1 with
    |some w=>
     simp_all
    |none=>
     rw[hs]at h1;injection h1 with h1;subst h1
     intro k v hk
     unfold upd at hk
     by_cases hx:k=p.1
     ·simp_all
     ·rw[if_neg hx]at hk;exact h k v hk
theorem YoR: ∀{L:List (List Term×Rws)} {σ:Asg Val} {r:List Int},JV σ->(∀q∈L,∀row∈q.2,∀v∈row.2,goodV v)-> ∀w∈wyM L σ r,JV w.2
 | [],σ,r,h,_,w,hw=>by rw[wyM,YGE]at hw;simp_all
 |q::L,σ,r,h,hg,w,hw=>by
  rw[wyM,List.mem_flatMap]at hw
  obtain⟨row,hr,hw⟩:=hw
  cases hx:tsM σ (pV q.1) row.2 with
  |none=>simp_all
  |some σ'=>
   rw[hx]at hw
   exact YoR (YhG h (hg q (YGo ..) row hr) hx) (fun p hp=>hg p (YGv _ hp)) w hw
theorem YoS: ∀(L:List (List Term×Rws)) (σ:Asg Val) (r:List Int),(∀q∈L,q.2.length<=6)->(wyM L σ r).length<=6^L.length
 | [],σ,r,_=>YGQ _
 |q::L,σ,r,h=>by
  have hq:=h q (YGo ..)
  have: ∀R:Rws,(R.flatMap fun row=>match tsM σ (pV q.1) row.2 with|some σ'=>wyM L σ' (r++[row.1])|none=>[]).length<=R.length*6^L.length:=by
   intro R
   induction R with
   |nil=>simp
   |cons row R ih=>
    rw[List.flatMap_cons,List.length_append,YGA,YGY,Nat.one_mul,Nat.add_comm (R.length*_)]
    refine Nat.add_le_add ?_ ih
    cases tsM σ (pV q.1) row.2 with
    |none=>simp
    |some σ'=>exact YoS L σ' _ (fun p hp=>h p (YGv _ hp))
  refine YGU (this q.2) ?_
  rw[YGA,Nat.pow_succ,Nat.mul_comm]
  exact Nat.mul_le_mul_left _ hq
theorem tAns(hd:List ByteArray)(l0:List Atom)(tb:List Tabl)(clk:Int)(l:Ent Val)(m2 m3:Bool)(rs:List Int)(e:E)(hh:hd.length<=maxEl):
  q42 loO hd l0 tb clk l m2 m3 rs e.1 e.2.1 e.2.2=some (hd,l0,tb,clk,l,m2,m3,rs,e.1,e.2.1,e.2.2,ansM hd (lk l)):=by
 unfold q42
 have:YgG loO (hd,(hd.length:Int),0,hd,l0,tb,clk,l,m2,m3,rs,e.1,e.2.1,e.2.2,[])=some (hd,l0,tb,clk,l,m2,m3,rs,e.1,e.2.1,e.2.2,ansM hd (lk l)):=by
  refine Yao (st:=fun n=>(hd,(hd.length:Int),(n:Int),hd,l0,tb,clk,l,m2,m3,rs,e.1,e.2.1,e.2.2,ansM (hd.take n) (lk l))) (N:=hd.length) rfl ?_ (fun n hn=> ?_)
  ·simp only[Yei,nlI,cond_false,YGt]
  ·simp only[Yei,ltI hn,cond_true,inc hn hh,YHf]
   rw[chkT _ (by omega),chkT _ (by unfold ansM;grind),Ybn (d:=nul0) hn]
   have: ∀k,mgt eqS k l zV=(lk l k).getD zV:=fun k=>by rfl
   rw[this]
   unfold ansM
   simp
 simp_all
def seeA(hd:List ByteArray):Way->E->Bool×E:=fun w e=>
 let k:=YEB (e.1,e.2.1) (ansM hd w.2)
 (decide ((k.2.length:Int)<=10000),(k.1,k.2,e.2.2))
theorem tSee(hd:List ByteArray)(l0:List Atom)(tb:List Tabl)(clk:Int)(l:Ent Val)(m2 m3:Bool)(rs:List Int)(e:E)(hh:hd.length<=1000)(hj:JV (lk l)):
  q48 loO hd l0 e.1 e.2.1 e.2.2 tb clk l m2 m3 rs=some ((seeA hd (rs,lk l) e).1,hd,l0,(seeA hd (rs,lk l) e).2.1,(seeA hd (rs,lk l) e).2.2.1,(seeA hd (rs,lk l) e).2.2.2,tb,clk,l,m2,m3,rs):=by
 have hm:maxEl=1073741824:=rfl
 unfold q48
 rw[tAns hd l0 tb clk l m2 m3 rs e (by omega),YBP]
 rw[chkT _ rfl,chkT _ rfl]
 obtain⟨ok,hl⟩:=YhF (hd:=hd) hj
 generalize hA:ansM hd (lk l)=A at*
 have e4:YgK loO ((A.length:Int),0,hd,l0,e.1,e.2.1,e.2.2,tb,clk,l,m2,m3,rs,A,nul0)=some (hd,l0,e.1,e.2.1,e.2.2,tb,clk,l,m2,m3,rs,A,keyL A):=by
  refine Yao (st:=fun n=>((A.length:Int),(n:Int),hd,l0,e.1,e.2.1,e.2.2,tb,clk,l,m2,m3,rs,A,kOut A n)) (N:=A.length) rfl ?_ (fun n hn=> ?_)
  ·simp only[Yek,nlI,cond_false];rfl
  ·obtain⟨p1,p2⟩:=ok (A.getD n zV) (Yaj (by omega))
   obtain⟨q1,q2⟩:=YoH p1 p2
   have hz:=(YhD ok n (by omega)).2
   have hz':(keyB (A.getD n zV)).size<=403:=by rw[<-Ybm,q2];exact YoI p1
   simp only[Yek,ltI hn,cond_true,inc hn (show A.length<=maxEl by omega),YHf]
   rw[chkT _ (by omega),q1,YBP]
   simp only[q46,q45,YBP]
   rw[chkT _ trivial,chkT _ (by omega),YBP];rfl
 rw[e4,YBP]
 simp only[q47,YBP,seeA,hA,YEB]
theorem YoT(hd:List ByteArray): ∀(ws:List Way) (pre:List Vals) (m:Bool),(∀w∈ws,JV w.2)->AllO hd.length pre->pre.length+ws.length<=10000->
  visit (seeA hd) ws ((mapOf pre).1,(mapOf pre).2,m)=(true,(mapOf (pre++ws.map fun w=>ansM hd w.2)).1,(mapOf (pre++ws.map fun w=>ansM hd w.2)).2,m)
 | [],pre,m,_,_,_=>by simp[visit]
 |w::ws,pre,m,hj,hp,hl=>by
  have hw:=YhF (hd:=hd) (hj w (YGo ..))
  have hp':AllO hd.length (pre++[ansM hd w.2]):=fun x hx=>by
   rcases YGI.1 hx with h|h
   ·exact hp x h
   simp_all
  have hlen:=YoL hp'
  rw[List.length_append,List.length_singleton]at hlen
  rw[YGA]at hl
  have es:seeA hd w ((mapOf pre).1,(mapOf pre).2,m)=(true,(mapOf (pre++[ansM hd w.2])).1,(mapOf (pre++[ansM hd w.2])).2,m):=by
   unfold seeA
   rw[Ye6]at hlen⊢
   rw[show(((mapOf pre).1,(mapOf pre).2):Int×Ents)=mapOf pre from rfl]
   simp only
   rw[decide_eq_true (by omega)]
  simp only[visit]
  rw[es]
  simp only
  rw[YoT hd ws _ m (fun v hv=>hj v (YGv _ hv)) hp' (by grind)]
  simp
def tbs(db:List Tabl)(l:List Atom):List Tabl:=l.map fun a=>tabO db a.1
theorem tNew(db:List Tabl)(hd:List ByteArray)(l:List Atom)(hdb:db.length<=maxEl)(hl:l.length<=maxEl):q41 loO db hd l=some (hd,l,tbs db l,0,[],false,false,[]):=by
 unfold q41
 have:YgF loO (l,(l.length:Int),0,db,hd,l,[],0,[],false,false,[])=some (hd,l,tbs db l,0,[],false,false,[]):=by
  refine Yao (st:=fun n=>(l,(l.length:Int),(n:Int),db,hd,l,tbs db (l.take n),0,[],false,false,[])) (N:=l.length) rfl ?_ (fun n hn=> ?_)
  ·simp only[Yeh,nlI,cond_false,YGt]
  ·simp only[Yeh,ltI hn,cond_true,inc hn hl,YHf]
   rw[chkT _ (by omega),YFR _ _ hdb,YBP,chkT _ (by unfold tbs;grind),Ybn (d:=zA) hn]
   unfold tbs
   simp
 simp_all
def YDi(db:List Tabl)(l:List Atom):List Way:=wyM (PR l (tbs db l)) (fun _=>none) []
structure QOk(db:List Tabl)(hd:List ByteArray)(l:List Atom):Prop where
 tb:TbOk l (tbs db l)
 hn:hd.length<=10
 dn:db.length<=maxEl
 sm:sumT l<=maxEl
 row: ∀n,n<l.length->((tbs db l).getD n zT).2.2.length<=6
 val: ∀n,n<l.length-> ∀row∈ ((tbs db l).getD n zT).2.2,∀v∈row.2,goodV v
theorem YoU{l:List Atom}{tb:List Tabl}(h:l.length=tb.length){q:List Term×Rws}(hq:q∈PR l tb): ∃n,n<l.length/\q=((l.getD n zA).2,(tb.getD n zT).2.2):=by
 obtain⟨n,hn,e⟩:=YGD.1 hq
 unfold PR at hn
 rw[List.length_zipWith]at hn
 refine⟨n,by omega,?_⟩
 rw[<-e]
 unfold PR
 simp_all
theorem QOk.JV{db:List Tabl}{hd:List ByteArray}{l:List Atom}(h:QOk db hd l): ∀w∈YDi db l,JV w.2:=
 YoR (fun k v e=>by cases e) (fun q hq row hr v hv=>by
  obtain⟨n,hn,rfl⟩:=YoU h.tb.len hq
  exact h.val n hn row hr v hv)
theorem QOk.len{db:List Tabl}{hd:List ByteArray}{l:List Atom}(h:QOk db hd l):(YDi db l).length<=6^l.length:=by
 refine YGU (YoS _ _ _ (fun q hq=> ?_)) ?_
 ·obtain⟨n,hn,rfl⟩:=YoU h.tb.len hq
  exact h.row n hn
 ·refine Nat.pow_le_pow_right (by omega) ?_
  unfold PR;grind
def anss(db:List Tabl)(hd:List ByteArray)(l:List Atom):List Vals:=(YDi db l).map fun w=>ansM hd w.2
theorem QOk.all{db:List Tabl}{hd:List ByteArray}{l:List Atom}(h:QOk db hd l):AllO hd.length (anss db hd l):=fun x hx=>by
 obtain⟨w,hw,rfl⟩:=YGr.1 hx
 exact YhF (h.JV w hw)
theorem YBo(l:List ByteArray)(hl:l.length<=maxEl):q65 loO l=some (YC5 l):=by
 cases l with
 |nil=>exact(congrArg (fun lo=>q65 lo []) (Yba 100)).symm.trans (by kernel_rfl)
 |cons a r=>
  show(bif YGR (a::r).length maxEl then some (YC5 (a::r))else none)=_
  rw[Nat.ble_eq_true_of_le hl];rfl
theorem YDL{db:List Tabl}{hd:List ByteArray}{l:List Atom}(h:QOk db hd l)(hq:qI db hd l=0)(hw:(YDi db l).length<=10000):q66 loO db hd l=some (rowsR (anss db hd l),0):=by
 have hm:maxEl=1073741824:=rfl
 have hh:=h.hn
 have hs:=h.tb.sm
 unfold q66
 rw[tQ db hd l (by omega) h.sm,YBP,hq]
 rw[tNew db hd l h.dn (by omega),YBP]
 obtain⟨clk',l',e⟩:=run (see:=seeA hd) (I:=fun _=>True) (J:=JV) (hd:=hd) (l0:=l) (tb:=tbs db l) (m2:=false) (m3:=false) (fun _ _ _ _=>trivial) h.tb (fun i hi row hr σ σ' hj ht=>YhG hj (h.val i hi row hr) ht) (fun clk l1 rs e _ hk hj _=>tSee hd l (tbs db l) clk l1 false false rs e (by omega) hj) 0 [] (0,[],false) List.nodup_nil (fun k v e=>by cases e) trivial
 rw[e,YBP]
 rw[chkT _ rfl]
 have hv:=YoT hd (YDi db l) [] false h.JV (fun _ hx=>by cases hx) (by simp_all)
 rw[show visit (seeA hd) (wyM (PR l (tbs db l)) (lk []) []) (0,[],false)=_ from hv]
 have hA:=h.all
 have hml:=YoL hA
 have hal:(anss db hd l).length<=10000:=by unfold anss;simp_all
 have hrl:=YoP (anss db hd l)
 rw[show((YDi db l).map fun w=>ansM hd w.2)=anss db hd l from rfl]
 have hj:YcW loO ([],(mapOf (anss db hd l)).1,(mapOf (anss db hd l)).2,false)=some (rowsR (anss db hd l),0):=by
  refine Yoa (YBm _).1 (by omega) ?_
  show YG1 (q65 loO ((mapOf (anss db hd l)).2.map (·.2.1))) _=_
  rw[YBo _ (by grind),YBP,YBn hA]
  rw[chkT _ (by rw[<-(YoQ hA).length_eq])]
  have e3:YgQ loO ((((rowsR (anss db hd l)).map keyL).length:Int),0,[],(rowsR (anss db hd l)).map keyL,(mapOf (anss db hd l)).1,(mapOf (anss db hd l)).2,false)=some (rowsR (anss db hd l)):=by
   refine Yao (st:=fun n=>((((rowsR (anss db hd l)).map keyL).length:Int),(n:Int),(rowsR (anss db hd l)).take n,(rowsR (anss db hd l)).map keyL,(mapOf (anss db hd l)).1,(mapOf (anss db hd l)).2,false)) (N:=(rowsR (anss db hd l)).length) rfl ?_ (fun n hn=> ?_)
   ·simp only[Yeo,YGy,nlI,cond_false,YGt]
   ·simp only[Yeo,YGy,ltI hn,cond_true,inc hn (show(rowsR (anss db hd l)).length<=maxEl by omega),YHf]
    have ek:((rowsR (anss db hd l)).map keyL).getD n nul0=keyL ((rowsR (anss db hd l)).getD n []):=by
     simp_all
    have hmem:=rowsR_mem.1 (Yaj (d:=([]:Vals)) hn)
    have eg:mgt eqS (keyL ((rowsR (anss db hd l)).getD n [])) (mapOf (anss db hd l)).2 []=(rowsR (anss db hd l)).getD n []:=by
     unfold mgt
     rw[YoJ hA _ (hA _ hmem),hasV_iff.2 hmem];rfl
    rw[chkT _ (by omega),chkT _ (by grind),ek,eg,Ybn (d:=([]:Vals)) hn]
  simp_all
 simp_all
end
end Go.Abs.G47
namespace Go.Abs.G47
open Go Go.Abs
noncomputable section
def exM:List Atom->Asg Term->List Atom->Option (Asg Term)
 | [],σ,_=>some σ
 |a::r,σ,tg=>tg.findSome? fun b=>(atM σ a b).bind fun σ'=>exM r σ' tg
abbrev XRec:=List Atom×List Atom×Int×Ent Term×Bool×Bool->Option (Bool×Int×Ent Term×Bool×Bool)
theorem tDel(rec:XRec)(rest tg v16:List Atom)(v17 v18:Int)(fr:List ByteArray)(clk:Int)(l:Ent Term)(m2 m3:Bool)(h:fr.length<=maxEl):
  Yb6 loO rec (rest,tg,v16,v17,v18,fr,(fr.length:Int),0,clk,l,m2,m3)=some (rest,tg,v16,v17,v18,clk,delG l fr,m2,m3):=by
 have:=Yao (step:=YcY loO rec) (s:=(rest,tg,v16,v17,v18,fr,(fr.length:Int),0,clk,l,m2,m3)) (r:=(rest,tg,v16,v17,v18,clk,delG l fr,m2,m3)) (N:=fr.length) (st:=fun n=>(rest,tg,v16,v17,v18,fr,(fr.length:Int),(n:Int),clk,delG l (fr.take n),m2,m3)) rfl
  (by simp only[YcY,nlI,cond_false,YGt])
  (fun n hn=>by
   simp only[YcY,ltI hn,cond_true,inc hn h,YHf]
   rw[chkT _ (by omega)]
   have e:delG l (fr.take (n+1))=mdl eqS (fr.getD n nul0) (delG l (fr.take n)):=Ycb (fun l k=>mdl eqS k l) l (d:=nul0) hn
   rw[e])
 trivial
theorem YBp(rec:XRec)(a:Atom)(r tg:List Atom)(hto:tg.length<=maxEl)(ha:a.2.length<=maxEl)(m2 m3:Bool)
  (hrec: ∀clk (l:Ent Term),KN l-> ∃clk' l',rec (r,tg,clk,l,m2,m3)=some ((exM r (lk l) tg).isSome,clk',l',m2,m3)/\KN l'/\lk l'=(exM r (lk l) tg).getD (lk l)) (σ:Asg Term):
  ∀(k n:Nat),n+k=tg.length-> ∀(clk:Int) (l:Ent Term),KN l->lk l=σ-> ∃clk' l',KN l'/\ (
   match(tg.drop n).findSome? (fun b=>(atM σ a b).bind fun σ'=>exM r σ' tg)with
   |some σ'=>Yb7 loO rec (a::r,tg,tg,(tg.length:Int),(n:Int),clk,l,m2,m3)=some (.inl (true,clk',l',m2,m3))/\lk l'=σ'
   |none=>Yb7 loO rec (a::r,tg,tg,(tg.length:Int),(n:Int),clk,l,m2,m3)=some (.inr (clk',l',m2,m3))/\lk l'=σ):=by
 have hM:maxEl=1073741824:=rfl
 intro k
 induction k with
 |zero=>
  intro n hn clk l hk hl
  refine⟨clk,l,hk,?_⟩
  rw[YGO (by omega)]
  simp
  refine⟨?_,hl⟩
  show YB5 _ _=_
  rw[Yan]
  have e:n=tg.length:=by omega
  subst e
  simp only[YbJ,nlI,cond_false]
 |succ k ih=>
  intro n hn clk l hk hl
  have hlt:n<tg.length:=by omega
  rw[Ycd (d:=zA) hlt,List.findSome?_cons]
  have hA:=YA3 a (tg.getD n zA) clk hk
  have hT:=tAt a (tg.getD n zA) clk l m2 m3 ha
  rw[hl]at hA
  have step: ∀s',YbJ loO rec (a::r,tg,tg,(tg.length:Int),(n:Int),clk,l,m2,m3)=s'->Yb7 loO rec (a::r,tg,tg,(tg.length:Int),(n:Int),clk,l,m2,m3)=(match s' with|some (.inl s)=>Yb7 loO rec s|some (.inr x)=>some x|none=>none):=by
   intro s' hs;subst hs
   show YB5 _ _=_
   rw[Yan]
   rcases YbJ loO rec (a::r,tg,tg,(tg.length:Int),(n:Int),clk,l,m2,m3)with _| (_|_)<;>rfl
  have nx:YHl .i64 ((n:Int)+1)=((n+1:Nat):Int):=inc hlt hto
  have e0:(a::r).getD 0 zA=a:=rfl
  have e1:((a::r).take ((a::r).length:Int).toNat).drop 1=r:=by simp
  have es:YbJ loO rec (a::r,tg,tg,(tg.length:Int),(n:Int),clk,l,m2,m3)=YG1 (q82 loO a.1 a.2 (tg.getD n zA).1 (tg.getD n zA).2 clk l m2 m3) fun y346=>bif y346.2.1 then(YG1 (rec (r,tg,y346.2.2.1,y346.2.2.2.1,y346.2.2.2.2.1,y346.2.2.2.2.2)) fun y347=>bif y347.1 then(some (.inr (.inl (true,y347.2.1,y347.2.2.1,y347.2.2.2.1,y347.2.2.2.2))))else(YG1 (Yb6 loO rec (a::r,tg,tg,(tg.length:Int),(n:Int),y346.1,(y346.1.length:Int),(0:Int),y347.2.1,y347.2.2.1,y347.2.2.2.1,y347.2.2.2.2)) fun y348=>some (.inl (y348.1,y348.2.1,y348.2.2.1,y348.2.2.2.1,(YHl .i64 (y348.2.2.2.2.1+(1:Int))),y348.2.2.2.2.2.1,y348.2.2.2.2.2.2.1,y348.2.2.2.2.2.2.2.1,y348.2.2.2.2.2.2.2.2))))else(YG1 (Yb6 loO rec (a::r,tg,tg,(tg.length:Int),(n:Int),y346.1,(y346.1.length:Int),(0:Int),y346.2.2.1,y346.2.2.2.1,y346.2.2.2.2.1,y346.2.2.2.2.2)) fun y349=>some (.inl (y349.1,y349.2.1,y349.2.2.1,y349.2.2.2.1,(YHl .i64 (y349.2.2.2.2.1+(1:Int))),y349.2.2.2.2.2.1,y349.2.2.2.2.2.2.1,y349.2.2.2.2.2.2.2.1,y349.2.2.2.2.2.2.2.2))):=by
   simp only[YbJ,ltI hlt,cond_true,YHf]
   rw[chkT _ (by omega),chkT _ (by simp)]
   congr 1
   funext y346
   congr 1
   rw[chkT _ (by grind)]
   simp
  rw[es,hT,YBP]at step
  simp only at step
  have hlen:(atG a (tg.getD n zA) clk l).2.2.2.length<=maxEl:=YGU hA.len ha
  rw[hA.ok]at step
  cases hat:atM σ a (tg.getD n zA)with
  |none=>
   rw[hat]at step
   simp only[Option.isSome_none,cond_false]at step
   rw[tDel _ _ _ _ _ _ _ _ _ _ _ hlen,YBP]at step
   simp only[nx]at step
   obtain⟨d1,d2⟩:=YeY hA.kn hA.new hA.old
   obtain⟨clk',l',k1,k2⟩:=ih (n+1) (by omega) (atG a (tg.getD n zA) clk l).2.1 _ d1 d2
   refine⟨clk',l',k1,?_⟩
   simp_all
  |some σ1=>
   rw[hat]at step
   simp only[Option.isSome_some,cond_true]at step
   obtain⟨c2,l2,r1,r2,r3⟩:=hrec (atG a (tg.getD n zA) clk l).2.1 _ hA.kn
   rw[r1,YBP,hA.val σ1 hat]at step
   rw[hA.val σ1 hat]at r3
   simp
   cases hx:exM r σ1 tg with
   |some σ2=>
    grind
   |none=>
    rw[hx]at step r3
    simp only[Option.isSome_none,cond_false]at step
    rw[tDel _ _ _ _ _ _ _ _ _ _ _ hlen,YBP]at step
    simp only[nx]at step
    simp at r3
    obtain⟨d1,d2⟩:=YeY (σ0:=σ) r2 hA.new (by rw[r3,<-hA.val σ1 hat];exact hA.old)
    obtain⟨clk',l',k1,k2⟩:=ih (n+1) (by omega) c2 _ d1 d2
    refine⟨clk',l',k1,?_⟩
    simp_all
theorem YBq(tg:List Atom)(hto:tg.length<=maxEl)(m2 m3:Bool)(j:Nat): ∀(rest:List Atom),(∀a∈rest,a.2.length<=maxEl)-> ∀(clk:Int) (l:Ent Term),KN l->
  ∃clk' l',Ya9 loO (rest.length+1+j) (rest,tg,clk,l,m2,m3)=some ((exM rest (lk l) tg).isSome,clk',l',m2,m3)/\KN l'/\lk l'=(exM rest (lk l) tg).getD (lk l):=by
 intro rest
 induction rest with
 |nil=>
  intro _ clk l hk
  refine⟨clk,l,?_,hk,rfl⟩
  have e:([]:List Atom).length+1+j=j+1:=by grind
  rw[e];rfl
 |cons a r ih=>
  intro ha clk l hk
  have e:(a::r).length+1+j=(r.length+1+j)+1:=by grind
  rw[e]
  obtain⟨clk',l',k1,k2⟩:=YBp (Ya9 loO (r.length+1+j)) a r tg hto (ha a (YGo ..)) m2 m3 (fun clk l hk=>ih (fun b hb=>ha b (YGv _ hb)) clk l hk) (lk l) tg.length 0 (by omega) clk l hk rfl
  rw[YGz]at k2
  refine⟨clk',l',?_⟩
  show Yew loO (Ya9 loO (r.length+1+j)) (a::r) tg clk l m2 m3=_/\_
  unfold Yew
  simp only[exM]
  rw[show((0:Nat):Int)=0 from rfl]at k2
  cases hx:tg.findSome? (fun b=>(atM (lk l) a b).bind fun σ'=>exM r σ' tg)with
  |some σ'=>
   rw[hx]at k2
   rw[k2.1,YBP]
   exact⟨rfl,k1,k2.2⟩
  |none=>
   rw[hx]at k2
   rw[k2.1,YBP]
   exact⟨rfl,k1,k2.2⟩
theorem YoV: ∀n x y,Ya9 loO n x=some y->Ya9 loO (n+1) x=some y
 |0,_,_,h=>by cases h
 |n+1,x,y,h=>by
  have ih:=YoV n
  have h':Yew loO (Ya9 loO n) x.1 x.2.1 x.2.2.1 x.2.2.2.1 x.2.2.2.2.1 x.2.2.2.2.2=some y:=h
  refine YDD h' (fun h=>h) fun h=>YEA h (fun z hz=> ?_) fun _ h=>h
  refine Yop (fun s q hs=> ?_) hz
  obtain⟨s1,s2,s3,s4,s5,s6,s7,s8,s9⟩:=s
  exact YDD hs (fun h=>chkm h fun h=>chkm h fun h=>YFX h fun _ h=>YDD h (fun h=>chkm h fun h=>YEA h (ih _) fun _ h=>YDD h (fun h=>h) fun h=>h) fun h=>h) fun h=>h
theorem tExt(rest tg:List Atom)(hto:tg.length<=maxEl)(hr: ∀a∈rest,a.2.length<=maxEl)(m2 m3:Bool)(clk:Int)(l:Ent Term)(hk:KN l):
  ∃clk' l',q83 loO rest tg clk l m2 m3=some ((exM rest (lk l) tg).isSome,clk',l',m2,m3)/\KN l'/\lk l'=(exM rest (lk l) tg).getD (lk l):=by
 obtain⟨clk',l',h1,h2⟩:=YBq tg hto m2 m3 0 rest hr clk l hk
 exact⟨clk',l',Ygi YoV (n:=0) (by rw[YGW];exact h1),h2⟩
end
end Go.Abs.G47
namespace Go.Abs.G47
open Go Go.Abs
noncomputable section
def SzT(l:List Term):Prop:= ∀t∈l,t.2.2.2.size<=maxEl
def YGe(N:List ByteArray)(T:List Term):Asg Term:=fun k=>bif decide (0<=idxI N k)then some (T.getD (idxI N k).toNat zM)else none
end
end Go.Abs.G47
namespace Go.Abs.G47
open Go Go.Abs
noncomputable section
theorem YGf(l:List Atom)(h:l.length<=maxEl)(h2:sumT l<=maxEl):q84 loO l=some (YBZ [] l):=by
 have inner: ∀(i:Nat) (out:List ByteArray),i<l.length->out.length<=sumT (l.take i)->Yg1 loO (l,(l.length:Int),(i:Int),(l.getD i zA).2,((l.getD i zA).2.length:Int),0,out)=some (l,(l.length:Int),(i:Int),YCm out (l.getD i zA).2):=by
  intro i out hi ho
  have hb:=Ybb hi
  refine Yao (st:=fun n=>(l,(l.length:Int),(i:Int),(l.getD i zA).2,((l.getD i zA).2.length:Int),(n:Int),YCm out ((l.getD i zA).2.take n))) (N:=(l.getD i zA).2.length) rfl ?_ (fun n hn=> ?_)
  ·simp only[Yex,nlI,cond_false,YGt]
  ·have ht:=YeU ((l.getD i zA).2.take n) out
   rw[List.length_take,Nat.min_eq_left (by omega)]at ht
   simp only[Yex,YHf,ltI hn,cond_true,inc hn (show(l.getD i zA).2.length<=maxEl by omega)]
   rw[chkT _ (by omega),Yhs _ _ (by omega),YBP]
   have e:YCm out ((l.getD i zA).2.take (n+1))=addV (YCm out ((l.getD i zA).2.take n)) ((l.getD i zA).2.getD n zM).1:=Ycb (fun o (t:Term)=>addV o t.1) out (d:=zM) hn
   rw[e]
   rw[chkT _ (by grind)]
   unfold addV
   grind
 have outer:Yg2 loO (l,(l.length:Int),0,[])=some (YBZ [] l):=by
  refine Yao (st:=fun n=>(l,(l.length:Int),(n:Int),YBZ [] (l.take n))) (N:=l.length) rfl ?_ (fun n hn=> ?_)
  ·simp only[Yey,nlI,cond_false,YGt]
  ·have hl:=Yca (l.take n) []
   simp at hl
   simp only[Yey,ltI hn,cond_true,YHf]
   rw[chkT _ (by omega),inner n _ hn hl,YBP]
   simp only[inc hn h]
   have e:YBZ [] (l.take (n+1))=YCm (YBZ [] (l.take n)) (l.getD n zA).2:=Ycb (fun o (a:Atom)=>YCm o a.2) [] (d:=zA) hn
   rw[e]
 unfold q84
 simp_all
def vT(v:ByteArray):Term:=(v,0,0,nul0)
def hdS(hd tg:List ByteArray):Nat->Int×Ent Term
 |0=>(0,[])
 |n+1=>(mck eqS (hdS hd tg n).1 (hd.getD n nul0) (hdS hd tg n).2,mpt eqS (hdS hd tg n).1 (hd.getD n nul0) (vT (tg.getD n nul0)) (hdS hd tg n).2)
def hdA(hd tg:List ByteArray):Nat->Asg Term
 |0=>fun _=>none
 |n+1=>upd (hdA hd tg n) (hd.getD n nul0) (vT (tg.getD n nul0))
theorem YoW(hd tg:List ByteArray): ∀n,KN (hdS hd tg n).2/\lk (hdS hd tg n).2=hdA hd tg n
 |0=>⟨List.nodup_nil,by rfl⟩
 |n+1=>by
  obtain⟨h1,h2⟩:=YoW hd tg n
  refine⟨Yol h1,?_⟩
  show lk (mpt eqS _ _ _ _)=upd _ _ _
  rw[Yhw,h2]
def hmM(fh:List ByteArray)(fa:List Atom)(th:List ByteArray)(ta:List Atom):Option (Asg Term):=
 bif !wfB fh fa then none else bif !wfB th ta then none else bif !decide ((fh.length:Int)=(th.length:Int))then none else exM fa (hdA fh th fh.length) ta
def imgs(fa:List Atom)(σ:Asg Term):List Term:=(YBZ [] fa).map fun v=>(σ v).getD zM
theorem YhH{hd:List ByteArray}{l:List Atom}(h:wfB hd l=true):l.length<=6:=by
 unfold wfB at h
 grind
theorem tHom(fh:List ByteArray)(fa:List Atom)(th:List ByteArray)(ta:List Atom)(h1:fh.length<=maxEl)(h2:sumT fa<=maxEl)(h3:th.length<=maxEl)(h4:sumT ta<=maxEl):
  q85 loO fh fa th ta=some (match hmM fh fa th ta with|some σ=>(imgs fa σ,true)|none=>([],false)):=by
 have hm:maxEl=1073741824:=rfl
 unfold q85 hmM
 rw[tWf fh fa h1 h2,YBP]
 cases hw:wfB fh fa with
 |false=>rfl
 |true=>
  rw[tWf th ta h3 h4,YBP]
  cases hw':wfB th ta with
  |false=>rfl
  |true=>
   by_cases hl:(fh.length:Int)=(th.length:Int)
   ·simp only[hl,decide_true,YHa,cond_false]
    have e14:Yg3 loO (fh,(fh.length:Int),0,fh,fa,th,ta,0,[],false,false)=some (fh,fa,th,ta,(hdS fh th fh.length).1,(hdS fh th fh.length).2,false,false):=by
     refine Yao (st:=fun n=>(fh,(fh.length:Int),(n:Int),fh,fa,th,ta,(hdS fh th n).1,(hdS fh th n).2,false,false)) (N:=fh.length) rfl ?_ (fun n hn=> ?_)
     ·simp only[Yez,nlI,cond_false]
     ·simp only[Yez,ltI hn,cond_true,inc hn h1,YHf]
      rw[chkT _ (by omega),chkT _ (by omega)]
      rfl
    rw[hl]at e14
    rw[e14,YBP]
    obtain⟨k1,k2⟩:=YoW fh th fh.length
    have hf:=YhH hw
    have hal: ∀a∈fa,a.2.length<=maxEl:=fun a ha=>by
     obtain⟨m,hm',e⟩:=YGD.1 ha
     have:=Ybb (l:=fa) hm'
     grind
    obtain⟨clk',l',r1,r2,r3⟩:=tExt fa ta (by have:=YhH hw';omega) hal false false (hdS fh th fh.length).1 (hdS fh th fh.length).2 k1
    rw[r1,YBP]
    rw[k2]at r3
    rw[k2]
    cases hx:exM fa (hdA fh th fh.length) ta with
    |none=>rfl
    |some σ=>
     rw[hx]at r3
     simp at r3
     rw[YGf fa (by omega) h2,YBP]
     have hvl:=Yca fa []
     simp at hvl
     have e3:Yg4 loO (YBZ [] fa,((YBZ [] fa).length:Int),0,clk',l',false,false,[])=some (imgs fa σ):=by
      refine Yao (st:=fun n=>(YBZ [] fa,((YBZ [] fa).length:Int),(n:Int),clk',l',false,false,((YBZ [] fa).take n).map fun v=>(σ v).getD zM)) (N:=(YBZ [] fa).length) rfl ?_ (fun n hn=> ?_)
      ·simp only[YeA,nlI,cond_false,YGt]
       rfl
      ·simp only[YeA,ltI hn,cond_true,inc hn (show(YBZ [] fa).length<=maxEl by omega),YHf]
       rw[chkT _ (by omega),chkT _ (by grind),Ybn (d:=nul0) hn,List.map_append]
       have e:mgt eqS ((YBZ [] fa).getD n nul0) l' zM=(σ ((YBZ [] fa).getD n nul0)).getD zM:=by
        rw[<-r3]
        rfl
       simp_all
     simp_all
   simp_all
def atOk(τ:Asg Term)(a b:Atom):Prop:=a.1=b.1/\a.2.length=b.2.length/\Img τ (pT a.2) b.2
theorem YBr{σ σ':Asg Term}{a b:Atom}(h:atM σ a b=some σ'):leA σ σ'/\atOk σ' a b:=by
 unfold atM at h
 by_cases h1:a.1=b.1
 ·by_cases h2:(a.2.length:Int)=(b.2.length:Int)
  ·simp only[h1,h2,decide_true,YHa,cond_false]at h
   obtain⟨k1,k2⟩:=Yhx h
   exact⟨k1,h1,by omega,k2⟩
  simp_all
 simp_all
theorem YBs{σ τ:Asg Term}{a b:Atom}(h:leA σ τ)(hb:atOk τ a b): ∃σ',atM σ a b=some σ'/\leA σ' τ:=by
 obtain⟨h1,h2,h3⟩:=hb
 unfold atM
 simp only[h1,h2,decide_true,YHa,cond_false]
 exact Yhy h h3
theorem YhI: ∀{rest:List Atom} {σ σ':Asg Term} {tg:List Atom},exM rest σ tg=some σ'->leA σ σ'/\ ∀a∈rest,∃b∈tg,atOk σ' a b
 | [],σ,σ',tg,h=>by injection h with h;subst h;exact⟨leA.refl _,fun a ha=>nomatch ha⟩
 |a::r,σ,σ',tg,h=>by
  obtain⟨b,hb,h⟩:=List.exists_of_findSome?_eq_some h
  cases h1:atM σ a b with
  |none=>simp_all
  |some σ1=>
   rw[h1]at h
   obtain⟨k1,k2,k3,k4⟩:=YBr h1
   obtain⟨i1,i2⟩:=YhI (show exM r σ1 tg=some σ' from h)
   refine⟨k1.trans i1,fun c hc=> ?_⟩
   rcases YGn.1 hc with rfl|hc
   ·exact⟨b,hb,k2,k3,k4.mono i1⟩
   simp_all
theorem YoX: ∀{rest:List Atom} {σ τ:Asg Term} {tg:List Atom},leA σ τ->(∀a∈rest,∃b∈tg,atOk τ a b)-> ∃σ',exM rest σ tg=some σ'
 | [],σ,τ,tg,h,hr=>⟨σ,rfl⟩
 |a::r,σ,τ,tg,h,hr=>by
  obtain⟨b,hb,h1⟩:=hr a (YGo ..)
  obtain⟨σ1,e1,l1⟩:=YBs h h1
  obtain⟨σ2,e2⟩:=YoX (rest:=r) l1 (fun c hc=>hr c (YGv _ hc))
  simp only[exM]
  cases hx:tg.findSome? (fun b=>(atM σ a b).bind fun σ'=>exM r σ' tg)with
  |some σ'=>simp
  |none=>
   grind
end
end Go.Abs.G47
namespace Go.Abs.G47
open Go Go.Abs
noncomputable section
theorem YhJ{v:Int×Int×ByteArray}(h:vB v=true):v.2.2.size<=200:=by
 obtain⟨a,b,c⟩:=v
 unfold vB q6 at h
 by_cases h0:a=0<;>by_cases h1:a=1<;>by_cases h2:a=2<;>by_cases h3:a=3<;>by_cases h4:b=0<;>by_cases h5:1<=b<;>simp[h0,h1,h2,h3,h4,h5]at h<;>first| (subst h;exact YGZ _)|grind|omega
theorem YoY{t:Term}(h:YCh t=true):t.2.2.2.size<=200:=by
 unfold YCh at h
 by_cases h0:t.1=nul0
 ·simp only[h0,decide_true,YHa,cond_false]at h
  exact YhJ h
 ·simp only[h0,decide_false,YHb,cond_true,YG9,decide_eq_true_eq]at h
  rw[h.2.2.2.1];trivial
theorem YBt{l:List Term}(h:badT l=false): ∀t∈l,YCh t=true:=fun t ht=>by
 unfold badT at h
 rw[Ycc (fun t=> !YCh t) l zM]at h
 simp_all
structure Wf(hd:List ByteArray)(l:List Atom):Prop where
 len:l.length<=6
 ne:l≠ []
 nm: ∀a∈l,YCd a.1=true
 tm: ∀a∈l,∀t∈a.2,YCh t=true
 hd: ∀n,n<hd.length->hd.getD n nul0∈YBZ [] l/\hd.getD n nul0∉hd.take n
theorem wf_iff{hd:List ByteArray}{l:List Atom}:wfB hd l=true↔Wf hd l:=by
 unfold wfB YDh
 rw[show(fun m=> !YCd (l.getD m zA).1||badT (l.getD m zA).2)=fun m=>(fun a:Atom=> !YCd a.1||badT a.2) (l.getD m zA)from rfl,Ycc (fun a:Atom=> !YCd a.1||badT a.2) l zA]
 have ebad: ∀t:List Term,badT t=false↔ ∀x∈t,YCh x=true:=fun t=>⟨YBt,fun h=>by
  unfold badT;rw[Ycc (fun t=> !YCh t) t zM,List.any_eq_false];simp_all⟩
 have eh:(!anyN (fun m=> !fHd hd l m) hd.length 0)=true↔ ∀n,n<hd.length->hd.getD n nul0∈YBZ [] l/\hd.getD n nul0∉hd.take n:=by
  rw[Bool.not_eq_true',<-YHe,anyN_iff]
  constructor
  ·intro h n hn
   have:fHd hd l n=true:=by
    simp_all
   unfold fHd at this
   rw[YG9,inL_iff,Bool.not_eq_true',<-YHe,inL_iff]at this
   trivial
  ·rintro h ⟨m,_,h2,h3⟩
   have:=h m (by omega)
   unfold fHd at h3
   rw[inL_iff.2 this.1]at h3
   cases hi:inL (hd.take m) (hd.getD m nul0)with
   |true=>exact this.2 (inL_iff.1 hi)
   |false=>simp_all
 by_cases h1:(l.length:Int)<1
 ·simp only[h1,decide_true,cond_true]
  refine⟨fun h=>(by cases h),fun h=> ?_⟩
  have:l=[]:=YGq.1 (by omega)
  exact absurd this h.ne
 ·by_cases h6:(6:Int)< (l.length:Int)
  ·simp only[h1,h6,decide_false,decide_true,cond_true,cond_false]
   exact⟨fun h=>(by cases h),fun h=>by have:=h.len;omega⟩
  ·simp only[h1,h6,decide_false,cond_false]
   cases ha:l.any (fun a:Atom=> !YCd a.1||badT a.2)with
   |true=>
    refine⟨fun h=>(by cases h),fun h=> ?_⟩
    rw[List.any_eq_true]at ha
    obtain⟨a,h2,h3⟩:=ha
    rw[h.nm a h2,(ebad a.2).2 (h.tm a h2)]at h3;cases h3
   |false=>
    simp only[cond_false]
    rw[eh]
    constructor
    ·intro h
     refine⟨by omega,fun e=>by simp_all,fun a hx=> ?_,fun a hx=> ?_,h⟩
     ·grind
     grind
    ·intro h;exact h.hd
theorem Wf.sz{hd:List ByteArray}{l:List Atom}(h:Wf hd l): ∀a∈l,SzT a.2:=fun a ha t ht=>by
 have:=YoY (h.tm a ha t ht)
 have:maxEl=1073741824:=rfl
 omega
theorem YhK{fh th:List ByteArray}(hd: ∀n,n<fh.length->fh.getD n nul0∉fh.take n){i:Nat}: ∀n,n<=fh.length->i<n->hdA fh th n (fh.getD i nul0)=some (vT (th.getD i nul0))
 |0,_,h=>by omega
 |n+1,h,hi=>by
  unfold hdA upd
  by_cases e:i=n
  ·simp_all
  ·rw[if_neg,YhK hd n (by omega) (by omega)]
   intro e'
   refine hd n (by omega) (e'▸ ?_)
   rw[List.mem_take_iff_getElem]
   grind
end
end Go.Abs.G47
namespace Go.Abs.G47
open Go Go.Abs
noncomputable section
def cT(v:Val):Term:=(nul0,v)
def dA(N:List ByteArray)(T:List Term):Asg Val:=fun k=>(YGe N T k).map (·.2)
structure ROk(db:List Tabl)(l:List Atom):Prop where
 ix: ∀a∈l,0<=tabI db a.1
 sz: ∀a∈l,SzT a.2
theorem YoZ(db:List Tabl){l:List Atom}{n:Nat}(hn:n<l.length):(tbs db l).getD n zT=tabO db (l.getD n zA).1:=by
 unfold tbs;simp_all
theorem QOk.at{db:List Tabl}{hd:List ByteArray}{l:List Atom}(h:QOk db hd l){a:Atom}(ha:a∈l):(tabO db a.1).2.2.length<=6/\ ∀row∈ (tabO db a.1).2.2,row.2.length=a.2.length/\ ∀v∈row.2,v.2.2.size<=maxEl:=by
 have hM:maxEl=1073741824:=rfl
 obtain⟨n,hn,e⟩:=YGD.1 ha
 have e':l.getD n zA=a:=by simp_all
 have h1:=h.row n hn
 have h2:=h.tb.ar n hn
 have h3:=h.val n hn
 rw[YoZ db hn,e']at h1 h2 h3
 exact⟨h1,fun row hr=>⟨h2 row hr,fun v hv=>by have:=YhJ (h3 row hr v hv).1;omega⟩⟩
end
end Go.Abs.G47
namespace Go.Abs.G47
open Go Go.Abs
noncomputable section
theorem YBu{a:Vals}(h:Ok a)(hl:a.length<=1000):SzV a:=by
 have hM:maxEl=1073741824:=rfl
 exact⟨by omega,fun v hv=>by have:=YhJ (h v hv).1;omega⟩
theorem YFZ(L:List Vals)(hl:L.length<=maxEl)(hs: ∀x∈L,SzV x):q137 loO L L=some true:=by
 unfold q137
 have:Yhk loO (L,L,0)=some (.inr ()):=by
  refine Yao (st:=fun n=>(L,L,(n:Int))) (N:=L.length) rfl ?_ (fun n hn=> ?_)
  ·simp only[YeN,nlI,cond_false]
  ·simp only[YeN,ltI hn,cond_true,inc hn hl,YHf]
   have:=hs _ (Yaj (d:=([]:Vals)) hn)
   rw[chkT _ (by omega),chkT _ (by omega),YBe _ _ this this,YBP,decide_eq_true rfl]
   rfl
 simp
 rw[this,YBP,Yof]
end
end Go.Abs.G47
namespace Go.Abs.G47
open Go Go.Abs
noncomputable section
abbrev zS:ByteArray:=nul0
theorem idx_no{l:List ByteArray}{v:ByteArray}:idxI l v<0↔v∉l:=by
 rw[<-decide_eq_true_iff (p:=idxI l v<0),YeW,Bool.not_eq_true',<-YHe,inL_iff]
theorem Yo0{n N:Nat}(hn:n<N)(hN:N<=1073741824):YHl .i64 ((n:Int)+1)=((n+1:Nat):Int):=inc hn hN
theorem YBv(c:Int): ∃v,q117 loO c=some v/\goodV v:=by
 have g: ∀a b:Int,∀s:ByteArray,vB (a,b,s)=true->(decide (-9223372036854775808<=b)&&decide (b<=9223372036854775807))=true->goodV (a,b,s):=fun a b s h1 h2=>by
  simp at h2
  trivial
 have v0: ∀n:Int,vB (1,n,YHk #[])=true:=fun n=>by rfl
 unfold q117
 rw[chkT _ (by decide)]
 by_cases h0:c.tmod 12=0
 ·simp_all
 rw[decide_eq_false h0]
 by_cases h1:c.tmod 12=1
 ·simp_all
 rw[decide_eq_false h1]
 by_cases h2:c.tmod 12=2
 ·simp_all
 rw[decide_eq_false h2]
 by_cases h3:c.tmod 12=3
 ·exact⟨_,by rw[decide_eq_true h3];rfl,g _ _ _ (by rfl) (by decide)⟩
 rw[decide_eq_false h3]
 by_cases h4:c.tmod 12=4
 ·exact⟨_,by rw[decide_eq_true h4];rfl,g _ _ _ (by rfl) (by decide)⟩
 rw[decide_eq_false h4]
 by_cases h5:c.tmod 12=5
 ·exact⟨_,by rw[decide_eq_true h5];rfl,g _ _ _ (by rfl) (by decide)⟩
 rw[decide_eq_false h5]
 by_cases h6:c.tmod 12=6
 ·exact⟨_,by rw[decide_eq_true h6];rfl,g _ _ _ (by rfl) (by decide)⟩
 rw[decide_eq_false h6]
 by_cases h7:c.tmod 12=7
 ·exact⟨_,by rw[decide_eq_true h7];rfl,g _ _ _ (by rfl) (by decide)⟩
 rw[decide_eq_false h7]
 by_cases h8:c.tmod 12=8
 ·simp_all
 rw[decide_eq_false h8]
 by_cases h9:c.tmod 12=9
 ·exact⟨_,by rw[decide_eq_true h9];rfl,g _ _ _ (by rfl) (by decide)⟩
 rw[decide_eq_false h9]
 by_cases h10:c.tmod 12=10
 ·exact⟨_,by rw[decide_eq_true h10];rfl,g _ _ _ (by rfl) (by decide)⟩
 simp_all
def ofV(c:Int):Int×Int×ByteArray:=(q117 loO c).getD zV
theorem Yc8(c:Int):q117 loO c=some (ofV c)/\goodV (ofV c):=by
 obtain⟨v,h,g⟩:=YBv c
 have:ofV c=v:=by unfold ofV;simp_all
 simp_all
structure GT(nm:ByteArray)(attrs:List ByteArray)(rows:Rws):Prop where
 nm:YCd nm=true
 na:attrs.length<=16
 nr:rows.length<=1000
 at': ∀a∈attrs,YCd a=true
 nd:attrs.Nodup
 ids:((0:Int)::rows.map (·.1)).Pairwise (· < ·)
 len: ∀r∈rows,r.2.length=attrs.length
 ok: ∀r∈rows,∀v∈r.2,vB v=true
theorem YhL{attrs:List ByteArray}(h:attrs.Nodup){n:Nat}(hn:n<attrs.length):attrs.getD n zS∉attrs.take n:=by
 intro hm
 rw[<-List.take_append_drop n attrs,List.nodup_append]at h
 refine h.2.2 _ hm _ ?_ rfl
 rw[YGK,YGh hn]
 exact List.mem_drop_iff_getElem.2 ⟨0,by omega,by simp⟩
theorem YBw{nm:ByteArray}{attrs:List ByteArray}{rows:Rws}(g:GT nm attrs rows):YCt nm attrs rows=0:=by
 have hA:anyN (fA attrs) attrs.length 0=false:=by
  rw[<-YHe,anyN_iff]
  rintro⟨m,_,h2,h3⟩
  have hm:m<attrs.length:=by omega
  unfold fA at h3
  rw[g.at' _ (Yaj hm),YHa,Bool.false_or,decide_eq_true_eq]at h3
  have:=idx_no.2 (YhL g.nd hm)
  grind
 have hR:YBR (fV attrs rows) rows.length 0 (.inr ())= .inr ():=by
  refine YeR _ _ (fun m _ hm=> ?_)
  have hm:m<rows.length:=by omega
  have hmem:=Yaj (d:=zR) hm
  have hid:YDt rows m< (rows.getD m zR).1:=by
   have hp:=List.pairwise_iff_getElem.1 g.ids
   have e:(rows.getD m zR).1=((0:Int)::rows.map (·.1))[m+1]'(by simp_all):=by
    simp_all
   cases m with
   |zero=>rw[e];exact hp 0 1 (by simp) (by simp_all) (by omega)
   |succ k=>
    have e2:YDt rows (k+1)=((0:Int)::rows.map (·.1))[k+1]'(by grind):=by
     show(rows.getD k zR).1=_
     grind
    rw[e,e2];exact hp (k+1) (k+2) _ _ (by omega)
  unfold fV
  have hv:vsB (rows.getD m zR).2=true:=by
   unfold vsB
   rw[Bool.not_eq_true',<-YHe,anyN_iff]
   rintro⟨k,_,h2,h3⟩
   rw[g.ok _ hmem _ (Yaj (by omega))]at h3
   cases h3
  rw[decide_eq_false (by omega),g.len _ hmem,decide_eq_true rfl,hv];rfl
 have h1:=g.na
 have h2:=g.nr
 unfold YCt
 rw[g.nm,decide_eq_false (by omega),decide_eq_false (by omega),hA,hR];rfl
abbrev nmL:List ByteArray:=[(YHk #[97]),(YHk #[98]),(YHk #[99]),(YHk #[100]),(YHk #[101]),(YHk #[102]),(YHk #[103]),(YHk #[104])]
def cellV(codes:List Int)(k:Nat):Int×Int×ByteArray:=if k<codes.length then ofV (codes.getD k 0)else ofV 0
def recR(n:Nat)(g:Int)(rows:List (List Int)):Rws:=tab rows.length fun i=>(1+(i:Int)*g,tab n (cellV (rows.getD i [])))
theorem YBx(n i:Nat)(a b:Int)(rows:List (List Int))(hi:i<rows.length)(hn:n<=5)(v4:ByteArray)(v5:List ByteArray)(v6:Rws)(t:ByteArray)(id:Int)(h3:List ByteArray)(h4:Rws):
  Yhc loO ((n:Int),(i:Int),0,a,b,rows,v4,v5,v6,t,id,h3,h4,[])=some ((n:Int),(i:Int),a,b,rows,v4,v5,v6,t,id,h3,h4,tab n (cellV (rows.getD i []))):=by
 have hm:maxEl=1073741824:=rfl
 refine Yao (N:=n) (st:=fun k=>((n:Int),(i:Int),(k:Int),a,b,rows,v4,v5,v6,t,id,h3,h4,tab k (cellV (rows.getD i [])))) ?_ ?_ (fun k hk=> ?_)
 ·rfl
 ·simp[YeJ]
 ·have e1:decide ((k:Int)< (n:Int))=true:=by simp_all
  have e2:=Yo0 hk (by omega)
  simp only[YeJ,e1,cond_true,e2,YHf]
  rw[chkT _ (by omega),<-Yb9]
  by_cases hc:k< (rows.getD i []).length
  ·have ec:cellV (rows.getD i []) k=ofV ((rows.getD i []).getD k 0):=by unfold cellV;simp_all
   rw[decide_eq_true (by omega:(k:Int)< ((rows.getD i []).length:Int)),cond_true,chkT _ (by omega),chkT _ (by omega),(Yc8 _).1,YBP,ec,chkT _ (by rw[YaB];grind)]
  ·have ec:cellV (rows.getD i []) k=ofV 0:=by unfold cellV;simp_all
   rw[decide_eq_false (by omega: ¬ (k:Int)< ((rows.getD i []).length:Int)),cond_false,(Yc8 _).1,YBP,ec,chkT _ (by rw[YaB];grind)]
theorem YBy(n:Nat)(a b:Int)(rows:List (List Int))(hr:rows.length<=8)(hn:n<=5)(hb0:0<=b):q118 loO a b rows (n:Int)=some (YHk #[114],nmL.take n,recR n (1+b.tmod 3) rows):=by
 have hm:maxEl=1073741824:=rfl
 have hg0:0<=b.tmod 3:=Int.tmod_nonneg _ hb0
 have hg1:b.tmod 3<3:=Int.tmod_lt_of_pos _ (by decide)
 have hL:Yhd loO ((n:Int),0,a,b,rows,zS,[],[],YHk #[114],nmL.take n,[])=some (zS,[],[],YHk #[114],nmL.take n,recR n (1+b.tmod 3) rows):=by
  refine Yao (N:=rows.length) (st:=fun i=>((n:Int),(i:Int),a,b,rows,zS,[],[],YHk #[114],nmL.take n,tab i fun i=>(1+(i:Int)*(1+b.tmod 3),tab n (cellV (rows.getD i []))))) ?_ ?_ (fun i hi=> ?_)
  ·rfl
  ·simp[YeK,recR]
  ·have e1:decide ((i:Int)< (rows.length:Int))=true:=by simp_all
   have e2:=Yo0 hi (by omega)
   have hprod:(i:Int)*(1+b.tmod 3)<=24/\0<=(i:Int)*(1+b.tmod 3):=by
    refine⟨?_,Int.mul_nonneg (by omega) (by omega)⟩
    have h1:(i:Int)*(1+b.tmod 3)<=(i:Int)*3:=Int.mul_le_mul_of_nonneg_left (by omega) (by omega)
    omega
   have e3:YHl .i64 (1+b.tmod 3)=1+b.tmod 3:=wr6 (by omega) (by omega)
   have e4:YHl .i64 ((i:Int)*(1+b.tmod 3))=(i:Int)*(1+b.tmod 3):=wr6 (by omega) (by omega)
   have e5:YHl .i64 (1+(i:Int)*(1+b.tmod 3))=1+(i:Int)*(1+b.tmod 3):=wr6 (by omega) (by omega)
   have e6:YHl .i64 (b.tmod 3)=b.tmod 3:=wr6 (by omega) (by omega)
   simp only[YeK,e1,cond_true,e3,e4,e5,e6]
   rw[chkT _ (by decide),YBx n i a b rows hi hn,YBP,<-Yb9]
   simp only[e2]
   rw[chkT _ (by rw[YaB];grind)]
 unfold q118
 have e0:(nmL.take (n:Int).toNat).drop 0=nmL.take n:=by rfl
 rw[chkT _ (by grind)]
 rw[e0,chkT _ (by grind),hL,YBP]
theorem YhM{n:Nat}{g:Int}{rows:List (List Int)}{r:Int×Vals}(h:r∈recR n g rows):r.2.length=n/\ ∀v∈r.2,goodV v:=by
 obtain⟨i,hi,rfl⟩:=YGr.1 h
 refine⟨YaB _ _,fun v hv=> ?_⟩
 obtain⟨k,hk,rfl⟩:=YGr.1 hv
 unfold cellV
 split
 ·exact(Yc8 _).2
 trivial
theorem YBz(nm:ByteArray)(hnm:YCd nm=true)(n:Nat)(g:Int)(rows:List (List Int))(hr:rows.length<=8)(hn:n<=5)(hg:1<=g):GT nm (nmL.take n) (recR n g rows):=by
 have hnl:(nmL.take n).length=n:=by grind
 have nB: ∀a∈nmL,YCd a=true:=by
  trivial
 refine⟨hnm,by omega,by unfold recR;rw[YaB];omega,fun a ha=>nB a (List.mem_of_mem_take ha),List.Nodup.sublist (List.take_sublist _ _) (by decide),?_,fun r hr=>by rw[(YhM hr).1,hnl],fun r hr v hv=>((YhM hr).2 v hv).1⟩
 have e:(recR n g rows).map (·.1)=tab rows.length fun i=>1+(i:Int)*g:=by unfold recR tab;simp
 rw[e,List.pairwise_cons]
 constructor
 ·intro x hx
  obtain⟨i,hi,rfl⟩:=YGr.1 hx
  have:=Int.mul_nonneg (show(0:Int)<=(i:Int) by omega) (show 0<=g by omega)
  omega
 ·unfold tab
  rw[List.pairwise_map]
  refine List.Pairwise.imp (fun{a b} h=> ?_) List.pairwise_lt_range
  have h1:((a:Int)+1)*g<=(b:Int)*g:=Int.mul_le_mul_of_nonneg_right (by omega) (by omega)
  grind
abbrev nm3:List ByteArray:=[(YHk #[114]),(YHk #[115]),(YHk #[116])]
def drT(d:List (Int×Int×List (List Int)))(i:Nat):Tabl:=
 (nm3.getD i nul0,nmL.take (((d.getD i (0,0,[])).1.tmod 4).tmod 6).toNat,recR (((d.getD i (0,0,[])).1.tmod 4).tmod 6).toNat (1+(d.getD i (0,0,[])).2.1.tmod 3) (d.getD i (0,0,[])).2.2)
structure DOk(db:List Tabl):Prop where
 len:db.length<=3
 gt: ∀t∈db,GT t.1 t.2.1 t.2.2
 na: ∀t∈db,t.2.1.length<=5
 rs: ∀t∈db,t.2.2.length<=6
 gv: ∀t∈db,∀r∈t.2.2,∀v∈r.2,goodV v
 nd:(db.map (·.1)).Nodup
theorem Yo1{n:Int}(h:0<=n)(h':n<=255): ∃m:Nat,(n.tmod 4).tmod 6=(m:Int)/\m<=3/\YHl .i64 ((n.tmod 4).tmod 6)=(m:Int):=by
 have h1:=Int.tmod_nonneg 4 h
 have h2:n.tmod 4<4:=Int.tmod_lt_of_pos _ (by decide)
 have h3:(n.tmod 4).tmod 6=n.tmod 4:=Int.tmod_eq_of_lt h1 (by omega)
 refine⟨(n.tmod 4).toNat,by omega,by omega,?_⟩
 rw[h3,wr6 (by omega) (by omega)];omega
theorem YF0(a b:Int)(rows:List (List Int))(ha:0<=a)(ha':a<=255)(hb:0<=b):q119 loO (a.tmod 4) b rows 6=some (bif decide ((6:Int)< (rows.length:Int))then(nul0,[],[],false)else((YHk #[114]),nmL.take ((a.tmod 4).tmod 6).toNat,recR ((a.tmod 4).tmod 6).toNat (1+b.tmod 3) rows,true)):=by
 unfold q119
 by_cases h6:(6:Int)< (rows.length:Int)
 ·simp_all
 ·rw[decide_eq_false h6,cond_false,cond_false,chkT _ (by decide)]
  obtain⟨m,h1,h2,h3⟩:=Yo1 ha ha'
  rw[h3,YBy m _ b rows (by omega) (by omega) hb,YBP,h1]
  rfl
theorem YF1(d:List (Int×Int×List (List Int)))(hd: ∀x∈d,0<=x.1/\x.1<=255/\0<=x.2.1): ∃db ok,q120 loO d=some (db,ok)/\DOk db:=by
 have hm:maxEl=1073741824:=rfl
 unfold q120
 have e3:Yhe loO (d,0,[],[])=some (YBR (R:=(Bool×List Tabl)⊕ (List (Int×Int×List (List Int))×List Tabl×List Tabl)) (fun m=>bif decide ((6:Int)< ((d.getD m (0,0,[])).2.2.length:Int))then some (.inl (false,[]))else none) (min d.length 3) 0 (.inr (d,[],tab (min d.length 3) (drT d)))):=by
  refine Yam (fun n=>(d,(n:Int),[],tab n (drT d))) _ (min d.length 3) _ rfl ?_ (fun n hn=> ?_)
  ·by_cases h:d.length<=3
   ·rw[Nat.min_eq_left h]
    simp only[YcZ,nlI,cond_false]
   ·rw[Nat.min_eq_right (by omega)]
    have e:decide (((3:Nat):Int)< (d.length:Int))=true:=by grind
    have e':decide (((3:Nat):Int)<3)=false:=rfl
    simp only[YcZ,e,e',cond_true,cond_false]
  ·have h1:decide ((n:Int)< (d.length:Int))=true:=by grind
   have h2:decide ((n:Int)<3)=true:=by grind
   obtain⟨p1,p2,p3⟩:=hd _ (Yaj (d:=(0,0,[])) (show n<d.length by omega))
   simp only[YcZ,h1,h2,cond_true,YHf]
   rw[chkT _ (by omega),chkT _ (by decide),chkT _ (by omega),chkT _ (by omega),YF0 _ _ _ p1 p2 p3,YBP]
   have e2:YHl .i64 ((n:Int)+1)=((n+1:Nat):Int):=by rw[wr6 (by omega) (by omega)];omega
   by_cases h6:(6:Int)< ((d.getD n (0,0,[])).2.2.length:Int)
   ·simp_all
   ·rw[decide_eq_false h6]
    simp only[cond_false,YHa]
    rw[chkT _ (by simp_all),chkT _ (by rw[YaB];grind),e2,<-Yb9]
    rfl
 rw[e3,YBP]
 rcases YaO (f:=fun m=>bif decide ((6:Int)< ((d.getD m (0,0,[])).2.2.length:Int))then some (.inl (false,[]))else none) (r0:=(.inr (d,[],tab (min d.length 3) (drT d)):(Bool×List Tabl)⊕ (List (Int×Int×List (List Int))×List Tabl×List Tabl))) (min d.length 3) 0 with⟨m,r,g1,g2,g3,g4⟩| ⟨g1,g2⟩
 ·rw[g4]
  cases hc:decide ((6:Int)< ((d.getD m (0,0,[])).2.2.length:Int))with
  |false=>grind
  |true=>
   rw[hc]at g3;injection g3 with g3;subst g3
   exact⟨[],false,rfl,YGZ _,(fun t h=>nomatch h),(fun t h=>nomatch h),(fun t h=>nomatch h),(fun t h=>nomatch h),List.nodup_nil⟩
 ·rw[g1]
  refine⟨tab (min d.length 3) (drT d),decide ((d.length:Int)<=3),rfl,?_⟩
  have hN:min d.length 3<=d.length/\min d.length 3<=3:=⟨Nat.min_le_left ..,Nat.min_le_right ..⟩
  generalize min d.length 3=N at*
  have hall: ∀i,i<N-> ∃n:Nat,n<=3/\ (drT d i)=(nm3.getD i nul0,nmL.take n,recR n (1+(d.getD i (0,0,[])).2.1.tmod 3) (d.getD i (0,0,[])).2.2)/\ (d.getD i (0,0,[])).2.2.length<=6/\1<=1+(d.getD i (0,0,[])).2.1.tmod 3:=fun i hi=>by
   obtain⟨p1,p2,p3⟩:=hd _ (Yaj (d:=(0,0,[])) (show i<d.length by omega))
   obtain⟨m,q1,q2,_⟩:=Yo1 p1 p2
   refine⟨m,q2,by unfold drT;simp_all,?_,by grind⟩
   grind
  have hn3: ∀i,i<3->YCd (nm3.getD i nul0)=true:=fun i hi=>YGx.1 (show nm3.all YCd=true by rfl) _ (Yaj hi)
  have hmem: ∀t∈tab N (drT d),∃i,i<N/\t=drT d i:=fun t ht=>by
   unfold tab at ht
   grind
  refine⟨by rw[YaB];omega,fun t ht=> ?_,fun t ht=> ?_,fun t ht=> ?_,fun t ht r hr v hv=> ?_,?_⟩
  ·obtain⟨i,hi,rfl⟩:=hmem t ht
   obtain⟨n,h1,h2,h3,h4⟩:=hall i hi
   rw[h2]
   exact YBz _ (hn3 i (by omega)) n _ _ (by omega) (by omega) h4
  ·grind
  ·obtain⟨i,hi,rfl⟩:=hmem t ht
   obtain⟨n,h1,h2,h3,h4⟩:=hall i hi
   rw[h2]
   show(recR n _ _).length<=6
   unfold recR;rw[YaB];exact h3
  ·obtain⟨i,hi,rfl⟩:=hmem t ht
   obtain⟨n,h1,h2,h3,h4⟩:=hall i hi
   rw[h2]at hr
   exact(YhM hr).2 v hv
  ·have e:(tab N (drT d)).map (·.1)=nm3.take N:=by
    unfold tab
    rw[YGG]
    match N,hN.2 with
    |0,_=>rfl
    |1,_=>rfl
    |2,_=>rfl
    |3,_=>rfl
   rw[e]
   exact List.Nodup.sublist (List.take_sublist _ _) (by decide)
theorem YBA{l:List ByteArray}(h:l.Nodup){i j:Nat}(hi:i<l.length)(hj:j<l.length)(e:l[i]=l[j]):i=j:=by
 have h:=List.pairwise_iff_getElem.1 h
 grind
theorem DOk.get{db:List Tabl}(h:DOk db){n:Nat}(hn:n<db.length):tabI db (db.getD n zT).1=(n:Int):=by
 rcases YeT (p:=tabP db (db.getD n zT).1) (k:=db.length) (n:=0)with⟨m,_,h2,h3,h4⟩| ⟨h1,h2⟩
 ·have e:(db.getD m zT).1=(db.getD n zT).1:=of_decide_eq_true h3
  have hm:m<db.length:=by omega
  have:m=n:=YBA h.nd (by simp_all) (by simp_all) (by
   simp_all)
  have h4:tabI db (db.getD n zT).1=(m:Int):=h4
  omega
 ·have:=h2 n (YGZ _) (by omega)
  unfold tabP at this
  simp_all
theorem DOk.tab{db:List Tabl}(h:DOk db){n:Nat}(hn:n<db.length):tabO db (db.getD n zT).1=db.getD n zT:=by
 unfold tabO
 rw[h.get hn,decide_eq_true (by omega),cond_true,YHf]
theorem DOk.valid{db:List Tabl}(h:DOk db):dbI db=0:=by
 unfold dbI
 have hl:=h.len
 rw[decide_eq_false (by omega),cond_false,YeR _ _ (fun m _ hm=> ?_)]
 have hm':m<db.length:=by omega
 have g:=h.gt _ (Yaj (d:=zT) hm')
 unfold fD
 rw[YBw g]
 have hneg:decide (0<=tabI (db.take m) (db.getD m zT).1)=false:=by
  rw[decide_eq_false_iff_not]
  rcases YeT (p:=tabP (db.take m) (db.getD m zT).1) (k:=(db.take m).length) (n:=0)with⟨x,_,h2,h3,h4⟩| ⟨h1,h2⟩
  ·exfalso
   rw[YGW,List.length_take]at h2
   have e:((db.take m).getD x zT).1=(db.getD m zT).1:=of_decide_eq_true h3
   have a1:=h.get (n:=x) (by omega)
   have a2:=h.get hm'
   grind
  ·have h1:tabI (db.take m) (db.getD m zT).1= -1:=h1
   omega
 grind
abbrev nm4:List ByteArray:=[(YHk #[120]),(YHk #[121]),(YHk #[122]),(YHk #[119])]
def vn(c:Int):ByteArray:=nm4.getD (c.tmod 4).toNat nul0
theorem rVar(c:Int)(h:0<=c):q121 loO c=some (vn c):=by
 have h1:=Int.tmod_nonneg 4 h
 have h2:c.tmod 4<4:=Int.tmod_lt_of_pos _ (by decide)
 unfold q121
 rw[chkT _ (by decide),chkT _ ⟨h1,h2⟩]
 rfl
theorem YBB(c:Int)(h:0<=c):YCd (vn c)=true/\vn c≠nul0:=by
 have h2:c.tmod 4<4:=Int.tmod_lt_of_pos _ (by decide)
 unfold vn
 have hm:nm4.getD (c.tmod 4).toNat nul0∈nm4:=Yaj (show(c.tmod 4).toNat<4 by omega)
 refine⟨YGx.1 (show nm4.all YCd=true by rfl) _ hm,fun e=> ?_⟩
 grind
def cdT(c:Int):Term:=if 4<=c then cT (ofV (YHl .u8 (c-4)))else vT (vn c)
theorem YBC(c:Int)(h:0<=c):YCh (cdT c)=true:=by
 unfold cdT YCh
 by_cases h4:4<=c
 ·rw[if_pos h4]
  have:=(Yc8 (YHl .u8 (c-4))).2.1
  trivial
 ·rw[if_neg h4]
  obtain⟨n1,n2⟩:=YBB c h
  simp only[vT,n1,n2,decide_false,decide_true,YHb,cond_true,YHd]
theorem rJ(c:Int)(hc:0<=c)(i k:Int)(db:List Tabl)(xh:List Int)(xa:List (Int×List Int))(v0:List ByteArray)(v1:List Atom)(t0:ByteArray)(t1:List ByteArray)(t2:Rws)(a9:ByteArray)(h6:List ByteArray)(h7:List Atom)(h8:List Term)(h:h8.length+1<=maxEl):
  Yc0 loO (i,k,c,db,xh,xa,v0,v1,t0,t1,t2,a9,h6,h7,h8)=some (i,k,db,xh,xa,v0,v1,t0,t1,t2,a9,h6,h7,h8++[cdT c]):=by
 simp only[Yc0]
 rw[rVar c hc,YBP]
 unfold cdT
 by_cases h4:4<=c
 ·rw[decide_eq_true h4,cond_true,(Yc8 _).1,YBP,chkT _ (by trivial),if_pos h4];rfl
 ·rw[decide_eq_false h4,cond_false,chkT _ (by trivial),if_neg h4];rfl
def cdAt(codes:List Int)(k:Nat):Int:=if k<codes.length then codes.getD k 0 else 0
theorem Yo2{codes:List Int}(h: ∀c∈codes,0<=c)(k:Nat):0<=cdAt codes k:=by
 unfold cdAt
 split
 ·simp_all
 trivial
def qAt(db:List Tabl)(xa:List (Int×List Int))(i:Nat):Atom:=
 let t:=db.getD ((xa.getD i (0,[])).1.tmod (db.length:Int)).toNat zT
 (t.1,tab t.2.1.length fun k=>cdT (cdAt (xa.getD i (0,[])).2 k))
structure GQ(db:List Tabl)(hd:List ByteArray)(l:List Atom):Prop where
 len:l.length<=3
 ne:1<=l.length
 at': ∀a∈l,∃n,n<db.length/\a.1=(db.getD n zT).1/\a.2.length=(db.getD n zT).2.1.length
 tm: ∀a∈l,∀t∈a.2,YCh t=true
 hl:hd.length<=4
 hv: ∀v∈hd,v∈YBZ [] l
 nd:hd.Nodup
def hdF(vs:List ByteArray)(xh:List Int):Nat->List ByteArray
 |0=>[]
 |n+1=>bif inL vs (vn (xh.getD n 0))&& !inL (hdF vs xh n) (vn (xh.getD n 0))then hdF vs xh n++[vn (xh.getD n 0)]else hdF vs xh n
theorem YhN(vs:List ByteArray)(xh:List Int): ∀n,(hdF vs xh n).length<=n/\ (∀v∈hdF vs xh n,v∈vs)/\ (hdF vs xh n).Nodup
 |0=>⟨YGQ _,fun v h=>(by cases h),List.nodup_nil⟩
 |n+1=>by
  obtain⟨h1,h2,h3⟩:=YhN vs xh n
  simp only[hdF]
  cases hc:inL vs (vn (xh.getD n 0))&& !inL (hdF vs xh n) (vn (xh.getD n 0))with
  |false=>grind
  |true=>
   rw[YG9,Bool.not_eq_true',<-YHe,inL_iff,inL_iff]at hc
   grind
theorem YF2{db:List Tabl}(h:DOk db)(xh:List Int)(xa:List (Int×List Int))(hxh: ∀c∈xh,0<=c)(hxa: ∀x∈xa,0<=x.1/\x.1<=255/\ ∀c∈x.2,0<=c):
  ∃hd l ok,q122 loO db xh xa=some (hd,l,ok)/\ (ok=true->GQ db hd l):=by
 have hm:maxEl=1073741824:=rfl
 have hdl:=h.len
 unfold q122
 by_cases h0:(db.length:Int)=0
 ·simp_all
 by_cases h1:(xa.length:Int)<1
 ·simp_all
 by_cases h3:(3:Int)< (xa.length:Int)
 ·simp_all
 rw[decide_eq_false h0,decide_eq_false h1,decide_eq_false h3]
 simp only[cond_false]
 have hix: ∀i,i<xa.length->0<=(xa.getD i (0,[])).1.tmod (db.length:Int)/\ (xa.getD i (0,[])).1.tmod (db.length:Int)< (db.length:Int):=fun i hi=>
  ⟨Int.tmod_nonneg _ (hxa _ (Yaj hi)).1,Int.tmod_lt_of_pos _ (by omega)⟩
 have e12:Yhg loO (0,db,xh,xa,[],[],[],[])=some (xh,xa,[],[],[],tab xa.length (qAt db xa)):=by
  refine Yao (st:=fun i=>((i:Int),db,xh,xa,[],[],[],tab i (qAt db xa))) (N:=xa.length) rfl ?_ (fun i hi=> ?_)
  ·simp only[YeM,nlI,cond_false]
  ·obtain⟨p1,p2,p3⟩:=hxa _ (Yaj (d:=(0,[])) hi)
   obtain⟨q1,q2⟩:=hix i hi
   have w1:YHl .i64 (xa.getD i (0,[])).1=(xa.getD i (0,[])).1:=wr6 (by omega) (by omega)
   simp only[YeM,ltI hi,cond_true,YHf,w1]
   rw[chkT _ (by omega),chkT _ h0,chkT _ ⟨q1,q2⟩]
   have hna:(db.getD ((xa.getD i (0,[])).1.tmod (db.length:Int)).toNat zT).2.1.length<=5:=h.na _ (Yaj (by omega))
   have hq:qAt db xa i=((db.getD ((xa.getD i (0,[])).1.tmod (db.length:Int)).toNat zT).1,tab (db.getD ((xa.getD i (0,[])).1.tmod (db.length:Int)).toNat zT).2.1.length fun k=>cdT (cdAt (xa.getD i (0,[])).2 k)):=rfl
   rw[<-Yb9,hq]
   generalize db.getD ((xa.getD i (0,[])).1.tmod (db.length:Int)).toNat zT=t at*
   have e15:Yhf loO ((i:Int),0,db,xh,xa,[],[],t.1,t.2.1,t.2.2,t.1,[],tab i (qAt db xa),[])=some ((i:Int),db,xh,xa,[],[],t.1,[],tab i (qAt db xa),tab t.2.1.length fun k=>cdT (cdAt (xa.getD i (0,[])).2 k)):=by
    refine Yao (st:=fun k=>((i:Int),(k:Int),db,xh,xa,[],[],t.1,t.2.1,t.2.2,t.1,[],tab i (qAt db xa),tab k fun k=>cdT (cdAt (xa.getD i (0,[])).2 k))) (N:=t.2.1.length) rfl ?_ (fun k hk=> ?_)
    ·simp only[YeL,nlI,cond_false]
    ·have hc:=Yo2 p3 k
     simp only[YeL,ltI hk,cond_true,YHf]
     rw[chkT _ (by omega),<-Yb9]
     by_cases hkc:k< (xa.getD i (0,[])).2.length
     ·have ec:cdAt (xa.getD i (0,[])).2 k=(xa.getD i (0,[])).2.getD k 0:=by unfold cdAt;omega
      rw[decide_eq_true (by omega:(k:Int)< ((xa.getD i (0,[])).2.length:Int)),cond_true,chkT _ (by omega),chkT _ (by omega),rJ _ (ec▸hc) _ _ _ _ _ _ _ _ _ _ _ _ _ _ (by rw[YaB];omega),YBP,ec]
      simp only[inc hk (show t.2.1.length<=maxEl by omega)]
     ·have ec:cdAt (xa.getD i (0,[])).2 k=0:=by unfold cdAt;omega
      rw[decide_eq_false (by omega: ¬ (k:Int)< ((xa.getD i (0,[])).2.length:Int)),cond_false,rJ _ (Int.le_refl _) _ _ _ _ _ _ _ _ _ _ _ _ _ _ (by rw[YaB];omega),YBP,ec]
      simp only[inc hk (show t.2.1.length<=maxEl by omega)]
   rw[e15,YBP]
   dsimp only
   rw[chkT _ (by rw[YaB];grind)]
   simp only[inc hi (show xa.length<=maxEl by omega)]
 rw[e12,YBP]
 dsimp only
 have hsum: ∀n,n<=3->sumT (tab n (qAt db xa))<=5*n\/ ¬n<=xa.length:=by
  intro n
  induction n with
  |zero=>intro _;exact .inl (YGQ _)
  |succ n ih=>
   intro h3
   by_cases hx:n+1<=xa.length
   ·rcases ih (by omega)with hs|hs
    ·refine .inl ?_
     rw[<-Yb9]
     have hq:=hix n (by omega)
     have:(qAt db xa n).2.length<=5:=by
      unfold qAt
      simp only[YaB]
      exact h.na _ (Yaj (by omega))
     unfold sumT at hs⊢
     grind
    ·omega
   omega
 have hs:sumT (tab xa.length (qAt db xa))<=15:=by
  grind
 rw[YFV _ (by rw[YaB];omega) (by omega),YBP]
 have hvl:=Yca (tab xa.length (qAt db xa)) []
 simp only[List.length_nil,YGW]at hvl
 generalize hL:tab xa.length (qAt db xa)=l at*
 have e3:Yhh loO (YBZ [] l,0,xh,xa,[],[],l,[])=some ([],[],l,hdF (YBZ [] l) xh (min xh.length 4)):=by
  refine Yao (st:=fun n=>(YBZ [] l,(n:Int),xh,xa,[],[],l,hdF (YBZ [] l) xh n)) (N:=min xh.length 4) rfl ?_ (fun n hn=> ?_)
  ·by_cases h4:xh.length<=4
   ·rw[Nat.min_eq_left h4]
    simp only[Yc1,nlI,cond_false]
   ·rw[Nat.min_eq_right (by omega)]
    have e:decide (((4:Nat):Int)< (xh.length:Int))=true:=by grind
    have e':decide (((4:Nat):Int)<4)=false:=rfl
    simp only[Yc1,e,e',cond_true,cond_false]
  ·have a1:decide ((n:Int)< (xh.length:Int))=true:=by grind
   have a2:decide ((n:Int)<4)=true:=by grind
   have e2:YHl .i64 ((n:Int)+1)=((n+1:Nat):Int):=by rw[wr6 (by omega) (by omega)];omega
   have hc:=hxh _ (Yaj (d:=0) (show n<xh.length by omega))
   have hf:=(YhN (YBZ [] l) xh n).1
   simp only[Yc1,a1,a2,cond_true,e2,YHf]
   rw[chkT _ (by omega),rVar _ hc,YBP,Yc5 _ _ (by omega),YBP,Yc5 _ _ (by omega),YBP,YeV,YeW,chkT _ (by grind)]
   simp only[hdF]
   grind
 rw[e3,YBP]
 obtain⟨f1,f2,f3⟩:=YhN (YBZ [] l) xh (min xh.length 4)
 have hll:l.length=xa.length:=by rw[<-hL,YaB]
 refine⟨hdF (YBZ [] l) xh (min xh.length 4),l,true,rfl,fun _=>⟨by omega,by omega,fun a ha=> ?_,fun a ha t ht=> ?_,by omega,f2,f3⟩⟩
 ·rw[<-hL]at ha
  unfold tab at ha
  obtain⟨i,hi,rfl⟩:=YGr.1 ha
  have hi':i<xa.length:=by simp_all
  obtain⟨q1,q2⟩:=hix i hi'
  exact⟨_,by omega,rfl,by unfold qAt;simp only[YaB]⟩
 ·rw[<-hL]at ha
  unfold tab at ha
  obtain⟨i,hi,rfl⟩:=YGr.1 ha
  have hi':i<xa.length:=by simp_all
  unfold qAt at ht
  simp only[tab]at ht
  obtain⟨k,hk,rfl⟩:=YGr.1 ht
  exact YBC _ (Yo2 (hxa _ (Yaj hi')).2.2 k)
end
end Go.Abs.G47
namespace Go.Abs.G47
open Go Go.Abs
noncomputable section
theorem GQ.rok{db:List Tabl}{hd:List ByteArray}{l:List Atom}(h:DOk db)(g:GQ db hd l):ROk db l:=by
 refine⟨fun a ha=> ?_,fun a ha t ht=> ?_⟩
 ·obtain⟨n,hn,e,_⟩:=g.at' a ha
  rw[e,h.get hn];omega
 ·have hM:maxEl=1073741824:=rfl
  have:=YoY (g.tm a ha t ht)
  omega
theorem GQ.tabs{db:List Tabl}{hd:List ByteArray}{l:List Atom}(h:DOk db)(g:GQ db hd l){a:Atom}(ha:a∈l):tabO db a.1∈db/\ (tabO db a.1).2.1.length=a.2.length:=by
 obtain⟨n,hn,e,e2⟩:=g.at' a ha
 rw[e,h.tab hn]
 simp_all
theorem GQ.sum{db:List Tabl}{hd:List ByteArray}{l:List Atom}(h:DOk db)(g:GQ db hd l):sumT l<=15:=by
 have:sumT l<=l.length*5:=YA1 fun n hn=>by
  have:=g.tabs h (Yaj (d:=zA) hn)
  have:=h.na _ this.1
  omega
 have:=g.len
 omega
theorem GQ.qok{db:List Tabl}{hd:List ByteArray}{l:List Atom}(h:DOk db)(g:GQ db hd l):QOk db hd l:=by
 have hM:maxEl=1073741824:=rfl
 have hs:=g.sum h
 have hl:=g.len
 have hh:=g.hl
 have hd':=h.len
 have key: ∀n,n<l.length->((tbs db l).getD n zT)∈db/\ ((tbs db l).getD n zT).2.1.length=(l.getD n zA).2.length:=fun n hn=>by
  rw[YoZ db hn];exact g.tabs h (Yaj hn)
 refine⟨⟨by unfold tbs;simp,by omega,fun n hn=> ?_,fun n hn=> ?_,fun n hn row hr=> ?_⟩,by omega,by omega,by omega,fun n hn=>h.rs _ (key n hn).1,fun n hn row hr v hv=>h.gv _ (key n hn).1 row hr v hv⟩
 ·have:=Ybb hn;omega
 ·have:=h.rs _ (key n hn).1;omega
 ·rw[(h.gt _ (key n hn).1).len row hr,(key n hn).2]
theorem GQ.qI{db:List Tabl}{hd:List ByteArray}{l:List Atom}(h:DOk db)(g:GQ db hd l):qI db hd l=0:=by
 unfold G47.qI
 have hl:=g.len
 have hn:=g.ne
 rw[h.valid,decide_eq_true rfl,decide_eq_false (by omega),decide_eq_false (by omega)]
 rw[YeR _ _ (fun m _ hm=> ?_)]
 ·have:YDh hd l=true:=by
   unfold YDh
   rw[Bool.not_eq_true',<-YHe,anyN_iff]
   rintro⟨m,_,h2,h3⟩
   have hm:m<hd.length:=by omega
   unfold fHd at h3
   rw[inL_iff.2 (g.hv _ (Yaj hm)),Bool.true_and,Bool.not_not,inL_iff]at h3
   exact YhL g.nd hm h3
  simp_all
 ·have hm':m<l.length:=by omega
  have hmem:=Yaj (d:=zA) hm'
  obtain⟨t1,t2⟩:=g.tabs h hmem
  unfold fQ
  rw[decide_eq_true ((g.rok h).ix _ hmem),decide_eq_true (by rw[t2])]
  have:badT (l.getD m zA).2=false:=by
   unfold badT
   rw[Ycc (fun t=> !YCh t) _ zM,List.any_eq_false]
   intro t ht
   rw[g.tm _ hmem t ht];simp
  simp_all
theorem GQ.few{db:List Tabl}{hd:List ByteArray}{l:List Atom}(h:DOk db)(g:GQ db hd l):(YDi db l).length<=216:=
 YGU (g.qok h).len (Nat.pow_le_pow_right (by omega) g.len)
theorem GQ.lists{db:List Tabl}{hd:List ByteArray}{l:List Atom}(h:DOk db)(g:GQ db hd l):(rowsR (anss db hd l)).length<=maxEl/\ ∀x∈rowsR (anss db hd l),SzV x:=by
 have hM:maxEl=1073741824:=rfl
 have:=g.few h
 have h2:=YoP (anss db hd l)
 have hh:=g.hl
 have h3:(anss db hd l).length=(YDi db l).length:=by unfold anss;simp
 refine⟨by omega,fun x hx=> ?_⟩
 have:=(g.qok h).all x (rowsR_mem.1 hx)
 exact YBu this.1 (by omega)
theorem rng8{n:Int}(h:(Ty.i .u8).rng n):0<=n/\n<=255:=by
 have h':(Lit.int .u8 n).wf=true:=h
 simp only[Lit.wf,YG9,decide_eq_true_eq]at h'
 trivial
theorem YBD{d:List (Int×Int×List (List Int))}(h:(Ty.l (cs [.i .u8,.i .u8,.l (cs [.l (cs [.i .u8])])])).rng d): ∀x∈d,0<=x.1/\x.1<=255/\0<=x.2.1:=fun x hx=>by
 have h1:(cs [.i .u8,.i .u8,.l (cs [.l (cs [.i .u8])])]).rng x:=h x hx
 exact⟨(rng8 h1.1).1,(rng8 h1.1).2,(rng8 h1.2.1).1⟩
theorem Yo3{l:List Int}(h:(Ty.l (cs [.i .u8])).rng l): ∀c∈l,0<=c:=fun c hc=>by
 have h1:(cs [.i .u8]).rng c:=h c hc
 exact(rng8 h1.1).1
theorem YBE{l:List (Int×List Int)}(h:(Ty.l (cs [.i .u8,.l (cs [.i .u8])])).rng l): ∀x∈l,0<=x.1/\x.1<=255/\ ∀c∈x.2,0<=c:=fun x hx=>by
 have h1:(cs [.i .u8,.l (cs [.i .u8])]).rng x:=h x hx
 exact⟨(rng8 h1.1).1,(rng8 h1.1).2,Yo3 h1.2.1⟩
end
end Go.Abs.G47
namespace Go.Abs.G47
open Go Go.Abs
noncomputable section
theorem YhO: ∀{L:List (List Term×Rws)} {σ:Asg Val} {r:List Int} {w:Way},w∈wyM L σ r->leA σ w.2/\ ∀q∈L,∃row∈q.2,Img w.2 (pV q.1) row.2
 | [],σ,r,w,hw=>by rw[wyM,YGE]at hw;subst hw;exact⟨leA.refl _,fun q h=>nomatch h⟩
 |q::L,σ,r,w,hw=>by
  rw[wyM,List.mem_flatMap]at hw
  obtain⟨row,hr,hw⟩:=hw
  cases hx:tsM σ (pV q.1) row.2 with
  |none=>rw[hx]at hw;cases hw
  |some σ'=>
   rw[hx]at hw
   obtain⟨a1,a2⟩:=Yhx hx
   obtain⟨b1,b2⟩:=YhO hw
   refine⟨a1.trans b1,fun p hp=> ?_⟩
   rcases YGn.1 hp with rfl|hp
   ·exact⟨row,hr,a2.mono b1⟩
   ·exact b2 p hp
theorem Yo4: ∀{L:List (List Term×Rws)} {σ τ:Asg Val} {r:List Int},leA σ τ->(∀q∈L,∃row∈q.2,Img τ (pV q.1) row.2)-> ∃w∈wyM L σ r,leA w.2 τ
 | [],σ,τ,r,h,_=>⟨(r,σ),by rw[wyM];exact YGE.2 rfl,h⟩
 |q::L,σ,τ,r,h,hq=>by
  obtain⟨row,hr,hi⟩:=hq q (YGo ..)
  obtain⟨σ',e1,l1⟩:=Yhy h hi
  obtain⟨w,hw,l2⟩:=Yo4 (L:=L) (r:=r++[row.1]) l1 (fun p hp=>hq p (YGv _ hp))
  refine⟨w,?_,l2⟩
  rw[wyM,List.mem_flatMap]
  exact⟨row,hr,by rw[e1];exact hw⟩
theorem Ye8(db:List Tabl): ∀l:List Atom,PR l (tbs db l)=l.map fun a=>(a.2,(tabO db a.1).2.2)
 | []=>rfl
 |a::l=>by
  have:=Ye8 db l
  unfold PR tbs at this⊢
  rw[YGj,List.zipWith_cons_cons,this];rfl
def evT(τ:Asg Val)(t:Term):Option Val:=if t.1=nul0 then some t.2 else τ t.1
def cmp(σ:Asg Term)(τ:Asg Val):Asg Val:=fun v=>(σ v).bind (evT τ)
theorem Yo5{σ:Asg Term}{τ:Asg Val}: ∀{ts us:List Term} {row:Vals},Img σ (pT ts) us->ts.length=us.length->Img τ (pV us) row->Img (cmp σ τ) (pV ts) row
 | [],_,_,_,_,_=>trivial
 |_::_,[],_,h,_,_=>h.elim
 |_::_,_::_,[],_,_,h=>h.elim
 |t::ts,u::us,v::row,h,hl,h'=>by
  refine⟨?_,Yo5 h.2 (by simpa using hl) h'.2⟩
  have h1:=h.1
  have h2:=h'.1
  by_cases h0:t.1=nul0
  ·simp only[h0,if_true]at h1⊢
   rw[<-h1]at h2
   simp only[h0,if_true]at h2
   exact h2
  ·simp only[h0,if_false]at h1⊢
   unfold cmp
   rw[h1]
   unfold evT
   simp only[YG4]
   by_cases h3:u.1=nul0
   ·simp only[h3,if_true]at h2⊢;rw[h2]
   ·simp only[h3,if_false]at h2⊢;exact h2
theorem Yo6{τ:Asg Val}: ∀{ts:List Term} {us:Vals},Img τ (pV ts) us-> ∀t∈ts,t.1≠nul0-> ∃u,τ t.1=some u
 | [],_,_,t,ht,_=>nomatch ht
 |_::_,[],h,_,_,_=>h.elim
 |q::ts,u::us,h,t,ht,h0=>by
  rcases YGn.1 ht with rfl|ht
  ·have:=h.1;simp only[h0,if_false]at this;exact⟨u,this⟩
  ·exact Yo6 h.2 t ht h0
theorem YBF{db:List Tabl}{l:List Atom}{w:Way}(hw:w∈YDi db l){v:ByteArray}(hv:v∈YBZ [] l): ∃u,w.2 v=some u:=by
 rcases(YbK l [] v).1 hv with h| ⟨h0,a,ha,t,ht,rfl⟩
 ·cases h
 ·obtain⟨_,h2⟩:=YhO hw
  rw[Ye8]at h2
  obtain⟨row,_,hi⟩:=h2 _ (List.mem_map_of_mem ha)
  exact Yo6 hi t ht h0
theorem YBG{α:Type}{a b:List α}(hl:a.length=b.length)(d:α)(h: ∀n,n<a.length->a.getD n d=b.getD n d):a=b:=Yoe (d:=d) hl h
theorem Yo7{db:List Tabl}{ph qh:List ByteArray}{pa qa:List Atom}(hq: ∀v∈qh,v∈YBZ [] qa){σ:Asg Term}(hs:hmM qh qa ph pa=some σ){x:Vals}(hx:x∈anss db ph pa):x∈anss db qh qa:=by
 unfold hmM at hs
 cases hw:wfB qh qa with
 |false=>rw[hw]at hs;cases hs
 |true=>
  cases hw':wfB ph pa with
  |false=>rw[hw,hw']at hs;cases hs
  |true=>
   rw[hw,hw']at hs
   by_cases hl:(qh.length:Int)=(ph.length:Int)
   ·simp only[hl,decide_true,YHa,cond_false]at hs
    obtain⟨g1,g2⟩:=YhI hs
    obtain⟨w,hw1,rfl⟩:=YGr.1 hx
    have W:=wf_iff.1 hw
    obtain⟨_,k2⟩:=YhO hw1
    rw[Ye8]at k2
    obtain⟨w',m1,m2⟩:=Yo4 (L:=PR qa (tbs db qa)) (σ:=fun _=>none) (τ:=cmp σ w.2) (r:=[]) (fun k v e=>by cases e) (fun q hq=>by
     rw[Ye8]at hq
     obtain⟨a,ha,rfl⟩:=YGr.1 hq
     obtain⟨b,hb,n1,n2,n3⟩:=g2 a ha
     obtain⟨row,r1,r2⟩:=k2 _ (List.mem_map_of_mem hb)
     simp only at r1 r2⊢
     exact⟨row,by rw[n1];exact r1,Yo5 n3 n2 r2⟩)
    refine YGr.2 ⟨w',m1,?_⟩
    unfold ansM
    refine YBG (by simp;omega) zV (fun n hn=> ?_)
    rw[YGy]at hn
    have hn':n<ph.length:=by omega
    have e1:(qh.map fun v=>(w'.2 v).getD zV).getD n zV=(w'.2 (qh.getD n nul0)).getD zV:=by
     rw[YGK,YGK,YGk,YGh hn];rfl
    have e2:(ph.map fun v=>(w.2 v).getD zV).getD n zV=(w.2 (ph.getD n nul0)).getD zV:=by
     rw[YGK,YGK,YGk,YGh hn'];rfl
    rw[e1,e2]
    obtain⟨u,hu⟩:=YBF m1 (hq _ (Yaj hn))
    have h1:=m2 _ _ hu
    have h2:σ (qh.getD n nul0)=some (vT (ph.getD n nul0)):=g1 _ _ (YhK (fun n hn=>(W.hd n hn).2) qh.length (YGQ _) hn)
    unfold cmp at h1
    rw[h2]at h1
    unfold evT vT at h1
    simp only[YG4]at h1
    rw[hu]
    by_cases h0:ph.getD n nul0=nul0
    ·exfalso
     have:=((wf_iff.1 hw').hd n hn').1
     rw[h0]at this
     rcases(YbK pa [] nul0).1 this with h| ⟨h,_⟩
     ·cases h
     ·exact h rfl
    ·simp only[h0,if_false]at h1
     rw[h1]
   ·simp only[hl,decide_false,YHa,YHb,cond_true,cond_false]at hs;cases hs
end
end Go.Abs.G47
namespace Go.Abs.G47
open Go Go.Abs
noncomputable section
theorem YBH(A B:List Atom)(h:A.length+B.length<=1000):q81 loO [A,B]=some (A++B):=by
 have hm:maxEl=1073741824:=rfl
 have e0:([A,B].length:Int)=2:=rfl
 have w1:YHl .i64 ((0:Int)+1)=1:=by rfl
 have w2:YHl .i64 ((1:Int)+1)=2:=by rfl
 have w3:YHl .i64 ((0:Int)+(A.length:Int))=(A.length:Int):=by rw[wr6 (by omega) (by omega)];omega
 have w4:YHl .i64 ((A.length:Int)+(B.length:Int))=(A.length:Int)+(B.length:Int):=wr6 (by omega) (by omega)
 have c0:decide ((0:Int)<2)=true:=rfl
 have c1:decide ((1:Int)<2)=true:=rfl
 have g0:[A,B].getD (0:Int).toNat []=A:=rfl
 have g1:[A,B].getD (1:Int).toNat []=B:=rfl
 have n1:decide ((A.length:Int)<0)=false:=by rfl
 have n2:decide ((A.length:Int)+(B.length:Int)<0)=false:=by rfl
 have hL11:YgX loO ([A,B],0,[A,B],2,0)=some ([A,B],(A.length:Int)+(B.length:Int)):=by
  show YB5 _ _=_
  rw[Yan];simp only[Yet,c0,cond_true,e0,g0,w3,n1,cond_false,w1]
  rw[chkT _ (by omega)];simp only
  rw[Yan];simp only[Yet,c1,cond_true,e0,g1,w4,n2,cond_false,w2]
  rw[chkT _ (by omega)];simp only
  rw[Yan];rfl
 have hL3:YgY loO ([A,B],2,0,[])=some (A++B):=by
  show YB5 _ _=_
  rw[Yan];simp only[Yeu,c0,cond_true,e0,g0,w1]
  rw[chkT _ (by omega),chkT _ (by grind)];simp only
  rw[Yan];simp only[Yeu,c1,cond_true,e0,g1,w2]
  rw[chkT _ (by omega),chkT _ (by grind)];simp only
  rw[Yan];rfl
 unfold q81
 have hG:q80 loO ((A.length:Int)+(B.length:Int))=some []:=by
  unfold q80
  grind
 simp_all
def rmv(l:List Atom)(i:Nat):List Atom:=l.take i++l.drop (i+1)
theorem Ye9{l:List Atom}{i:Nat}(h:i<l.length):(rmv l i).length+1=l.length:=by unfold rmv;grind
theorem YhP(l:List Atom)(i:Nat):sumT (rmv l i)<=sumT l:=by
 unfold rmv sumT
 rw[List.map_append,List.sum_append,List.map_take,List.map_drop]
 generalize l.map (fun a=>a.2.length)=m
 induction m generalizing i with
 |nil=>simp
 |cons a r ih=>cases i with
  |zero=>simp
  |succ i=>grind
theorem Yo8{l:List Atom}{i:Nat}{a:Atom}(h:a∈rmv l i):a∈l:=by
 unfold rmv at h
 grind
def minF(h:List ByteArray):Nat->Nat->List Atom->List Atom
 |0,_,l=>l
 |k+1,i,l=>bif(hmM h l h (rmv l i)).isSome then minF h k i (rmv l i)else minF h k (i+1) l
theorem YhQ(h:List ByteArray)(v0:List ByteArray)(v1:List Atom)(hh:h.length<=maxEl): ∀(k i:Nat) (l:List Atom),i+k=l.length->l.length<=6->sumT l<=maxEl->
  Yb8 loO ((i:Int),v0,v1,l,h)=some (v0,v1,minF h k i l,h)
 |0,i,l,hk,hl,hs=>by
  have e:i=l.length:=by omega
  subst e
  show YB5 _ _=_
  rw[Yan]
  simp only[YeC,nlI,cond_false]
  rfl
 |k+1,i,l,hk,hl,hs=>by
  have hm:maxEl=1073741824:=rfl
  have hi:i<l.length:=by omega
  have w:YHl .i64 ((i:Int)+1)=((i+1:Nat):Int):=inc hi (by omega)
  have step:Yb8 loO ((i:Int),v0,v1,l,h)=bif(hmM h l h (rmv l i)).isSome then Yb8 loO ((i:Int),v0,v1,rmv l i,h)else Yb8 loO (((i+1:Nat):Int),v0,v1,l,h):=by
   show YB5 _ _=_
   rw[Yan]
   simp only[YeC,ltI hi,cond_true,w,YHf,YGz,YGt]
   have hr:=YhP l i
   rw[chkT _ (by omega),chkT _ (by omega),YBH _ _ (by grind),YBP]
   rw[show l.take i++l.drop (i+1)=rmv l i from rfl,tWf h (rmv l i) hh (by omega),YBP]
   unfold q86
   rw[tHom h l h (rmv l i) hh hs hh (by omega),YBP,YBP]
   cases hw:wfB h (rmv l i)with
   |false=>
    have:hmM h l h (rmv l i)=none:=by unfold hmM;simp_all
    rw[this];rfl
   |true=>
    cases hmM h l h (rmv l i)with
    |none=>rfl
    |some σ=>rfl
  rw[step]
  unfold minF
  cases hx:(hmM h l h (rmv l i)).isSome with
  |true=>
   have:=Ye9 hi
   have:=YhP l i
   exact YhQ h v0 v1 hh k i (rmv l i) (by omega) (by omega) (by omega)
  |false=>exact YhQ h v0 v1 hh k (i+1) l (by omega) hl hs
theorem YhR(h:List ByteArray){a:Atom}: ∀(k i:Nat) (l:List Atom),a∈minF h k i l->a∈l
 |0,_,_,ha=>ha
 |k+1,i,l,ha=>by
  unfold minF at ha
  cases hx:(hmM h l h (rmv l i)).isSome with
  |true=>rw[hx]at ha;exact Yo8 (YhR h k i _ ha)
  |false=>rw[hx]at ha;exact YhR h k (i+1) l ha
theorem tMin(h:List ByteArray)(l:List Atom)(hh:h.length<=maxEl)(hs:sumT l<=maxEl):q87 loO h l=some (bif wfB h l then(h,minF h l.length 0 l,0)else([],[],1)):=by
 have hm:maxEl=1073741824:=rfl
 unfold q87
 rw[tWf h l hh hs,YBP]
 cases hw:wfB h l with
 |false=>rfl
 |true=>
  have hl:=YhH hw
  have hc:q78 loO h=some h:=by
   unfold q78
   have:(YGR h.length maxEl&&YGR 1 1)=true:=by simp_all
   grind
  have e11:Yg5 loO (l,(l.length:Int),0,[],[],h,[])=some ([],[],h,l):=by
   refine Yao (st:=fun n=>(l,(l.length:Int),(n:Int),[],[],h,l.take n)) (N:=l.length) rfl ?_ (fun n hn=> ?_)
   ·simp only[YeB,nlI,cond_false,YGt]
   ·have hb:=Ybb hn
    have hcl:q79 loO (l.getD n zA).2=some (l.getD n zA).2:=by
     unfold q79
     have:(YGR (l.getD n zA).2.length maxEl&&YGR 1 4)=true:=by rw[YG9,Nat.ble_eq];exact⟨by omega,rfl⟩
     grind
    simp only[YeB,ltI hn,cond_true,inc hn (show l.length<=maxEl by omega),YHf]
    rw[chkT _ (by omega),hcl,YBP,chkT _ (by grind),Ybn (d:=zA) hn]
  have:=YhQ h [] [] hh l.length 0 l (by omega) hl hs
  simp_all
end
end Go.Abs.G47
namespace Go.Abs.G47
open Go Go.Abs
noncomputable section
theorem Yo9(L:List Vals):(rowsR L).Nodup:=by
 induction L using YDv with
 |h0=>trivial
 |h1 L x ih=>
  rw[Yc7]
  unfold YDE
  cases hx:hasV (rowsR L) x with
  |true=>exact ih
  |false=>
   refine(Ye7 _ x).symm.nodup ?_
   rw[List.nodup_append]
   exact⟨ih,by simp,fun a ha b hb=>by rw[YGE]at hb;subst hb;intro e;subst e;rw[hasV_iff.2 ha]at hx;cases hx⟩
theorem YBI{N:Nat}{A B:List Vals}(hA:AllO N A)(hB:AllO N B)(h: ∀x,x∈A↔x∈B):rowsR A=rowsR B:=by
 refine List.Perm.eq_of_pairwise (le:=fun a b=>leR a b) (fun a b ha hb h1 h2=> ?_) (YhE hA) (YhE hB) ((List.perm_ext_iff_of_nodup (Yo9 A) (Yo9 B)).2 fun x=>by rw[rowsR_mem,rowsR_mem,h])
 have a1:=hA a (rowsR_mem.1 ha)
 have b1:=hB b (rowsR_mem.1 hb)
 exact(Yoy (by omega) a1.1 b1.1).1 (Yd2 _ _ h1 h2)
def rv(l:List Atom):List Atom:=tab l.length fun k=>l.getD (l.length-1-k) zA
theorem YBJ{l m:List Atom}(h: ∀a∈l,a∈m){v:ByteArray}(hv:v∈YBZ [] l):v∈YBZ [] m:=by
 rcases(YbK l [] v).1 hv with h'| ⟨h0,a,ha,t,ht,e⟩
 ·cases h'
 ·exact(YbK m [] v).2 (.inr ⟨h0,a,h a ha,t,ht,e⟩)
theorem GQ.sub{db:List Tabl}{hd:List ByteArray}{l m:List Atom}(g:GQ db hd l)(h: ∀a∈m,a∈l)(hl:m.length<=3)(hn:1<=m.length)(hv: ∀v∈hd,v∈YBZ [] m):GQ db hd m:=
 ⟨hl,hn,fun a ha=>g.at' a (h a ha),fun a ha=>g.tm a (h a ha),g.hl,hv,g.nd⟩
end
end Go.Abs.G47
namespace Go.Abs.G47
open Go Go.Abs
noncomputable section
def HomP(hd:List ByteArray)(a b:List Atom):Prop:= ∃τ:Asg Term,(∀n,n<hd.length->τ (hd.getD n nul0)=some (vT (hd.getD n nul0)))/\ ∀x∈a,∃y∈b,atOk τ x y
theorem Ypa{fh th:List ByteArray}{k:ByteArray}{c:Term}: ∀n,hdA fh th n k=some c-> ∃i,i<n/\k=fh.getD i nul0/\c=vT (th.getD i nul0)
 |0,h=>by cases h
 |n+1,h=>by
  unfold hdA upd at h
  by_cases e:k=fh.getD n nul0
  ·rw[if_pos e]at h;injection h with h;exact⟨n,by omega,e,h.symm⟩
  ·rw[if_neg e]at h
   obtain⟨i,h1,h2,h3⟩:=Ypa n h
   exact⟨i,by omega,h2,h3⟩
theorem YBK{hd:List ByteArray}{a b:List Atom}(h:(hmM hd a hd b).isSome=true):Wf hd a/\Wf hd b:=by
 unfold hmM at h
 cases hw:wfB hd a with
 |false=>rw[hw]at h;cases h
 |true=>
  cases hw':wfB hd b with
  |false=>rw[hw,hw']at h;cases h
  |true=>exact⟨wf_iff.1 hw,wf_iff.1 hw'⟩
theorem Yc9{hd:List ByteArray}{a b:List Atom}(wa:Wf hd a)(wb:Wf hd b):(hmM hd a hd b).isSome=true↔HomP hd a b:=by
 have nd:=fun n hn=>(wa.hd n hn).2
 unfold hmM
 rw[wf_iff.2 wa,wf_iff.2 wb,decide_eq_true rfl]
 simp only[YHa,cond_false]
 constructor
 ·intro h
  obtain⟨σ,hs⟩:=YG5.1 h
  obtain⟨g1,g2⟩:=YhI hs
  exact⟨σ,fun n hn=>g1 _ _ (YhK nd hd.length (YGQ _) hn),g2⟩
 ·rintro⟨τ,h1,h2⟩
  obtain⟨σ,hs⟩:=YoX (rest:=a) (tg:=b) (σ:=hdA hd hd hd.length) (τ:=τ) (fun k c e=>by
   obtain⟨i,i1,rfl,rfl⟩:=Ypa hd.length e
   exact h1 i i1) h2
  rw[hs];rfl
def evU(τ:Asg Term)(t:Term):Option Term:=if t.1=nul0 then some t else τ t.1
theorem Ypb{σ τ:Asg Term}: ∀{ts us ws:List Term},Img σ (pT ts) us->ts.length=us.length->Img τ (pT us) ws->Img (fun v=>(σ v).bind (evU τ)) (pT ts) ws
 | [],_,_,_,_,_=>trivial
 |_::_,[],_,h,_,_=>h.elim
 |_::_,_::_,[],_,_,h=>h.elim
 |t::ts,u::us,v::ws,h,hl,h'=>by
  refine⟨?_,Ypb h.2 (by simpa using hl) h'.2⟩
  have h1:=h.1
  have h2:=h'.1
  by_cases h0:t.1=nul0
  ·simp only[h0,if_true]at h1⊢
   rw[<-h1]at h2
   simp only[h0,if_true]at h2
   exact h2
  ·simp only[h0,if_false]at h1⊢
   rw[h1]
   unfold evU
   simp only[YG4]
   by_cases h3:u.1=nul0
   ·simp only[h3,if_true]at h2⊢;rw[h2]
   ·simp only[h3,if_false]at h2⊢;exact h2
theorem HomP.trans{hd:List ByteArray}{a b c:List Atom}(hn: ∀n,n<hd.length->hd.getD n nul0≠nul0)(h:HomP hd a b)(k:HomP hd b c):HomP hd a c:=by
 obtain⟨σ,s1,s2⟩:=h
 obtain⟨τ,t1,t2⟩:=k
 refine⟨fun v=>(σ v).bind (evU τ),fun n h=> ?_,fun x hx=> ?_⟩
 ·simp only
  rw[s1 n h]
  unfold evU vT
  simp only[YG4,hn n h,if_false]
  exact t1 n h
 ·obtain⟨y,hy,y1,y2,y3⟩:=s2 x hx
  obtain⟨z,hz,z1,z2,z3⟩:=t2 y hy
  exact⟨z,hz,y1.trans z1,y2.trans z2,Ypb y3 y2 z3⟩
theorem Ypc: ∀{ts:List Term},(∀t∈ts,YCh t=true)->Img (fun v=>some (vT v)) (pT ts) ts
 | [],_=>trivial
 |t::ts,h=>by
  refine⟨?_,Ypc fun u hu=>h u (YGv _ hu)⟩
  have ht:=h t (YGo ..)
  by_cases h0:t.1=nul0
  ·simp only[h0,if_true]
  ·simp only[h0,if_false]
   unfold YCh at ht
   simp only[h0,decide_false,YHb,cond_true,YG9,decide_eq_true_eq]at ht
   obtain⟨t0,t1,t2,t3⟩:=t
   obtain⟨_,h1,h2,h3,_⟩:=ht
   simp only at h1 h2 h3
   unfold vT
   rw[h1,h2,h3]
theorem HomP.sub{hd:List ByteArray}{a b:List Atom}(ht: ∀x∈a,∀t∈x.2,YCh t=true)(h: ∀x∈a,x∈b):HomP hd a b:=
 ⟨fun v=>some (vT v),fun _ _=>rfl,fun x hx=>⟨x,h x hx,rfl,rfl,Ypc (ht x hx)⟩⟩
theorem Wf.ne0{hd:List ByteArray}{l:List Atom}(w:Wf hd l): ∀n,n<hd.length->hd.getD n nul0≠nul0:=fun n hn e=>by
 have:=(w.hd n hn).1
 rcases(YbK l [] _).1 this with h| ⟨h,_⟩
 ·cases h
 ·exact h e
theorem YBL{l:List Atom}{i j:Nat}(hj:j<i){x:Atom}(h:x∈rmv (rmv l i) j):x∈rmv l j:=by
 unfold rmv at h⊢
 rcases YGI.1 h with h|h
 ·rw[List.take_append]at h
  refine YGN _ ?_
  rcases YGI.1 h with h|h
  ·rw[List.take_take,Nat.min_eq_left (by omega)]at h;exact h
  ·rw[List.length_take]at h
   by_cases hi:i<=l.length
   ·rw[Nat.min_eq_left hi,show j-i=0 by omega,List.take_zero]at h;cases h
   ·rw[YGO (by omega),List.take_nil]at h;cases h
 ·refine List.mem_append_right _ ?_
  rw[List.drop_append]at h
  rcases YGI.1 h with h|h
  ·rw[List.drop_take]at h
   exact List.mem_of_mem_take h
  ·have:=List.mem_of_mem_drop h
   rw[show i+1=(j+1)+(i-j) by omega,<-List.drop_drop]at this
   exact List.mem_of_mem_drop this
theorem Wf.up{hd:List ByteArray}{a b l:List Atom}(wa:Wf hd a)(wl:Wf hd l)(h: ∀x∈a,x∈b)(hb: ∀x∈b,x∈l)(hl:b.length<=6):Wf hd b:=
 ⟨hl,fun e=>by
  obtain⟨x,hx⟩:=List.exists_mem_of_ne_nil _ wa.ne
  have:=h x hx
  rw[e]at this
  exact List.not_mem_nil this,fun x hx=>wl.nm x (hb x hx),fun x hx=>wl.tm x (hb x hx),fun n hn=>⟨YBJ h (wa.hd n hn).1,(wa.hd n hn).2⟩⟩
def YDM(hd:List ByteArray)(i:Nat)(l:List Atom):Prop:= ∀j,j<i-> ¬ (Wf hd (rmv l j)/\HomP hd l (rmv l j))
theorem YhS(hd:List ByteArray): ∀(k i:Nat) (l:List Atom),i+k=l.length->Wf hd l->YDM hd i l->Wf hd (minF hd k i l)/\HomP hd l (minF hd k i l)/\YDM hd (minF hd k i l).length (minF hd k i l)
 |0,i,l,hk,w,hn=>⟨w,HomP.sub w.tm (fun x h=>h),by
  have:i=l.length:=by omega
  show YDM hd l.length l
  rw[<-this];exact hn⟩
 |k+1,i,l,hk,w,hn=>by
  unfold minF
  cases hx:(hmM hd l hd (rmv l i)).isSome with
  |true=>
   obtain⟨_,w'⟩:=YBK hx
   have hp:=(Yc9 w w').1 hx
   have hlen:=Ye9 (l:=l) (i:=i) (by omega)
   have hn':YDM hd i (rmv l i):=fun j hj ⟨h1,h2⟩=>by
    have hs: ∀x∈rmv (rmv l i) j,x∈rmv l j:=fun x hx=>YBL hj hx
    have hjl:=Ye9 (l:=l) (i:=j) (by omega)
    have hlen6:=w.len
    exact hn j hj ⟨h1.up w hs (fun x hx=>Yo8 hx) (by omega),(hp.trans w.ne0 h2).trans w.ne0 (HomP.sub h1.tm hs)⟩
   obtain⟨a1,a2,a3⟩:=YhS hd k i (rmv l i) (by omega) w' hn'
   exact⟨a1,hp.trans w.ne0 a2,a3⟩
  |false=>
   refine YhS hd k (i+1) l (by omega) w fun j hj h=> ?_
   by_cases e:j=i
   ·subst e
    rw[(Yc9 w h.1).2 h.2]at hx;cases hx
   ·exact hn j (by omega) h
theorem YBM(d:List (Int×Int×List (List Int)))(xh:List Int)(xa:List (Int×List Int))(hd: ∀x∈d,0<=x.1/\x.1<=255/\0<=x.2.1)(hxh: ∀c∈xh,0<=c)(hxa: ∀x∈xa,0<=x.1/\x.1<=255/\ ∀c∈x.2,0<=c):q153 loO d xh xa=some true:=by
 have hM:maxEl=1073741824:=rfl
 unfold q153
 obtain⟨db,ok,e1,D⟩:=YF1 d hd
 obtain⟨hd',l,ok2,e2,h2⟩:=YF2 D xh xa hxh hxa
 rw[e1,YBP,e2,YBP,aw,YBP,YBP]
 cases ok with
 |false=>rfl
 |true=>
  cases ok2 with
  |false=>rfl
  |true=>
   have g:=h2 rfl
   have hw:=g.few D
   have hs:=g.sum D
   have hl3:=g.len
   have hh:=g.hl
   have w:Wf hd' l:=by
    refine⟨by omega,fun e=>by have:=g.ne;rw[e]at this;simp at this,fun a ha=> ?_,g.tm,fun n hn=>⟨g.hv _ (Yaj hn),YhL g.nd hn⟩⟩
    obtain⟨n,n1,n2,_⟩:=g.at' a ha
    rw[n2]
    exact(D.gt _ (Yaj n1)).nm
   obtain⟨wm,hm,nl⟩:=YhS hd' l.length 0 l (by omega) w (fun j hj=>absurd hj (by omega))
   have msub: ∀x∈minF hd' l.length 0 l,x∈l:=fun x hx=>YhR hd' _ _ _ hx
   have mlen:(minF hd' l.length 0 l).length<=l.length:=by
    have hlen: ∀k i (m:List Atom),(minF hd' k i m).length<=m.length:=by
     intro k
     induction k with
     |zero=>intro i m;exact YGQ _
     |succ k ih=>
      intro i m
      unfold minF
      cases(hmM hd' m hd' (rmv m i)).isSome with
      |true=>exact YGU (ih i (rmv m i)) (by unfold rmv;simp;omega)
      |false=>exact ih (i+1) m
    exact hlen _ _ _
   simp only[YHa,cond_false]
   rw[tMin hd' l (by omega) (by omega),YBP,wf_iff.2 w]
   simp only[cond_true,decide_true,YHa,cond_false]
   generalize minF hd' l.length 0 l=m at*
   have gm:GQ db hd' m:=g.sub msub (by omega) (by have:=wm.ne;cases m with|nil=>exact absurd rfl this|cons _ _=>simp) (fun v hv=>by
    obtain⟨n,hn,rfl⟩:=YGD.1 hv
    have:=(wm.hd n hn).1
    rwa[YGK,YGh hn]at this)
   have ms:=gm.sum D
   have hwm:=gm.few D
   have k1:(hmM hd' l hd' m).isSome=true:=(Yc9 w wm).2 hm
   have k2:(hmM hd' m hd' l).isSome=true:=(Yc9 wm w).2 (HomP.sub wm.tm msub)
   obtain⟨σ1,z1⟩:=YG5.1 k1
   obtain⟨σ2,z2⟩:=YG5.1 k2
   have c1:q86 loO hd' m hd' l=some true:=by
    unfold q86
    rw[tHom hd' l hd' m (by omega) (by omega) (by omega) (by omega),YBP,z1]
   have c2:q86 loO hd' l hd' m=some true:=by
    unfold q86
    rw[tHom hd' m hd' l (by omega) (by omega) (by omega) (by omega),YBP,z2]
   rw[c1,YBP,YHa,cond_false,c2,YBP,YHa,cond_false]
   rw[YDL (g.qok D) (g.qI D) (by omega),YBP,YDL (gm.qok D) (gm.qI D) (by omega),YBP]
   have he:rowsR (anss db hd' l)=rowsR (anss db hd' m):=YBI (g.qok D).all (gm.qok D).all fun x=>⟨fun h=>Yo7 gm.hv z2 h,fun h=>Yo7 g.hv z1 h⟩
   rw[<-he]
   obtain⟨s1,s2⟩:=g.lists D
   generalize rowsR (anss db hd' l)=A at*
   have e3:Yhm loO (A,0,A,0,(m.length:Int),0,hd',m)=some (.inr (A,0,A,0)):=by
    refine Yao (st:=fun n=>(A,0,A,0,(m.length:Int),(n:Int),hd',m)) (N:=m.length) rfl ?_ (fun n hn=> ?_)
    ·simp only[YeP,nlI,cond_false]
    ·have hr:=YhP m n
     have hrl:=Ye9 hn
     have hc:q152 loO (m.take n)=some (m.take n):=by
      unfold q152
      have:(YGR (m.take n).length maxEl&&YGR 1 2)=true:=by rw[YG9,Nat.ble_eq];exact⟨by rw[List.length_take];omega,rfl⟩
      rw[this];rfl
     have w1:YHl .i64 ((n:Int)+1)=((n+1:Nat):Int):=by rw[wr6 (by omega) (by omega)];omega
     simp only[YeP,ltI hn,cond_true,w1,YHf,YGz,YGt]
     rw[chkT _ (by omega),hc,YBP,chkT _ (by omega),chkT _ (by simp;omega)]
     rw[show m.take n++m.drop (n+1)=rmv m n from rfl,rWf hd' (rmv m n) (by omega) (by omega),YBP]
     cases hwf:wfB hd' (rmv m n)with
     |false=>rfl
     |true=>
      have hnone:(hmM hd' m hd' (rmv m n)).isSome=false:=by
       cases hx:(hmM hd' m hd' (rmv m n)).isSome with
       |false=>rfl
       |true=>exact absurd ⟨wf_iff.1 hwf,(Yc9 wm (wf_iff.1 hwf)).1 hx⟩ (nl n hn)
      have c3:q86 loO hd' (rmv m n) hd' m=some false:=by
       unfold q86
       rw[tHom hd' m hd' (rmv m n) (by omega) (by omega) (by omega) (by omega),YBP]
       cases hx:hmM hd' m hd' (rmv m n)with
       |none=>rfl
       |some σ=>rw[hx]at hnone;cases hnone
      simp only[cond_true]
      rw[c3];rfl
   rw[show((A,0).1,(A,(0:Int)).2,(A,(0:Int)).1,(A,(0:Int)).2,(m.length:Int),(0:Int),hd',m)=(A,(0:Int),A,(0:Int),(m.length:Int),(0:Int),hd',m)from rfl,e3,YBP,Yof]
   simp only[decide_true,cond_true]
   rw[YFZ _ s1 s2,YBP]
theorem red_fin(x:List (Int×Int×List (List Int))×List Int×List (Int×List Int))(hr:(cs [.l (cs [.i .u8,.i .u8,.l (cs [.l (cs [.i .u8])])]),.l (cs [.i .u8]),.l (cs [.i .u8,.l (cs [.i .u8])])]).rng x):q153 loO x.1 x.2.1 x.2.2=some true:=
 YBM _ _ _ (YBD hr.1) (Yo3 hr.2.1) (YBE hr.2.2.1)
end
end Go.Abs.G47
