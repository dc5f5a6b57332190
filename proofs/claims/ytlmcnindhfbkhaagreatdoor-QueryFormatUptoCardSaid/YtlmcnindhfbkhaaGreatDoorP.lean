/- Helpers of the plain laws: loops as states by number, tables, short words. No condition. -/
import Derived.Test.YtlmcnindhfbkhaaGreatDoorB
import Derived.Test.YtlmcnindhfbkhaaGreatDoorG
set_option linter.unusedVariables false
set_option linter.unusedSimpArgs false
set_option linter.unusedSectionVars false
open List renaming map_cons → YDC, map_nil → YDD, length_cons → YDG, mem_cons_self → YDI, all_eq_true → YDL, length_map → YDM, take_length → YDO, mem_map → YDQ, mem_cons_of_mem → YDR, length_nil → YDS, ext_getElem? → YDU, map_map → YDV, append_assoc → YDW, nil_append → YDY, map_append → YDZ, cons_append → YD0, mem_singleton → YD3
open Nat renaming beq → YD4, ble → YD5, le_refl → YD6, blt → YD7, le_trans → YD9, mul_le_mul_right → YEb, ble_eq_true_of_le → YEc, add_mul → YEe, zero_le → YEf, le_of_ble_eq_true → YEg
open Option renaming bind → YEh, bind_some → YEk
open Bool renaming and_eq_true → YEp, eq_iff_iff → YEq, and_self → YEr, or_eq_true → YEs
open Int renaming toNat_natCast → YEt
open Array renaming getElem?_eq_getElem → YEx
open ByteArray renaming mk → YEy
open Go.IntKind renaming wrap → YEz
namespace Go.Abs
theorem wr6{n:Int}(h0: -9223372036854775808<=n)(h1:n<9223372036854775808):YEz .i64 n=n:=by
 have e:(2:Int)^IntKind.bits .i64=18446744073709551616:=rfl
 have e':(2:Int)^(IntKind.bits .i64-1)=9223372036854775808:=rfl
 have s:IntKind.signed .i64=true:=rfl
 simp only[YEz,e,e',s,Bool.true_and,ge_iff_le,decide_eq_true_eq]
 omega
theorem chkT{β:Type}{p:Prop}[Decidable p](x:Option β)(h:p):chk p x=x:=by simp[chk,h]
theorem cT{β:Type}{p:Prop}[Decidable p](x y:β)(h:p):(bif decide p then x else y)=x:=by simp[h]
theorem cF{β:Type}{p:Prop}[Decidable p](x y:β)(h: ¬p):(bif decide p then x else y)=y:=by simp[h]
theorem Yy8{α β:Type}(a:α)(f:α->Option β):YEh (some a) f=f a:=rfl
theorem Yna{S R:Type}{step:S->Option (S⊕R)}(st:Nat->S)(N:Nat)(r:R)(he:step (st N)=some (.inr r))(hs: ∀n,n<N->step (st n)=some (.inl (st (n+1)))): ∀k n,n+k=N->YzE step (st n)=some r
 |0,n,h=>by rw[YbT];simp_all
 |k+1,n,h=>by rw[YbT,hs n (by omega)];exact Yna st N r he hs k (n+1) (by omega)
theorem Ya6{S R:Type}{step:S->Option (S⊕R)}{st:Nat->S}{N:Nat}{r:R}{s:S}(hst:s=st 0)(he:step (st N)=some (.inr r))(hs: ∀n,n<N->step (st n)=some (.inl (st (n+1)))):YzE step s=some r:=by
 subst hst;exact Yna st N r he hs N 0 (by omega)
def tab{α:Type}(n:Nat)(f:Nat->α):List α:=(List.range n).map f
def bl(s:ByteArray):List UInt8:=s.data.toList
theorem YcC(s:ByteArray):(bl s).length=s.size:=Array.length_toList
theorem Yyq(s:ByteArray)(i:Nat)(h:i<s.size):(bl s).take (i+1)=(bl s).take i++[s.data.getD i 0]:=by
 have h':i< (bl s).length:=by trivial
 rw[<-List.take_append_getElem h']
 congr 2
 simp[bl,Array.getD]
 omega
theorem YdW{a b:ByteArray}(h:bl a=bl b):a=b:=by
 have:a.data=b.data:=by simpa[bl]using h
 cases a;simp_all
end Go.Abs
namespace Go.Abs.G47
open Go Go.Abs
set_option maxRecDepth 100000
abbrev Vals:=List (Int×Int×ByteArray)
abbrev Rws:=List (Int×Vals)
abbrev Tabl:=ByteArray×List ByteArray×Rws
abbrev Term:=ByteArray×Int×Int×ByteArray
abbrev Atom:=ByteArray×List Term
theorem Yyw{clk:Int}{ents:List (Int×ByteArray×Vals)}{m2:Bool}
  {y} (hd:(ents.map (·.1)).Nodup) (hl:ents.length<=maxEl)
  (hy:YbU loO (ents.map (·.2.1),clk,clk,[],false,clk,ents,m2)=some y):
  YdF loO ([],clk,ents,m2)=some y:=by
 show rngF YdE (YcA loO) (YbU loO) ([],clk,clk,[],false,clk,ents,m2)=some y
 refine YqJ (Yyr (p:=YdE) (t:=YcA loO) (r:=YbU loO) (fun sn=>(sn.map (kAt (YEy #[]) ents),clk,clk,sn,false,clk,ents,m2)) (B:=ents.map (·.1)) (c:=clk) hd (fun sn=>rfl) (fun sn b hb hn hsd hsB=> ?_) (fun sn hp=> ?_))
 ·obtain⟨e,he⟩:=Yyu hb
  have hlen:sn.length<ents.length:=by
   have h1:(sn++[b]).Nodup:=by
    rw[List.nodup_append]
    exact⟨hsd,by simp,fun x hx y hy=>by rw[YD3]at hy;subst hy;intro e;subst e;exact hn hx⟩
   have:=List.Nodup.length_le_of_subset h1 (l₂:=ents.map (·.1)) (fun a ha=>by
    rcases List.mem_append.1 ha with ha|ha
    ·exact hsB a ha
    ·rw[YD3]at ha;subst ha;exact hb)
   simp at this;omega
  simp only[YcA,addI,List.getLast?_append,List.getLast?_singleton,Option.some_or,YEk,he,chk,decide_true,cond_true,YDM,List.length_singleton]
  have:decide (sn.length+1<=maxEl)=true:=by simp;omega
  simp only[this,cond_true,YDZ,YDC,YDD,kAt,he]
 ·have hperm:(sn.map (kAt (YEy #[]) ents)).Perm (ents.map (·.2.1)):=by
   rw[<-Yyv (d:=YEy #[]) hd];exact hp.map _
  rw[<-hy]
  show YEh (q65 loO (sn.map (kAt (YEy #[]) ents))) _=YEh (q65 loO (ents.map (·.2.1))) _
  have e1:q65 loO (sn.map (kAt (YEy #[]) ents))=q65 loO (ents.map (·.2.1)):=Yyt hperm
  rw[e1]
  have e2:=hperm.length_eq
  congr 1
  funext y152
  rw[e2]
def nodB:List Int->Bool
 | []=>true
 |a::r=> !(r.any fun b=>decide (b=a))&&nodB r
theorem Ynb: ∀{l:List Int},nodB l=true->l.Nodup
 | [],_=>List.nodup_nil
 |a::r,h=>by
  simp only[nodB,YEp,Bool.not_eq_true',List.any_eq_false,decide_eq_true_eq]at h
  exact List.nodup_cons.2 ⟨fun hm=>h.1 a hm rfl,Ynb h.2⟩
def j18C(lo:Lo):(List ByteArray×Int×List (Int×ByteArray×Vals)×Bool)->Option (List Vals×Int):=fun x=>match x with
 | (keys,clk,ents,m2)=>bif keys.isEmpty&& (nodB (ents.map (·.1))&&YD5 ents.length maxEl)then YbU lo (ents.map (·.2.1),clk,clk,[],false,clk,ents,m2)else none
theorem Yyx{x y}(h:j18C loO x=some y):YdF loO x=some y:=by
 obtain⟨keys,clk,ents,m2⟩:=x
 unfold j18C at h
 obtain⟨e,hk⟩:=Yab h
 simp only[YEp,List.isEmpty_iff]at e
 obtain⟨rfl,e1,e2⟩:=e
 exact Yyw (Ynb e1) (by simpa using e2) hk
def YBH(lo:Lo)(db:List Tabl)(q0:List ByteArray)(q1:List Atom):Option (List Vals×Int):=
 YEh (q40 lo db q0 q1) fun y105=>bif(!decide (y105=(0:Int)))then(some ([],y105))else(YEh (q41 lo db q0 q1) fun y108=>YEh (q50 lo (0:Int) y108.1 y108.2.1 y108.2.2.1 y108.2.2.2.1 y108.2.2.2.2.1 y108.2.2.2.2.2.1 y108.2.2.2.2.2.2.1 y108.2.2.2.2.2.2.2 (0:Int) [] false) fun y163=>chk (y163.2.2.2.1.length=y108.2.2.1.length) (bif(!y163.1)then(some ([],(3:Int)))else(YEh (j18C lo ([],y163.2.2.2.2.2.2.2.2.1,y163.2.2.2.2.2.2.2.2.2.1,y163.2.2.2.2.2.2.2.2.2.2.1)) fun y228=>some (y228.1,y228.2))))
theorem YfX{α β:Type}{a:Option α}{f g:α->Option β}{y:β}(h: ∀z,f z=some y->g z=some y):YEh a f=some y->YEh a g=some y:=by
 cases a with
 |none=>intro h;cases h
 |some z=>exact h z
theorem Ync{β:Type}{b:Bool}{x x' z:Option β}{y:β}(h:x=some y->x'=some y):(bif b then z else x)=some y->(bif b then z else x')=some y:=by
 cases b with
 |true=>exact id
 |false=>exact h
theorem Yyy{β:Type}{p:Prop}[Decidable p]{x x':Option β}{y:β}(h:x=some y->x'=some y):chk p x=some y->chk p x'=some y:=by
 unfold chk
 cases decide p with
 |true=>exact h
 |false=>exact id
theorem Yyz{db q0 q1 y}:YBH loO db q0 q1=some y->q66 loO db q0 q1=some y:=by
 unfold YBH q66
 refine YfX fun _=>Ync (YfX fun _=>YfX fun z=>Yyy (Ync ?_))
 intro h
 cases hj:j18C loO ([],z.2.2.2.2.2.2.2.2.1,z.2.2.2.2.2.2.2.2.2.1,z.2.2.2.2.2.2.2.2.2.2.1)with
 |none=>rw[hj]at h;cases h
 |some q=>rw[hj]at h;rw[Yyx hj];exact h
noncomputable def R2:Int×Vals:=(q1 (loM 400) 1 [1,2]).getD (0,[])
noncomputable def R3:Int×Vals:=(q1 (loM 400) 2 [1,3]).getD (0,[])
noncomputable def R4:Int×Vals:=(q1 (loM 400) 3 [2,3]).getD (0,[])
noncomputable def R5:Int×Vals:=(q1 (loM 400) 1 [3]).getD (0,[])
noncomputable def T6:Term:=(q2 (loM 400) (YEy #[120])).getD (YEy #[],0,0,YEy #[])
noncomputable def T7:Term:=(q2 (loM 400) (YEy #[121])).getD (YEy #[],0,0,YEy #[])
noncomputable def EA:List Vals×Int:=(YBH (loM 400) [((YEy #[114]),[(YEy #[97]),(YEy #[98])],[R2,R3,R4]),((YEy #[115]),[(YEy #[99])],[R5])] ([(YEy #[120])]) ([((YEy #[114]),[T6,T7]),((YEy #[115]),[T7])])).getD ([],0)
theorem aw:q95 loO=some true:=by
 have e2:q1 loO 1 [1,2]=some R2:=(congrArg (fun l=>q1 l 1 [1,2]) (Ybi 400)).symm.trans (by kernel_rfl)
 have e3:q1 loO 2 [1,3]=some R3:=(congrArg (fun l=>q1 l 2 [1,3]) (Ybi 400)).symm.trans (by kernel_rfl)
 have e4:q1 loO 3 [2,3]=some R4:=(congrArg (fun l=>q1 l 3 [2,3]) (Ybi 400)).symm.trans (by kernel_rfl)
 have e5:q1 loO 1 [3]=some R5:=(congrArg (fun l=>q1 l 1 [3]) (Ybi 400)).symm.trans (by kernel_rfl)
 have e6:q2 loO (YEy #[120])=some T6:=(congrArg (fun l=>q2 l (YEy #[120])) (Ybi 400)).symm.trans (by kernel_rfl)
 have e7:q2 loO (YEy #[121])=some T7:=(congrArg (fun l=>q2 l (YEy #[121])) (Ybi 400)).symm.trans (by kernel_rfl)
 have eA:q66 loO [((YEy #[114]),[(YEy #[97]),(YEy #[98])],[R2,R3,R4]),((YEy #[115]),[(YEy #[99])],[R5])] ([(YEy #[120])]) ([((YEy #[114]),[T6,T7]),((YEy #[115]),[T7])])=some EA:=
  Yyz ((congrArg (fun l=>YBH l [((YEy #[114]),[(YEy #[97]),(YEy #[98])],[R2,R3,R4]),((YEy #[115]),[(YEy #[99])],[R5])] ([(YEy #[120])]) ([((YEy #[114]),[T6,T7]),((YEy #[115]),[T7])])) (Ybi 400)).symm.trans (by kernel_rfl))
 unfold q95
 rw[e2,Yy8,e3,Yy8,e4,Yy8,e5,Yy8,e6,Yy8,e7,Yy8,Yy8,eA,Yy8,<-Ybi 400]
 show(_:Option Bool)=some true
 kernel_rfl
end Go.Abs.G47
namespace Go.Abs
def Yzf{R:Type}(f:Nat->Option R):Nat->Nat->R->R
 |0,_,r0=>r0
 |k+1,n,r0=>match f n with
  |some r=>r
  |none=>Yzf f k (n+1) r0
theorem Ynd{R:Type}{f g:Nat->Option R}{r0:R}: ∀(k n:Nat),(∀m,n<=m->m<n+k->f m=g m)->Yzf f k n r0=Yzf g k n r0
 |0,n,h=>rfl
 |k+1,n,h=>by
  simp only[Yzf]
  rw[h n (YD6 _) (by omega),Ynd k (n+1) (fun m h1 h2=>h m (by omega) (by omega))]
theorem YaD{S R:Type}{step:S->Option (S⊕R)}(st:Nat->S)(f:Nat->Option R)(N:Nat)(r0:R){s:S}(hst:s=st 0)(he:step (st N)=some (.inr r0))
  (hs: ∀n,n<N->step (st n)=some (match f n with|some r=>.inr r|none=>.inl (st (n+1)))):YzE step s=some (Yzf f N 0 r0):=by
 subst hst
 have: ∀k n,n+k=N->YzE step (st n)=some (Yzf f k n r0):=by
  intro k
  induction k with
  |zero=>intro n h;rw[YbT];simp only[Nat.add_zero]at h;subst h;rw[he];rfl
  |succ k ih=>
   intro n h
   rw[YbT,hs n (by omega)]
   simp only[Yzf]
   grind
 simp_all
def anyN(p:Nat->Bool):Nat->Nat->Bool
 |0,_=>false
 |k+1,n=>p n||anyN p k (n+1)
def idxR(p:Nat->Bool)(k n:Nat):Int:=match Yzf (R:=Int⊕Unit) (fun m=>bif p m then some (.inl (m:Int))else none) k n (.inr ())with
 | .inl i=>i
 | .inr _=> -1
theorem YfY(p:Nat->Bool): ∀k n,decide (0<=idxR p k n)=anyN p k n
 |0,n=>rfl
 |k+1,n=>by
  have:=YfY p k (n+1)
  unfold idxR at this⊢
  simp only[Yzf,anyN]
  grind
theorem YdX{R:Type}{f:Nat->Option R}{r0:R}: ∀(k n:Nat),(∃m r,n<=m/\m<n+k/\f m=some r/\Yzf f k n r0=r)\/(Yzf f k n r0=r0/\ ∀m,n<=m->m<n+k->f m=none)
 |0,n=>.inr ⟨rfl,fun m h1 h2=>by omega⟩
 |k+1,n=>by
  simp only[Yzf]
  cases hf:f n with
  |some r=>grind
  |none=>
   rcases YdX (f:=f) (r0:=r0) k (n+1)with⟨m,r,h1,h2,h3,h4⟩| ⟨h1,h2⟩
   ·grind
   grind
theorem YdY{α:Type}{f:α->Nat}{l:List α}{a:α}(h:a∈l):f a<=(l.map f).sum:=by
 induction l with
 |nil=>cases h
 |cons b r ih=>
  grind
theorem YbV{α:Type}{l:List α}{n:Nat}{d:α}(h:n<l.length):l.getD n d∈l:=by
 simp_all
theorem anyN_iff{p:Nat->Bool}: ∀{k n:Nat},anyN p k n=true↔ ∃m,n<=m/\m<n+k/\p m=true
 |0,n=>⟨fun h=>(by cases h),fun⟨m,h1,h2,_⟩=>(by omega)⟩
 |k+1,n=>by
  simp only[anyN,YEs,anyN_iff (k:=k) (n:=n+1)]
  grind
theorem YfZ{R:Type}{p:Nat->Bool}(hit:Nat->R)(r0:R)(T:R->Bool)(h0:T r0=false)(h1: ∀m,T (hit m)=true): ∀k n,T (Yzf (fun m=>bif p m then some (hit m)else none) k n r0)=anyN p k n
 |0,n=>h0
 |k+1,n=>by
  simp only[Yzf,anyN]
  cases hp:p n with
  |true=>grind
  |false=>simpa using YfZ hit r0 T h0 h1 k (n+1)
theorem Yf0{p:Nat->Bool}(b:Bool)(k n:Nat):Yzf (R:=Bool⊕Unit) (fun m=>bif p m then some (.inl b)else none) k n (.inr ())=bif anyN p k n then .inl b else .inr ():=by
 induction k generalizing n with
 |zero=>rfl
 |succ k ih=>
  simp only[Yzf,anyN]
  grind
theorem YcD{α:Type}{l:List α}{n:Nat}{d:α}(h:n<l.length):l.take (n+1)=l.take n++[l.getD n d]:=by
 simp_all
end Go.Abs
namespace Go.Abs.G47
open Go Go.Abs
noncomputable section
def lt(c:Int):Bool:=decide (97<=c)&&decide (c<=122)||decide (65<=c)&&decide (c<=90)||decide (c=95)
theorem YdZ(c:Int):q98 loO c=some (lt c):=by
 unfold q98 lt
 by_cases h1:(97:Int)<=c<;>by_cases h2:c<=(122:Int)<;>by_cases h3:(65:Int)<=c<;>by_cases h4:c<=(90:Int)<;>simp[h1,h2,h3,h4]
def fN(s:ByteArray)(n:Nat):Option (Bool⊕Unit):=
 bif lt (Yy6 s n)then none else bif decide (n=0)then some (.inl false)else bif decide (Yy6 s n<48)then some (.inl false)else bif decide ((57:Int)<Yy6 s n)then some (.inl false)else none
def nul:ByteArray:=YEy #[110,117,108,108]
def YA3(s:ByteArray):Bool:=
 bif decide (s=YEy #[])then false else bif decide ((24:Int)< (s.size:Int))then false else bif decide (s=nul)then false else
  match Yzf (fN s) s.size 0 (.inr ())with| .inl b=>b| .inr _=>true
def fR(s:ByteArray)(n:Nat):Option (Bool⊕Unit):=
 bif lt (Yy6 s n)then none else bif decide (Yy6 s n<48)then some (.inl false)else bif decide ((57:Int)<Yy6 s n)then some (.inl false)else none
theorem Yne(s:ByteArray)(hs:s.size<=24):YfL loO (s,0)=some (Yzf (fR s) s.size 0 (.inr ())):=by
 refine YaD (fun n=>(s,(n:Int))) (fR s) s.size (.inr ()) rfl ?_ (fun n hn=> ?_)
 ·simp[YdM]
 ·have e1:decide ((n:Int)< (s.size:Int))=true:=by simp;omega
  have e2:YEz .i64 ((n:Int)+1)=((n+1:Nat):Int):=by rw[wr6 (by omega) (by omega)];omega
  simp only[YdM,e1,cond_true,e2,YdZ,Yy8]
  rw[chkT _ (by omega)]
  unfold fR
  generalize Yy6 s n=c
  have h0:(0:Int)<=(n:Int)/\ (n:Int)< (s.size:Int):=by omega
  cases lt c<;>by_cases h7:c<48<;>by_cases h8:(57:Int)<c<;>simp[h7,h8,chkT,h0]
theorem YC8(s:ByteArray):s.size=0↔s=YEy #[]:=by
 constructor
 ·intro h
  have:s.data= #[]:=Array.eq_empty_of_size_eq_zero h
  cases s;simp_all
 ·intro h;subst h;rfl
theorem Yf1(s:ByteArray):q99 loO s=some (YA3 s):=by
 unfold q99 YA3 nul
 by_cases h1:s=YEy #[]
 ·subst h1;rfl
 ·have h1':s.size≠0:=fun h=>h1 ((YC8 s).1 h)
  by_cases h2:(24:Int)< (s.size:Int)
  ·have: ¬ (s.size:Int)=0:=by omega
   simp[h1,h2,this]
  ·have h0: ¬ (s.size:Int)=0:=by omega
   simp only[h1,h2,h0,decide_false,cond_false,YdZ,Yy8]
   rw[chkT _ (by omega)]
   have hz:Yy6 s 0=Yy6 s ((0:Nat):Int):=rfl
   have hsz:s.size=(s.size-1)+1:=by omega
   cases hl:lt (Yy6 s 0)with
   |false=>
    have:Yzf (fN s) s.size 0 (.inr ())= .inl false:=by
     rw[hsz];simp only[Yzf,fN,<-hz,hl];rfl
    rw[this]
    by_cases h3:s=YEy #[110,117,108,108]<;>simp[h3]
   |true=>
    have:Yzf (fN s) s.size 0 (.inr ())=Yzf (fR s) s.size 0 (.inr ()):=Ynd _ _ (fun m _ _=>by
     unfold fN fR
     by_cases hm:m=0
     ·subst hm;rw[<-hz,hl];rfl
     ·simp[hm])
    rw[this,Yne s (by omega)]
    by_cases h3:s=YEy #[110,117,108,108]
    ·simp[h3]
    ·simp only[h3,decide_false,cond_false,Bool.not_true,Yy8]
     cases Yzf (fR s) s.size 0 (.inr ())<;>rfl
def idxI(l:List ByteArray)(v:ByteArray):Int:=idxR (fun m=>decide (v=l.getD m (YEy #[]))) l.length 0
theorem YyA(l:List ByteArray)(v:ByteArray)(hl:l.length<=maxEl):q4 loO l v=some (idxI l v):=by
 have hm:maxEl=1073741824:=rfl
 have:Yfj loO (l,v,(l.length:Int),0)=some (Yzf (R:=Int⊕Unit) (fun m=>bif decide (v=l.getD m (YEy #[]))then some (.inl (m:Int))else none) l.length 0 (.inr ())):=by
  refine YaD (fun n=>(l,v,(l.length:Int),(n:Int))) _ l.length (Sum.inr ()) rfl ?_ (fun n hn=> ?_)
  ·simp[Ydz]
  ·have e1:decide ((n:Int)< (l.length:Int))=true:=by simp;omega
   have e2:YEz .i64 ((n:Int)+1)=((n+1:Nat):Int):=by rw[wr6 (by omega) (by omega)];omega
   simp only[Ydz,e1,cond_true,e2,YEt]
   rw[chkT _ (by omega)]
   cases decide (v=l.getD n (YEy #[]))<;>rfl
 unfold q4 idxI idxR
 rw[this,Yy8]
 cases Yzf (R:=Int⊕Unit) (fun m=>bif decide (v=l.getD m (YEy #[]))then some (.inl (m:Int))else none) l.length 0 (.inr ())<;>rfl
theorem YyB(l:List ByteArray)(v:ByteArray)(hl:l.length<=maxEl):q5 loO l v=some (decide (0<=idxI l v)):=by
 unfold q5;rw[YyA l v hl];rfl
theorem Yf2(l:List ByteArray)(v:ByteArray)(hl:l.length<=maxEl):q100 loO l v=some (idxI l v):=by
 have hm:maxEl=1073741824:=rfl
 have:YfM loO (l,v,0)=some (Yzf (R:=Int⊕Unit) (fun m=>bif decide (v=l.getD m (YEy #[]))then some (.inl (m:Int))else none) l.length 0 (.inr ())):=by
  refine YaD (fun n=>(l,v,(n:Int))) _ l.length (Sum.inr ()) rfl ?_ (fun n hn=> ?_)
  ·simp[YdN]
  ·have e1:decide ((n:Int)< (l.length:Int))=true:=by simp;omega
   have e2:YEz .i64 ((n:Int)+1)=((n+1:Nat):Int):=by rw[wr6 (by omega) (by omega)];omega
   have e3:decide (l.getD n (YEy #[])=v)=decide (v=l.getD n (YEy #[])):=by simp only[eq_comm]
   simp only[YdN,e1,cond_true,e2,YEt,e3]
   rw[chkT _ (by omega)]
   cases decide (v=l.getD n (YEy #[]))<;>rfl
 unfold q100 idxI idxR
 rw[this,Yy8]
 cases Yzf (R:=Int⊕Unit) (fun m=>bif decide (v=l.getD m (YEy #[]))then some (.inl (m:Int))else none) l.length 0 (.inr ())<;>rfl
def vB(v:Int×Int×ByteArray):Bool:=(q6 loO v.1 v.2.1 v.2.2).getD false
theorem Yd0(a b:Int)(c:ByteArray):q6 loO a b c=some (vB (a,b,c)):=by
 unfold vB q6
 by_cases h0:a=0<;>by_cases h1:a=1<;>by_cases h2:a=2<;>by_cases h3:a=3<;>by_cases h4:b=0<;>by_cases h5:1<=b<;>simp[h0,h1,h2,h3,h4,h5]
theorem Ynf(a b:Int)(c:ByteArray):q102 loO a b c=some (vB (a,b,c)):=Yd0 a b c
end
end Go.Abs.G47
namespace Go.Abs.G47
open Go Go.Abs
noncomputable section
theorem inc{n N:Nat}(h:n<N)(hN:N<=maxEl):YEz .i64 ((n:Int)+1)=((n+1:Nat):Int):=by
 have hm:maxEl=1073741824:=rfl
 rw[wr6 (by omega) (by omega)];omega
theorem ltI{n N:Nat}(h:n<N):decide ((n:Int)< (N:Int))=true:=by simp_all
theorem nlI(N:Nat):decide ((N:Int)< (N:Int))=false:=by simp
abbrev zA:Atom:=(YEy #[],[])
abbrev zM:Term:=(YEy #[],0,0,YEy #[])
abbrev nul0:ByteArray:=YEy #[]
theorem lexL(c:Int):q26 loO c=some (lt c):=YdZ c
theorem lexD(c:Int):q27 loO c=some (decide (48<=c)&&decide (c<=57)):=by
 unfold q27
 grind
theorem YyC(s:ByteArray)(hs:s.size<=24):Yfk loO (s,(s.size:Int),0)=some (Yzf (fR s) s.size 0 (.inr ())):=by
 have hm:maxEl=1073741824:=rfl
 refine YaD (fun n=>(s,(s.size:Int),(n:Int))) (fR s) s.size (.inr ()) rfl ?_ (fun n hn=> ?_)
 ·simp[YdA]
 ·simp only[YdA,ltI hn,cond_true,inc hn (show s.size<=maxEl by omega),lexL,lexD,Yy8]
  rw[chkT _ (by omega),chkT _ (by omega)]
  unfold fR
  grind
theorem lexN(s:ByteArray):q28 loO s=some (YA3 s):=by
 rw[<-Yf1]
 unfold q28 q99
 by_cases h1:s=YEy #[]
 ·subst h1;rfl
 ·have h1':s.size≠0:=fun h=>h1 ((YC8 s).1 h)
  have h0: ¬ (s.size:Int)=0:=by omega
  by_cases h2:(24:Int)< (s.size:Int)
  ·simp_all
  ·by_cases h3:s=YEy #[110,117,108,108]
   ·subst h3
    rfl
   ·simp only[h1,h2,h3,h0,decide_false,cond_false,lexL,YdZ,Yy8]
    rw[chkT _ (by omega),chkT _ (by omega),YyC s (by omega),Yne s (by omega),Yy8]
def YAx(t:Term):Bool:=bif !decide (t.1=nul0)then YA3 t.1&& (decide (t.2.1=0)&& (decide (t.2.2.1=0)&& (decide (t.2.2.2=nul0)&&true)))else vB t.2
theorem YDn(t:Term):q29 loO t.1 t.2.1 t.2.2.1 t.2.2.2=some (YAx t):=by
 unfold q29 YAx
 rw[lexN,Yd0,Yy8,Yy8]
 grind
theorem YDo(t:Term):q107 loO t.1 t.2.1 t.2.2.1 t.2.2.2=some (YAx t):=by
 unfold q107 YAx
 rw[Yf1,Ynf,Yy8,Yy8]
 grind
def badT(l:List Term):Bool:=anyN (fun m=> !YAx (l.getD m zM)) l.length 0
theorem YC9(nm:ByteArray)(l:List Term)(h:l.length<=maxEl):q108 loO nm l=some (!badT l):=by
 have:YfN loO (0,nm,l)=some (Yzf (R:=Bool⊕Unit) (fun m=>bif !YAx (l.getD m zM)then some (.inl false)else none) l.length 0 (.inr ())):=by
  refine YaD (fun n=>((n:Int),nm,l)) _ l.length _ rfl ?_ (fun n hn=> ?_)
  ·simp[YdO]
  ·simp only[YdO,ltI hn,cond_true,inc hn h,YEt]
   rw[chkT _ (by omega),YDo,Yy8]
   grind
 unfold q108 badT
 rw[this,Yy8,Yf0]
 cases anyN (fun m=> !YAx (l.getD m zM)) l.length 0<;>rfl
def addV(out:List ByteArray)(v:ByteArray):List ByteArray:=bif !decide (v=nul0)&&decide (idxI out v<0)then out++[v]else out
def YzN(out:List ByteArray)(l:List Term):List ByteArray:=l.foldl (fun o t=>addV o t.1) out
def YzO(out:List ByteArray)(l:List Atom):List ByteArray:=l.foldl (fun o a=>YzN o a.2) out
theorem YyD(out:List ByteArray)(v:ByteArray):(addV out v).length<=out.length+1:=by
 unfold addV
 grind
theorem Yf3: ∀(l:List Term) (out:List ByteArray),(YzN out l).length<=out.length+l.length
 | [],out=>by simp[YzN]
 |t::l,out=>by
  have h1:=Yf3 l (addV out t.1)
  have h2:=YyD out t.1
  simp only[YzN,List.foldl_cons,YDG]at h1⊢
  omega
def sumT(l:List Atom):Nat:=(l.map fun a=>a.2.length).sum
theorem Yf4: ∀(l:List Atom) (out:List ByteArray),(YzO out l).length<=out.length+sumT l
 | [],out=>by simp[YzO,sumT]
 |a::l,out=>by
  have h1:=Yf4 l (YzN out a.2)
  have h2:=Yf3 a.2 out
  simp only[YzO,sumT,List.foldl_cons,YDC,List.sum_cons]at h1⊢
  omega
theorem Yng{α β:Type}(f:β->α->β)(b:β){l:List α}{n:Nat}{d:α}(h:n<l.length):(l.take (n+1)).foldl f b=f ((l.take n).foldl f b) (l.getD n d):=by
 rw[YcD (d:=d) h,List.foldl_append];rfl
theorem YyE{l:List Nat}: ∀(n:Nat),(l.take n).sum<=l.sum:=by
 induction l with
 |nil=>simp
 |cons a r ih=>
  intro n
  cases n with
  |zero=>simp
  |succ n=>simp_all
theorem YyF(l:List Atom)(n:Nat):sumT (l.take n)<=sumT l:=by
 unfold sumT;rw[List.map_take];exact YyE n
theorem Yd1{l:List Atom}{n:Nat}(h:n<l.length):sumT (l.take n)+(l.getD n zA).2.length<=sumT l:=by
 have:=YyF l (n+1)
 rw[YcD (d:=zA) h]at this
 unfold sumT at this⊢
 grind
theorem YDp(l:List Atom)(h:l.length<=maxEl)(h2:sumT l<=maxEl):q109 loO l=some (YzO [] l):=by
 have inner: ∀(i:Nat) (out:List ByteArray),i<l.length->out.length<=sumT (l.take i)->YfO loO (l,(i:Int),0,out)=some (l,(i:Int),YzN out (l.getD i zA).2):=by
  intro i out hi ho
  have hb:=Yd1 hi
  refine Ya6 (st:=fun n=>(l,(i:Int),(n:Int),YzN out ((l.getD i zA).2.take n))) (N:=(l.getD i zA).2.length) rfl ?_ (fun n hn=> ?_)
  ·simp only[YdP,YEt,nlI,cond_false,YDO]
   rw[chkT _ (by omega)]
  ·have ht:=Yf3 ((l.getD i zA).2.take n) out
   rw[List.length_take,Nat.min_eq_left (by omega)]at ht
   simp only[YdP,YEt,ltI hn,cond_true,inc hn (show(l.getD i zA).2.length<=maxEl by omega)]
   rw[chkT _ (by omega),chkT _ (by omega),chkT _ ⟨by omega,Int.ofNat_lt.2 hn⟩,Yf2 _ _ (by omega),Yy8]
   have e:YzN out ((l.getD i zA).2.take (n+1))=addV (YzN out ((l.getD i zA).2.take n)) ((l.getD i zA).2.getD n zM).1:=Yng (fun o (t:Term)=>addV o t.1) out (d:=zM) hn
   rw[e]
   rw[chkT _ (by grind)]
   unfold addV
   grind
 have outer:YfP loO (l,0,[])=some (YzO [] l):=by
  refine Ya6 (st:=fun n=>(l,(n:Int),YzO [] (l.take n))) (N:=l.length) rfl ?_ (fun n hn=> ?_)
  ·simp only[YdQ,nlI,cond_false,YDO]
  ·have hl:=Yf4 (l.take n) []
   simp at hl
   simp only[YdQ,ltI hn,cond_true]
   rw[inner n _ hn hl,Yy8]
   simp only[inc hn h]
   have e:YzO [] (l.take (n+1))=YzN (YzO [] (l.take n)) (l.getD n zA).2:=Yng (fun o (a:Atom)=>YzN o a.2) [] (d:=zA) hn
   rw[e]
 unfold q109
 simp_all
def inL(l:List ByteArray)(v:ByteArray):Bool:=l.any fun w=>decide (v=w)
theorem Yf5{l:List ByteArray}{v:ByteArray}:inL l v=true↔v∈l:=by
 unfold inL;simp
theorem Yf6(l:List ByteArray)(v:ByteArray):decide (0<=idxI l v)=inL l v:=by
 unfold idxI
 rw[YfY,YEq,anyN_iff,Yf5]
 constructor
 ·simp_all
 ·intro h
  obtain⟨m,hm,e⟩:=List.mem_iff_getElem.1 h
  exact⟨m,YEf _,by omega,by simp_all⟩
theorem Ynh(l:List ByteArray)(v:ByteArray):decide (idxI l v<0)= !inL l v:=by
 rw[<-Yf6];grind
theorem YyG(out:List ByteArray)(w v:ByteArray):v∈addV out w↔v∈out\/(v≠nul0/\w=v):=by
 unfold addV
 rw[Ynh]
 by_cases h1:w=nul0
 ·grind
 ·by_cases h2:w∈out
  ·grind
  ·have h3:inL out w=false:=by rw[<-Bool.not_eq_true,Yf5];exact h2
   grind
theorem Yni: ∀(l:List Term) (out:List ByteArray) (v:ByteArray),v∈YzN out l↔v∈out\/(v≠nul0/\ ∃t∈l,t.1=v)
 | [],out,v=>by simp[YzN]
 |t::l,out,v=>by
  have:=Yni l (addV out t.1) v
  simp only[YzN,List.foldl_cons]at this⊢
  rw[this,YyG]
  grind
theorem Ynj: ∀(l:List Atom) (out:List ByteArray) (v:ByteArray),v∈YzO out l↔v∈out\/(v≠nul0/\ ∃a∈l,∃t∈a.2,t.1=v)
 | [],out,v=>by simp[YzO]
 |a::l,out,v=>by
  have:=Ynj l (YzN out a.2) v
  simp only[YzO,List.foldl_cons]at this⊢
  rw[this,Yni]
  simp
  constructor
  ·rintro((h| ⟨h1,h2⟩)| ⟨h1,h2⟩)
   ·simp_all
   ·simp_all
   simp_all
  ·rintro(h| ⟨h1,h2|h2⟩)
   ·simp_all
   ·simp_all
   simp_all
def fHd(hd:List ByteArray)(at':List Atom)(n:Nat):Bool:=inL (YzO [] at') (hd.getD n nul0)&& !inL (hd.take n) (hd.getD n nul0)
def YBo(hd:List ByteArray)(at':List Atom):Bool:= !anyN (fun m=> !fHd hd at' m) hd.length 0
theorem YDq(l:List Term)(v:ByteArray)(h:l.length<=maxEl):q35 loO l v=some (anyN (fun m=>decide ((l.getD m zM).1=v)) l.length 0,v):=by
 have:Yfl loO (l,(l.length:Int),0,v)=some (Yzf (R:=(Int×ByteArray)⊕ByteArray) (fun m=>bif decide ((l.getD m zM).1=v)then some (.inl ((m:Int),v))else none) l.length 0 (.inr v)):=by
  refine YaD (fun n=>(l,(l.length:Int),(n:Int),v)) _ l.length _ rfl ?_ (fun n hn=> ?_)
  ·simp[YdB]
  ·simp only[YdB,ltI hn,cond_true,inc hn h,YEt,q33,Yy8]
   rw[chkT _ (by omega)]
   grind
 unfold q35 q34
 rw[this,Yy8]
 have k1:=YfZ (R:=(Int×ByteArray)⊕ByteArray) (p:=fun m=>decide ((l.getD m zM).1=v)) (fun m=>.inl ((m:Int),v)) (.inr v) (fun r=>match r with| .inl i=>decide (0<=i.1)| .inr _=>false) rfl (fun m=>by simp) l.length 0
 have k2: ∀k n,(match Yzf (R:=(Int×ByteArray)⊕ByteArray) (fun m=>bif decide ((l.getD m zM).1=v)then some (.inl ((m:Int),v))else none) k n (.inr v)with| .inl i=>i.2| .inr b=>b)=v:=by
  intro k
  induction k with
  |zero=>intro n;rfl
  |succ k ih=>intro n;simp only[Yzf];grind
 have k2:=k2 l.length 0
 rw[<-k1]
 revert k2
 cases Yzf (R:=(Int×ByteArray)⊕ByteArray) (fun m=>bif decide ((l.getD m zM).1=v)then some (.inl ((m:Int),v))else none) l.length 0 (.inr v)with
 |inl i=>intro k2;subst k2;rfl
 |inr b=>intro k2;subst k2;rfl
theorem YDr(l:List Atom)(v:ByteArray)(h:l.length<=maxEl)(h2:sumT l<=maxEl):q38 loO l v=some (anyN (fun m=>anyN (fun k=>decide (((l.getD m zA).2.getD k zM).1=v)) (l.getD m zA).2.length 0) l.length 0,v):=by
 have:Yfm loO (l,(l.length:Int),0,v)=some (Yzf (R:=(Int×ByteArray)⊕ByteArray) (fun m=>bif anyN (fun k=>decide (((l.getD m zA).2.getD k zM).1=v)) (l.getD m zA).2.length 0 then some (.inl ((m:Int),v))else none) l.length 0 (.inr v)):=by
  refine YaD (fun n=>(l,(l.length:Int),(n:Int),v)) _ l.length _ rfl ?_ (fun n hn=> ?_)
  ·simp[YdC]
  ·have:=Yd1 hn
   have hg:(l.getD n zA).2.length<=maxEl:=by omega
   simp only[YdC,ltI hn,cond_true,inc hn h,YEt,q36]
   rw[chkT _ (by omega),YDq _ _ hg,Yy8,Yy8]
   grind
 unfold q38 q37
 rw[this,Yy8]
 have k1:=YfZ (R:=(Int×ByteArray)⊕ByteArray) (p:=fun m=>anyN (fun k=>decide (((l.getD m zA).2.getD k zM).1=v)) (l.getD m zA).2.length 0) (fun m=>.inl ((m:Int),v)) (.inr v) (fun r=>match r with| .inl i=>decide (0<=i.1)| .inr _=>false) rfl (fun m=>by simp) l.length 0
 have k2: ∀k n,(match Yzf (R:=(Int×ByteArray)⊕ByteArray) (fun m=>bif anyN (fun k=>decide (((l.getD m zA).2.getD k zM).1=v)) (l.getD m zA).2.length 0 then some (.inl ((m:Int),v))else none) k n (.inr v)with| .inl i=>i.2| .inr b=>b)=v:=by
  intro k
  induction k with
  |zero=>intro n;rfl
  |succ k ih=>intro n;simp only[Yzf];grind
 have k2:=k2 l.length 0
 rw[<-k1]
 revert k2
 cases Yzf (R:=(Int×ByteArray)⊕ByteArray) (fun m=>bif anyN (fun k=>decide (((l.getD m zA).2.getD k zM).1=v)) (l.getD m zA).2.length 0 then some (.inl ((m:Int),v))else none) l.length 0 (.inr v)with
 |inl i=>intro k2;subst k2;rfl
 |inr b=>intro k2;subst k2;rfl
theorem Ynk{α:Type}(p:α->Bool)(l:List α)(d:α):anyN (fun m=>p (l.getD m d)) l.length 0=l.any p:=by
 rw[YEq,anyN_iff,List.any_eq_true]
 constructor
 ·grind
 ·rintro⟨x,hx,h3⟩
  obtain⟨m,hm,e⟩:=List.mem_iff_getElem.1 hx
  refine⟨m,YEf _,by omega,?_⟩
  simp_all
theorem occ(l:List Atom)(v:ByteArray):(!decide (v=nul0)&&anyN (fun m=>anyN (fun k=>decide (((l.getD m zA).2.getD k zM).1=v)) (l.getD m zA).2.length 0) l.length 0)=inL (YzO [] l) v:=by
 have e1:anyN (fun m=>anyN (fun k=>decide (((l.getD m zA).2.getD k zM).1=v)) (l.getD m zA).2.length 0) l.length 0=l.any (fun a=>a.2.any fun t=>decide (t.1=v)):=by
  rw[<-Ynk (fun a=>a.2.any fun t=>decide (t.1=v)) l zA]
  congr 1;funext m
  exact Ynk (fun t=>decide (t.1=v)) (l.getD m zA).2 zM
 rw[e1,YEq,Yf5,Ynj]
 simp
theorem YDs(hd:List ByteArray)(l:List Atom)(hh:hd.length<=maxEl)(h:l.length<=maxEl)(h2:sumT l<=maxEl):q39 loO hd l=some (YBo hd l):=by
 have:Yfn loO (hd,(hd.length:Int),0,hd,l)=some (Yzf (R:=Bool⊕Unit) (fun m=>bif !fHd hd l m then some (.inl false)else none) hd.length 0 (.inr ())):=by
  refine YaD (fun n=>(hd,(hd.length:Int),(n:Int),hd,l)) _ hd.length _ rfl ?_ (fun n hn=> ?_)
  ·simp[YdD]
  ·simp only[YdD,ltI hn,cond_true,inc hn hh,YEt,List.drop_zero]
   rw[chkT _ (by omega),chkT _ (by omega),YyB _ _ (by grind),Yy8,YDr _ _ h h2,Yy8]
   unfold fHd
   rw[<-occ,Yf6]
   grind
 unfold q39 YBo
 rw[this,Yy8,Yf0]
 cases anyN (fun m=> !fHd hd l m) hd.length 0<;>rfl
theorem YDt(hd:List ByteArray)(l:List Atom)(hh:hd.length<=maxEl)(h:l.length<=maxEl)(h2:sumT l<=maxEl):q110 loO hd l=some (YBo hd l):=by
 have hv:=Yf4 l []
 simp at hv
 have:YfQ loO (YzO [] l,0,hd,l)=some (Yzf (R:=Bool⊕Unit) (fun m=>bif !fHd hd l m then some (.inl false)else none) hd.length 0 (.inr ())):=by
  refine YaD (fun n=>(YzO [] l,(n:Int),hd,l)) _ hd.length _ rfl ?_ (fun n hn=> ?_)
  ·simp[YdR]
  ·simp only[YdR,ltI hn,cond_true,inc hn hh,YEt,List.drop_zero]
   rw[chkT _ (by omega),chkT _ (by omega),chkT _ (by omega),Yf2 _ _ (by omega),Yy8,Yf2 _ _ (by grind),Yy8]
   unfold fHd
   rw[Ynh,Yf6]
   grind
 unfold q110 YBo
 rw[YDp l h h2,Yy8,this,Yy8,Yf0]
 cases anyN (fun m=> !fHd hd l m) hd.length 0<;>rfl
def up{R':Type}(x:Option (Int⊕Unit)):Option (Int⊕R'):=match x with|some (.inl i)=>some (.inl i)|some (.inr _)=>none|none=>none
theorem YyH{l:List Atom}{k:Nat}(h: ∀n,n<l.length->(l.getD n zA).2.length<=k):sumT l<=l.length*k:=by
 unfold sumT
 have: ∀a∈l,a.2.length<=k:=fun a ha=>by
  obtain⟨m,hm,e⟩:=List.mem_iff_getElem.1 ha
  grind
 clear h
 induction l with
 |nil=>simp
 |cons a r ih=>
  have h1:=this a (YDI ..)
  have h2:=ih (fun b hb=>this b (YDR _ hb))
  simp only[YDC,List.sum_cons,YDG,YEe];omega
theorem YyI(hd:List ByteArray)(l:List Atom): ∃b,q97 loO hd l=some b/\ (b=true->hd.length<=10/\l.length<=8/\sumT l<=160):=by
 have hm:maxEl=1073741824:=rfl
 unfold q97
 by_cases h:(10:Int)< (hd.length:Int)
 ·simp_all
 ·by_cases h8:(8:Int)< (l.length:Int)
  ·simp_all
  ·simp only[h,h8,decide_false,cond_false]
   have:YfK loO (l,(l.length:Int),0)=some (Yzf (R:=Bool⊕Unit) (fun n=>bif decide ((20:Int)< ((l.getD n zA).2.length:Int))then some (.inl false)else bif decide ((3:Int)< (n:Int))&&decide ((1:Int)< ((l.getD n zA).2.length:Int))then some (.inl false)else none) l.length 0 (.inr ())):=by
    refine YaD (fun n=>(l,(l.length:Int),(n:Int))) _ l.length _ rfl ?_ (fun n hn=> ?_)
    ·simp[YdL]
    ·simp only[YdL,ltI hn,cond_true,inc hn (show l.length<=maxEl by omega),YEt]
     rw[chkT _ (by omega)]
     grind
   rw[this,Yy8]
   rcases YdX (R:=Bool⊕Unit) (f:=fun n=>bif decide ((20:Int)< ((l.getD n zA).2.length:Int))then some (.inl false)else bif decide ((3:Int)< (n:Int))&&decide ((1:Int)< ((l.getD n zA).2.length:Int))then some (.inl false)else none) (r0:=.inr ()) l.length 0 with⟨m,r,_,_,h3,h4⟩| ⟨h1,hn⟩
   ·rw[h4]
    have:r= .inl false:=by
     grind
    subst this
    exact⟨false,rfl,fun h=>by cases h⟩
   ·rw[h1]
    refine⟨true,rfl,fun _=>⟨by omega,by omega,?_⟩⟩
    have:=YyH (l:=l) (k:=20) (fun n hl=>by
     grind)
    omega
end
end Go.Abs.G47
namespace Go.Abs.G47
open Go Go.Abs
noncomputable section
abbrev Asg(ν:Type):=ByteArray->Option ν
section
variable{ν:Type}[DecidableEq ν]
def leA(σ τ:Asg ν):Prop:= ∀k v,σ k=some v->τ k=some v
omit [DecidableEq ν] in
theorem leA.refl(σ:Asg ν):leA σ σ:=fun _ _ h=>h
omit [DecidableEq ν] in
theorem leA.trans{σ τ ρ:Asg ν}(h:leA σ τ)(h':leA τ ρ):leA σ ρ:=fun k v e=>h' k v (h k v e)
def Img(σ:Asg ν):List (ByteArray×ν)->List ν->Prop
 | [],_=>True
 |_::_,[]=>False
 |p::ps,u::us=>(if p.1=nul0 then p.2=u else σ p.1=some u)/\Img σ ps us
omit [DecidableEq ν] in
theorem Img.mono{σ τ:Asg ν}(h:leA σ τ): ∀{ps us},Img σ ps us->Img τ ps us
 | [],_,_=>trivial
 |_::_,[],h'=>h'.elim
 |p::ps,u::us,h'=>by
  refine⟨?_,h'.2.mono h⟩
  have:=h'.1
  by_cases h0:p.1=nul0
  ·rw[if_pos h0]at this⊢;exact this
  ·rw[if_neg h0]at this⊢;exact h _ _ this
end
end
end Go.Abs.G47
namespace Go.Abs.G47
open Go Go.Abs
noncomputable section
theorem YCd{A B:Type}{a a':Option A}{f g:A->Option B}{y:B}(h:YEh a f=some y)(ha: ∀z,a=some z->a'=some z)(k: ∀z,f z=some y->g z=some y):YEh a' g=some y:=by
 cases a with
 |none=>cases h
 |some z=>simp_all
theorem chkm{B:Type}{p:Prop}[Decidable p]{a a':Option B}{y:B}(h:chk p a=some y)(k:a=some y->a'=some y):chk p a'=some y:=by
 by_cases hp:p
 ·rw[chkT _ hp]at*;grind
 ·simp[chk,hp]at h
theorem YCe{B:Type}{c:Bool}{a a' x x':Option B}{y:B}(h:(bif c then a else x)=some y)(k:a=some y->a'=some y)(k':x=some y->x'=some y):(bif c then a' else x')=some y:=by
 grind
def wfB(hd:List ByteArray)(l:List Atom):Bool:=bif decide ((l.length:Int)<1)then false else bif decide ((6:Int)< (l.length:Int))then false else
 bif anyN (fun m=> !YA3 (l.getD m zA).1||badT (l.getD m zA).2) l.length 0 then false else YBo hd l
theorem YCf(l:List Term)(h:l.length<=maxEl):q76 loO l=some (badT l):=by
 have:YfA loO (l,(l.length:Int),0)=some (Yzf (R:=Int⊕Unit) (fun m=>bif !YAx (l.getD m zM)then some (.inl (m:Int))else none) l.length 0 (.inr ())):=by
  refine YaD (fun n=>(l,(l.length:Int),(n:Int))) _ l.length _ rfl ?_ (fun n hn=> ?_)
  ·simp[YdH]
  ·simp only[YdH,ltI hn,cond_true,inc hn h,YEt,q74]
   rw[chkT _ (by omega),YDn,Yy8,Yy8]
   grind
 unfold q76 q75 badT
 rw[this,Yy8,<-YfY]
 unfold idxR
 cases Yzf (R:=Int⊕Unit) (fun m=>bif !YAx (l.getD m zM)then some (.inl (m:Int))else none) l.length 0 (.inr ())<;>rfl
def fW(l:List Atom)(n:Nat):Bool:= !YA3 (l.getD n zA).1||badT (l.getD n zA).2
theorem tWf(hd:List ByteArray)(l:List Atom)(hh:hd.length<=maxEl)(h2:sumT l<=maxEl):q77 loO hd l=some (wfB hd l):=by
 have hm:maxEl=1073741824:=rfl
 unfold q77 wfB
 by_cases h1:(l.length:Int)<1
 ·grind
 ·by_cases h6:(6:Int)< (l.length:Int)
  ·simp_all
  ·simp only[h1,h6,decide_false,cond_false]
   have:YfB loO (l,(l.length:Int),0,hd,l)=some (Yzf (R:=Bool⊕ (List ByteArray×List Atom)) (fun m=>bif fW l m then some (.inl false)else none) l.length 0 (.inr (hd,l))):=by
    refine YaD (fun n=>(l,(l.length:Int),(n:Int),hd,l)) _ l.length _ rfl ?_ (fun n hn=> ?_)
    ·simp[YdI]
    ·have:=Yd1 hn
     simp only[YdI,ltI hn,cond_true,inc hn (show l.length<=maxEl by omega),YEt]
     have hx:(l.getD n zA).2.length<=maxEl:=by omega
     rw[chkT _ (by omega),lexN,Yy8,YCf _ hx,Yy8]
     unfold fW
     grind
   rw[this,Yy8]
   show _=some (bif anyN (fW l) l.length 0 then false else _)
   rcases YdX (f:=fun m=>bif fW l m then some (.inl false)else none) (r0:=(.inr (hd,l):Bool⊕ (List ByteArray×List Atom))) l.length 0 with⟨m,r,g1,g2,g3,g4⟩| ⟨g1,g2⟩
   ·rw[g4]
    have ha:anyN (fW l) l.length 0=true:=anyN_iff.2 ⟨m,g1,g2,by
     grind⟩
    rw[ha]
    cases hf:fW l m with
    |true=>rw[hf]at g3;injection g3 with g3;subst g3;rfl
    |false=>simp_all
   ·rw[g1]
    have ha:anyN (fW l) l.length 0=false:=by
     cases ha:anyN (fW l) l.length 0 with
     |false=>rfl
     |true=>
      obtain⟨m,m1,m2,m3⟩:=anyN_iff.1 ha
      grind
    rw[ha]
    simp only[alt2,cond_false]
    rw[YDs hd l hh (by omega) h2,Yy8]
theorem rWf(hd:List ByteArray)(l:List Atom)(hh:hd.length<=maxEl)(h2:sumT l<=maxEl):q135 loO hd l=some (wfB hd l):=by
 have hm:maxEl=1073741824:=rfl
 unfold q135 wfB
 by_cases h1:(l.length:Int)<1
 ·grind
 ·by_cases h6:(6:Int)< (l.length:Int)
  ·simp_all
  ·simp only[h1,h6,decide_false,cond_false]
   have:YfR loO (0,hd,l)=some (Yzf (R:=Bool⊕ (List ByteArray×List Atom)) (fun m=>bif fW l m then some (.inl false)else none) l.length 0 (.inr (hd,l))):=by
    refine YaD (fun n=>((n:Int),hd,l)) _ l.length _ rfl ?_ (fun n hn=> ?_)
    ·simp[YdS]
    ·have:=Yd1 hn
     simp only[YdS,ltI hn,cond_true,inc hn (show l.length<=maxEl by omega),YEt]
     have hx:(l.getD n zA).2.length<=maxEl:=by omega
     rw[chkT _ (by omega),chkT _ (by omega),Yf1,Yy8,YC9 _ _ hx,Yy8]
     unfold fW
     grind
   rw[this,Yy8]
   show _=some (bif anyN (fW l) l.length 0 then false else _)
   rcases YdX (f:=fun m=>bif fW l m then some (.inl false)else none) (r0:=(.inr (hd,l):Bool⊕ (List ByteArray×List Atom))) l.length 0 with⟨m,r,g1,g2,g3,g4⟩| ⟨g1,g2⟩
   ·rw[g4]
    have ha:anyN (fW l) l.length 0=true:=anyN_iff.2 ⟨m,g1,g2,by
     grind⟩
    rw[ha]
    cases hf:fW l m with
    |true=>rw[hf]at g3;injection g3 with g3;subst g3;rfl
    |false=>simp_all
   ·rw[g1]
    have ha:anyN (fW l) l.length 0=false:=by
     cases ha:anyN (fW l) l.length 0 with
     |false=>rfl
     |true=>
      obtain⟨m,m1,m2,m3⟩:=anyN_iff.1 ha
      grind
    rw[ha]
    simp only[alt2,cond_false]
    rw[YDt hd l hh (by omega) h2,Yy8]
end
end Go.Abs.G47
namespace Go.Abs.G47
open Go Go.Abs
noncomputable section
set_option maxRecDepth 100000
def BA(l:List UInt8):ByteArray:=⟨l.toArray⟩
theorem YbD(a b:List UInt8):BA a++BA b=BA (a++b):=YdW (by simp[bl,BA,ByteArray.data_append])
theorem YaT(l:List UInt8):(BA l).size=l.length:=by simp[BA,ByteArray.size]
theorem YyJ(l:List UInt8):Yzb (l.map fun b=>(b.toNat:Int))=BA l:=by
 simp[Yzb,BA,YDV,Function.comp_def]
theorem YDa{α β:Type}(c:Bool)(x y:Option α)(f:α->Option β):YEh (bif c then x else y) f=bif c then YEh x f else YEh y f:=by cases c<;>rfl
theorem YDb{α β:Type}(p:Prop)[Decidable p](x:Option α)(f:α->Option β):YEh (chk p x) f=chk p (YEh x f):=by
 by_cases h:p<;>simp[chk,h]
def hexB:ByteArray:=YEy #[48,49,50,51,52,53,54,55,56,57,97,98,99,100,101,102]
def hx(n:Nat):UInt8:=hexB.data.getD n 0
def qD(n:Nat):Bool:= !(YD4 n 34||YD4 n 92||YD4 n 10||YD7 n 32||YD7 126 n)
def qP(n:Nat):List UInt8:=
 bif YD4 n 34 then[92,34]else bif YD4 n 92 then[92,92]else bif YD4 n 10 then[92,110]else bif YD7 n 32||YD7 126 n then[92,120,hx (n/16),hx (n % 16)]else[UInt8.ofNat n]
def HX(b:Int):Option (List Int):=
 chk (0<=(4:Int)) (chk (0<=(b.fdiv (2^(min (4:Int).toNat (IntKind.bits .u8))))/\ (b.fdiv (2^(min (4:Int).toNat (IntKind.bits .u8))))< (hexB.size:Int)) (chk (0<=(bits .and .u8 b (15:Int))/\ (bits .and .u8 b (15:Int))< (hexB.size:Int)) (some [(92:Int),(120:Int),(Yy6 hexB (b.fdiv (2^(min (4:Int).toNat (IntKind.bits .u8))))),(Yy6 hexB (bits .and .u8 b (15:Int)))])))
def pP(b:Int):Option (List Int):=
 bif decide (b=(34:Int))then some [(92:Int),b]else bif decide (b=(92:Int))then some [(92:Int),b]else bif decide (b=(10:Int))then some [(92:Int),(110:Int)]else bif decide (b< (32:Int))then HX b else bif decide ((126:Int)<b)then HX b else some [b]
def HR(b:Int):Option (Option ByteArray):=
 let QT:=YEz .u8 (b.tdiv (16:Int));let QT1:=YEz .u8 (QT+(1:Int));let RM:=b.tmod (16:Int);let RM1:=YEz .u8 (RM+(1:Int))
 chk ((16:Int)≠0) (chk ((16:Int)≠0) (chk (0<=QT/\QT<=QT1/\QT1<=(hexB.size:Int)) (chk (YD5 ((YEy #[92,120]).size+(hexB.extract QT.toNat QT1.toNat).size) 9223372036854775807=true) (chk ((16:Int)≠0) (chk ((16:Int)≠0) (chk (0<=RM/\RM<=RM1/\RM1<=(hexB.size:Int)) (chk (YD5 (((YEy #[92,120])++(hexB.extract QT.toNat QT1.toNat)).size+(hexB.extract RM.toNat RM1.toNat).size) 9223372036854775807=true)
  (some (some (((YEy #[92,120])++(hexB.extract QT.toNat QT1.toNat))++(hexB.extract RM.toNat RM1.toNat)))))))))))
def pR(b:Int):Option (Option ByteArray):=
 bif decide (b=(34:Int))then some (some (YEy #[92,34]))else bif decide (b=(92:Int))then some (some (YEy #[92,92]))else bif decide (b=(10:Int))then some (some (YEy #[92,110]))else bif decide (b< (32:Int))then HR b else bif decide ((126:Int)<b)then HR b else some none
theorem YyK:((List.range 256).all fun n=>decide (pP (n:Int)=some ((qP n).map fun b=>(b.toNat:Int))))=true:=by kernel_rfl
theorem YyL:((List.range 256).all fun n=>decide (pR (n:Int)=some (bif qD n then none else some (BA (qP n)))))=true:=by kernel_rfl
theorem YyM:((List.range 256).all fun n=>YD5 (qP n).length 4&& (!qD n||decide (qP n=[UInt8.ofNat n])))=true:=by kernel_rfl
theorem YyN{n:Nat}(h:n<256):pP (n:Int)=some ((qP n).map fun b=>(b.toNat:Int)):=of_decide_eq_true (YDL.1 YyK n (List.mem_range.2 h))
theorem YyO{n:Nat}(h:n<256):pR (n:Int)=some (bif qD n then none else some (BA (qP n))):=of_decide_eq_true (YDL.1 YyL n (List.mem_range.2 h))
theorem Ynl(s0:ByteArray)(v8 v9:Int)(out:ByteArray):YfG loO (s0,v8,v9,out)=
  bif decide (v9<v8)then chk (0<=v9/\v9< (s0.size:Int)) (YEh (pP (Yy6 s0 v9)) fun l=>bif inB l then chk (out.size+l.length<=maxEl) (some (.inl (s0,v8,YEz .i64 (v9+(1:Int)),out++Yzb l)))else none)else some (.inr out):=by
 simp only[pP,HX,YDa,YDb,Yy8];rfl
theorem Ynm(s0 out:ByteArray)(i4:Int):YfS loO (s0,out,i4)=
  bif decide (i4< (s0.size:Int))then chk (0<=i4/\i4< (s0.size:Int)) (YEh (pR (Yy6 s0 i4)) fun o=>match o with
   |some p=>chk (YD5 (out.size+p.size) 9223372036854775807=true) (some (.inl (s0,out++p,YEz .i64 (i4+(1:Int)))))
   |none=>chk (0<=i4/\i4<=(YEz .i64 (i4+(1:Int)))/\ (YEz .i64 (i4+(1:Int)))<=(s0.size:Int)) (chk (YD5 (out.size+(s0.extract i4.toNat (YEz .i64 (i4+(1:Int))).toNat).size) 9223372036854775807=true) (some (.inl (s0,(out++(s0.extract i4.toNat (YEz .i64 (i4+(1:Int))).toNat)),(YEz .i64 (i4+(1:Int))))))))else some (.inr out):=by
 simp only[pR,HR,YDa,YDb,Yy8];rfl
end
end Go.Abs.G47
namespace Go.Abs.G47
open Go Go.Abs
noncomputable section
set_option maxRecDepth 100000
def qL(l:List UInt8):List UInt8:=l.flatMap fun c=>qP c.toNat
theorem YyP(l:List UInt8)(c:UInt8):qL (l++[c])=qL l++qP c.toNat:=by simp[qL]
theorem Yf7(c:UInt8):(qP c.toNat).length<=4/\ (qD c.toNat=true->qP c.toNat=[c]):=by
 have h:=YDL.1 YyM c.toNat (List.mem_range.2 c.toNat_lt)
 simp only[YEp,YEs,Bool.not_eq_true',decide_eq_true_eq]at h
 refine⟨YEg h.1,fun e=> ?_⟩
 rcases h.2 with h|h
 ·rw[e]at h;cases h
 ·rw[h,UInt8.ofNat_toNat]
theorem YcE: ∀l:List UInt8,(qL l).length<=4*l.length
 | []=>YD6 _
 |c::l=>by
  have h1:=YcE l
  have h2:=(Yf7 c).1
  simp only[qL,List.flatMap_cons,List.length_append,YDG]at h1⊢
  omega
theorem YyQ(l:List UInt8):inB (l.map fun b=>(b.toNat:Int))=true:=by
 simp only[inB,YDL,YDQ,YEp,decide_eq_true_eq]
 rintro x ⟨b,_,rfl⟩
 have:=b.toNat_lt
 omega
def YAs(s:ByteArray):ByteArray:=BA (34::(qL (bl s)++[34]))
theorem YyR(s:ByteArray):(YAs s).size<=4*s.size+2:=by
 have:=YcE (bl s)
 rw[YcC]at this
 simp only[YAs,YaT,YDG,List.length_append,YDS]
 omega
theorem YDc(s:ByteArray)(n:Nat)(h:n<s.size):qL ((bl s).take (n+1))=qL ((bl s).take n)++qP (s.data.getD n 0).toNat:=by
 rw[Yyq s n h,YyP]
theorem Ynn(s:ByteArray)(n:Nat)(h:n<=s.size):(qL ((bl s).take n)).length<=4*n:=by
 have:=YcE ((bl s).take n)
 rw[List.length_take]at this
 omega
theorem Yno(s:ByteArray)(n:Nat):Yy6 s (n:Int)=((s.data.getD n 0).toNat:Int):=rfl
theorem ext1(s:ByteArray)(n:Nat)(h:n<s.size):s.extract n (n+1)=BA [s.data.getD n 0]:=by
 apply YdW
 have h':n<s.data.size:=h
 simp[bl,BA,ByteArray.data_extract,h']
 apply YDU
 intro i
 cases i with
 |zero=>simp[h'];rw[YEx h'];rfl
 |succ i=>simp;omega
theorem YDd(s:ByteArray)(h:s.size<=4194304):q89 loO s=some (YAs s):=by
 have hL:YfH loO (s,(s.size:Int),(0:Int),Yzb [(34:Int)])=some (BA (34::qL (bl s))):=by
  refine Ya6 (st:=fun n=>(s,(s.size:Int),(n:Int),BA (34::qL ((bl s).take n)))) (N:=s.size) rfl ?_ (fun n hn=> ?_)
  ·rw[Ynl,cF _ _ (by omega),List.take_of_length_le (by rw[YcC];omega)]
  ·have h3:=(Yf7 (s.data.getD n 0)).1
   have h4:=Ynn s n (by omega)
   have e2:YEz .i64 ((n:Int)+1)=((n+1:Nat):Int):=by rw[wr6 (by omega) (by omega)];omega
   rw[Ynl,cT _ _ (by omega),chkT _ (by omega),Yno,YyN (UInt8.toNat_lt _),Yy8,YyQ,cond_true,chkT _ (by simp only[YaT,YDG,YDM,maxEl];omega),YyJ,YbD,e2,YDc s n hn]
   rfl
 have h4:=YcE (bl s)
 rw[YcC]at h4
 unfold q89
 rw[show inB [(34:Int)]=true from rfl,cond_true,hL,Yy8,cond_true,chkT _ (by simp only[YaT,YDG,YDS,maxEl];omega)]
 rw[show Yzb [(34:Int)]=BA [34]from rfl,YbD]
 rfl
theorem YDe(s:ByteArray)(h:s.size<=4194304):q151 loO s=some (YAs s):=by
 have hL:YfT loO (s,YEy #[34],(0:Int))=some (BA (34::qL (bl s))):=by
  refine Ya6 (st:=fun n=>(s,BA (34::qL ((bl s).take n)),(n:Int))) (N:=s.size) rfl ?_ (fun n hn=> ?_)
  ·rw[Ynm,cF _ _ (by omega),List.take_of_length_le (by rw[YcC];omega)]
  ·have h3:=Yf7 (s.data.getD n 0)
   have h4:=Ynn s n (by omega)
   have e2:YEz .i64 ((n:Int)+1)=((n+1:Nat):Int):=by rw[wr6 (by omega) (by omega)];omega
   rw[Ynm,cT _ _ (by omega),chkT _ (by omega),Yno,YyO (UInt8.toNat_lt _),Yy8,e2,YDc s n hn]
   cases hd:qD (s.data.getD n 0).toNat with
   |false=>
    rw[cond_false]
    dsimp only
    rw[chkT _ (by simp only[YaT,YDG];exact YEc (by omega)),YbD]
    rfl
   |true=>
    rw[cond_true]
    dsimp only
    rw[chkT _ (by omega),YEt,YEt,ext1 s n hn,chkT _ (by simp only[YaT,YDG,YDS];exact YEc (by omega)),YbD,h3.2 hd]
    rfl
 have h4:=YcE (bl s)
 rw[YcC]at h4
 unfold q151
 rw[hL,Yy8,show YEy #[34]=BA [34]from rfl,chkT _ (by simp only[YaT,YDG,YDS];exact YEc (by omega)),YbD]
 rfl
end
end Go.Abs.G47
namespace Go.Abs.G47
open Go Go.Abs
noncomputable section
set_option maxRecDepth 100000
def D10:ByteArray:=YEy #[48,49,50,51,52,53,54,55,56,57]
theorem YyS:((List.range 10).all fun u=>decide (D10.extract u (u+1)=BA [UInt8.ofNat (48+u)]))=true:=by kernel_rfl
theorem YyT{u:Nat}(h:u<10):D10.extract u (u+1)=BA [UInt8.ofNat (48+u)]:=of_decide_eq_true (YDL.1 YyS u (List.mem_range.2 h))
theorem Yd2: ∀n x y,YaS loO n x=some y->YaS loO (n+1) x=some y
 |0,_,_,h=>by cases h
 |n+1,x,y,h=>by
  have ih:=Yd2 n
  have h':Ybh loO (YaS loO n) x=some y:=h
  exact YCe h' (fun h=>h) fun h=>YCe h (fun h=>YCd h (ih _) fun _ h=>h) fun h=>YCe h (fun h=>h) fun h=>chkm h fun h=>YCd h (ih _) fun _ h=>chkm h fun h=>YCd h (ih _) fun _ h=>h
theorem Yd3{u:Nat}(h:u<10):Lib.decDigits u=[UInt8.ofNat (48+u)]:=by rw[Lib.decDigits,dif_pos h]
theorem Ynp{u:Nat}(h: ¬u<10):Lib.decDigits u=Lib.decDigits (u/10)++Lib.decDigits (u % 10):=by
 rw[Lib.decDigits,dif_neg h,Yd3 (u:=u % 10) (by omega)]
theorem rDig: ∀(d u:Nat),u<10^(d+1)->d<=18->YaS loO (d+1) (u:Int)=some (BA (Lib.decDigits u))/\ (Lib.decDigits u).length<=d+1
 |d,u,h,hd=>by
  have h19:10^(d+1)<=10^19:=Nat.pow_le_pow_right (by omega) (by omega)
  have hc:(10:Nat)^19=10000000000000000000:=rfl
  show Ybh loO (YaS loO d) (u:Int)=_/\_
  unfold Ybh
  rw[cF _ _ (by omega),cF _ _ (by omega)]
  by_cases hu:u<10
  ·have e2:YEz .i64 ((u:Int)+1)=((u+1:Nat):Int):=by rw[wr6 (by omega) (by omega)];omega
   rw[cT _ _ (by omega),e2,chkT _ ⟨by omega,by omega,by have:(YEy #[48,49,50,51,52,53,54,55,56,57]).size=10:=rfl;omega⟩,Yd3 hu]
   exact⟨congrArg some (YyT hu),by simp⟩
  ·match d,h with
   |0,h=>omega
   |d+1,h=>
    have hp:10^(d+1+1)=10^(d+1)*10:=Nat.pow_succ ..
    have h1:=rDig d (u/10) (by omega) (by omega)
    have hpp:10^(d+1)=10^d*10:=Nat.pow_succ ..
    have hp0:0<10^d:=Nat.pos_of_ne_zero (by simp)
    have h2:=rDig d (u % 10) (by omega) (by omega)
    have h3:(Lib.decDigits (u % 10)).length=1:=by rw[Yd3 (by omega)];rfl
    have e1:YEz .i64 ((u:Int).tdiv 10)=((u/10:Nat):Int):=by
     rw[Int.tdiv_eq_ediv_of_nonneg (by omega),wr6 (by omega) (by omega)];omega
    have e2:(u:Int).tmod 10=((u % 10:Nat):Int):=by
     rw[Int.tmod_eq_emod_of_nonneg (by omega)];omega
    rw[cF _ _ (by omega),chkT _ (by decide),e1,h1.1,Yy8,chkT _ (by decide),e2,h2.1,Yy8,chkT _ (by simp only[YaT];exact YEc (by omega)),YbD,Ynp hu]
    exact⟨rfl,by rw[List.length_append];omega⟩
theorem Yf8(n:Int):YAh n=BA (Lib.itoa n):=rfl
theorem YyU:Lib.itoa (-9223372036854775808)=[45,57,50,50,51,51,55,50,48,51,54,56,53,52,55,55,53,56,48,56]:=by
 have:Lib.decDigits 9223372036854775808=[57,50,50,51,51,55,50,48,51,54,56,53,52,55,55,53,56,48,56]:=by
  repeat first|rw[Yd3 (by decide)]|rw[Ynp (by decide)]
  rfl
 unfold Lib.itoa
 rw[if_pos (by omega)]
 show 45::Lib.decDigits 9223372036854775808=_
 rw[this]
theorem YAR(n:Int)(h0: -9223372036854775808<=n)(h1:n<=9223372036854775807):q150 loO n=some (YAh n)/\ (YAh n).size<=20:=by
 have hc:(10:Nat)^(18+1)=10000000000000000000:=rfl
 by_cases hm:n= -9223372036854775808
 ·subst hm
  rw[Yf8,YyU]
  refine⟨Ydw (m:=1) (n:=0) Yd2 ?_,by decide⟩
  show Ybh loO (YaS loO 0) _=_
  unfold Ybh
  rw[cT _ _ rfl]
  rfl
 ·by_cases hn:n<0
  ·have h2:=rDig 18 n.natAbs (by omega) (by omega)
   have e:Lib.itoa n=45::Lib.decDigits n.natAbs:=by unfold Lib.itoa;rw[if_pos hn]
   rw[Yf8,e]
   refine⟨Ydw (m:=20) (n:=0) Yd2 ?_,by rw[YaT,YDG];omega⟩
   show Ybh loO (YaS loO 19) _=_
   have e1:YEz .i64 (0-n)=((n.natAbs:Nat):Int):=by rw[wr6 (by omega) (by omega)];omega
   unfold Ybh
   rw[cF _ _ hm,cT _ _ hn,e1,h2.1,Yy8,show YEy #[45]=BA [45]from rfl,chkT _ (by simp only[YaT,YDG,YDS];exact YEc (by omega)),YbD]
   rfl
  ·have h2:=rDig 18 n.toNat (by omega) (by omega)
   have e:Lib.itoa n=Lib.decDigits n.toNat:=by unfold Lib.itoa;rw[if_neg hn]
   rw[Yf8,e]
   refine⟨Ydw (m:=19) (n:=0) Yd2 ?_,by rw[YaT];omega⟩
   have e1:n=((n.toNat:Nat):Int):=by omega
   rw[e1]
   exact h2.1
theorem YBp(n:Int)(h0: -9223372036854775808<=n)(h1:n<=9223372036854775807):q88 loO n 10=some (YAh n):=by
 simp only[q88,YBC,h0,h1,decide_true,YEr,cond_true]
def fmtV(v:Int×Int×ByteArray):ByteArray:=bif !vB v then nul0 else bif decide (v.1=0)then nul else bif decide (v.1=1)then YAh v.2.1 else bif decide (v.1=3)then YEy #[63]++YAh v.2.1 else YAs v.2.2
def codV(v:Int×Int×ByteArray):Int:=bif !vB v then 1 else 0
theorem Yf9{a b:Int}{c:ByteArray}(h:vB (a,b,c)=true):(a=0\/a=1\/a=2\/a=3)/\ (a=2->c.size<=200):=by
 have h':=Yd0 a b c
 rw[h]at h'
 unfold q6 at h'
 by_cases h0:a=0
 ·exact⟨.inl h0,by omega⟩
 by_cases h1:a=1
 ·exact⟨.inr (.inl h1),by omega⟩
 by_cases h2:a=2
 ·refine⟨.inr (.inr (.inl h2)),fun _=> ?_⟩
  rw[cF _ _ h0,cF _ _ h1,cT _ _ h2]at h'
  by_cases hb:b=0
  ·rw[cT _ _ hb]at h'
   have:=of_decide_eq_true (Option.some.inj h')
   omega
  ·rw[cF _ _ hb]at h';cases h'
 by_cases h3:a=3
 ·exact⟨.inr (.inr (.inr h3)),by omega⟩
 rw[cF _ _ h0,cF _ _ h1,cF _ _ h2,cF _ _ h3]at h'
 cases h'
theorem YyV(v:Int×Int×ByteArray)(h0: -9223372036854775808<=v.2.1)(h1:v.2.1<=9223372036854775807):(fmtV v).size<=802:=by
 obtain⟨a,b,c⟩:=v
 have hd:=(YAR b h0 h1).2
 unfold fmtV
 cases hv:vB (a,b,c)with
 |false=>show nul0.size<=802;decide
 |true=>
  obtain⟨k1,k2⟩:=Yf9 hv
  have hq:=YyR c
  rcases k1 with rfl|rfl|rfl|rfl
  ·show nul.size<=802;decide
  ·exact YD9 hd (by omega)
  ·have:=k2 rfl
   show(YAs c).size<=_
   omega
  ·show(YEy #[63]++YAh b).size<=_
   rw[ByteArray.size_append,show(YEy #[63]).size=1 from rfl]
   omega
theorem YDu(a b:Int)(c:ByteArray)(h0: -9223372036854775808<=b)(h1:b<=9223372036854775807):q90 loO a b c=some (fmtV (a,b,c),codV (a,b,c)):=by
 have hd:=(YAR b h0 h1).2
 unfold q90 fmtV codV
 rw[Yd0,Yy8]
 cases hv:vB (a,b,c)with
 |false=>rfl
 |true=>
  obtain⟨k1,k2⟩:=Yf9 hv
  rcases k1 with rfl|rfl|rfl|rfl
  ·rfl
  ·rw[YBp b h0 h1];rfl
  ·rw[YDd c (by have:=k2 rfl;omega)];rfl
  ·rw[YBp b h0 h1,Yy8,Yy8,chkT _ (by rw[show(YEy #[63]).size=1 from rfl];exact YEc (by omega))];rfl
theorem YDv(a b:Int)(c:ByteArray)(h0: -9223372036854775808<=b)(h1:b<=9223372036854775807):q152 loO a b c=some (fmtV (a,b,c),codV (a,b,c)):=by
 have hd:=YAR b h0 h1
 unfold q152 fmtV codV
 rw[Ynf,Yy8]
 cases hv:vB (a,b,c)with
 |false=>rfl
 |true=>
  obtain⟨k1,k2⟩:=Yf9 hv
  rcases k1 with rfl|rfl|rfl|rfl
  ·rfl
  ·rw[hd.1];rfl
  ·rw[YDe c (by have:=k2 rfl;omega)];rfl
  ·rw[hd.1,Yy8,Yy8,chkT _ (by rw[show(YEy #[63]).size=1 from rfl];exact YEc (by omega))];rfl
end
end Go.Abs.G47
namespace Go.Abs.G47
open Go Go.Abs
noncomputable section
set_option maxRecDepth 100000
def SEP:ByteArray:=YEy #[44,32]
def jn(l:List ByteArray):ByteArray:=YzT l SEP
theorem YyW(x:ByteArray):jn [x]=x:=YdW (by
 show(Lib.join [x.data.toList] _).toArray.toList=_
 rw[Lib.join_one];rfl)
theorem YyX(l:List ByteArray)(x:ByteArray)(h:l≠ []):jn (l++[x])=jn l++SEP++x:=by
 cases l with
 |nil=>exact absurd rfl h
 |cons y r=>
  apply YdW
  simp only[bl,jn,YzT,ByteArray.data_append,Array.toList_append,YD0,YDC,YDZ,YDD,Lib.join_cons,Lib.joinTail,List.flatten_append,List.flatten_cons,List.flatten_nil,List.append_nil,YDW]
theorem Yga{α:Type}(p:ByteArray)(l:List α)(f:α->ByteArray)(d:α)(n:Nat)(h:n<l.length):
  p++jn ((l.take (n+1)).map f)=bif decide ((0:Int)< (n:Int))then((p++jn ((l.take n).map f))++SEP)++f (l.getD n d)else(p++jn ((l.take n).map f))++f (l.getD n d):=by
 rw[YcD (d:=d) h,YDZ,YDC,YDD]
 cases n with
 |zero=>
  rw[cF _ _ (by omega),List.take_zero,YDD,YDY,YyW]
  have:jn []=ByteArray.empty:=rfl
  rw[this,ByteArray.append_empty]
 |succ n=>
  rw[cT _ _ (by omega),YyX _ _ (by
   intro e
   have:=congrArg List.length e
   simp only[YDM,List.length_take,YDS]at this
   omega)]
  simp only[ByteArray.append_assoc]
theorem Ynq(B:Nat): ∀r:List ByteArray,(∀x∈r,x.size<=B)->(Lib.joinTail [44,32] (r.map fun s=>s.data.toList)).length<=r.length*(B+2)
 | [],_=>YEf _
 |x::r,h=>by
  have h1:=Ynq B r fun y hy=>h y (YDR _ hy)
  have h2:x.data.toList.length<=B:=h x (YDI ..)
  simp only[Lib.joinTail,YDC,List.flatten_cons,List.length_append,YDG,YDS]at h1⊢
  rw[YEe]
  omega
theorem Ynr(B:Nat)(l:List ByteArray)(h: ∀x∈l,x.size<=B):(jn l).size<=l.length*(B+2):=by
 cases l with
 |nil=>exact YEf _
 |cons x r=>
  have h1:=Ynq B r fun y hy=>h y (YDR _ hy)
  have h2:x.data.toList.length<=B:=h x (YDI ..)
  have h3:(jn (x::r)).size=(Lib.join ((x::r).map fun s=>s.data.toList) [44,32]).length:=List.size_toArray
  rw[h3,YDC,Lib.join_cons,List.length_append,YDG,YEe]
  omega
theorem Ygb{α:Type}(B:Nat)(l:List α)(f:α->ByteArray)(h: ∀x∈l,(f x).size<=B)(n:Nat):(jn ((l.take n).map f)).size<=l.length*(B+2):=by
 refine YD9 (Ynr B _ fun x hx=> ?_) ?_
 ·obtain⟨y,hy,rfl⟩:=YDQ.1 hx
  exact h y (List.mem_of_mem_take hy)
 ·exact YEb _ (by simp only[YDM,List.length_take];omega)
theorem YCg(l:List ByteArray)(h1:l.length<=maxEl)(h2:(jn l).size<=140737488355328):q91 loO l SEP=some (jn l):=by
 unfold q91 YAY
 rw[show YD5 l.length maxEl=true from YEc h1,show YD5 (YzT l SEP).size 140737488355328=true from YEc h2]
 rfl
def xTm(t:Term):ByteArray:=bif decide (t.1=nul0)then fmtV t.2 else t.1
def xAt(a:Atom):ByteArray:=((a.1++YEy #[40])++jn (a.2.map xTm))++YEy #[41]
def RT(t:Term):Prop:=(-9223372036854775808<=t.2.2.1/\t.2.2.1<=9223372036854775807)/\t.1.size<=1048576
theorem Ygc{t:Term}(h:RT t):(xTm t).size<=1048576:=by
 have:=YyV t.2 h.1.1 h.1.2
 have:=h.2
 unfold xTm
 cases decide (t.1=nul0)<;>simp only[cond_true,cond_false]<;>omega
theorem YDw(t:Term)(h:RT t):q153 loO t.1 t.2.1 t.2.2.1 t.2.2.2=some (xTm t):=by
 unfold q153 xTm
 rw[YDv _ _ _ h.1.1 h.1.2]
 show(bif !decide (t.1=nul0)then _ else _)=_
 cases decide (t.1=nul0)<;>rfl
theorem c1:(YEy #[40]).size=1:=rfl
theorem c2:(YEy #[41]).size=1:=rfl
theorem c3:SEP.size=2:=rfl
theorem Ygd{a:Atom}(h: ∀t∈a.2,RT t)(hl:a.2.length<=160)(hn:a.1.size<=1048576):(jn (a.2.map xTm)).size<=167772480/\ (xAt a).size<=168821058:=by
 have h1:=Ynr 1048576 (a.2.map xTm) fun x hx=>by
  obtain⟨y,hy,rfl⟩:=YDQ.1 hx
  exact Ygc (h y hy)
 rw[YDM]at h1
 have h2:a.2.length*(1048576+2)<=160*(1048576+2):=YEb _ hl
 refine⟨by omega,?_⟩
 unfold xAt
 simp only[ByteArray.size_append,c1,c2]
 omega
theorem w1{n:Nat}(h:n<1073741824):YEz .i64 ((n:Int)+1)=((n+1:Nat):Int):=by rw[wr6 (by omega) (by omega)];omega
theorem YyY(l:List Atom)(N i:Int)(ts:List Term)(hd:List ByteArray)(at':List Atom)(acc:List ByteArray)(nm:ByteArray)(tms:List Term)(hl:ts.length<=160)(h: ∀t∈ts,RT t):
  YfI loO (l,N,i,ts,(ts.length:Int),(0:Int),hd,at',acc,nm,tms,[])=some (l,N,i,hd,at',acc,nm,tms,ts.map xTm):=by
 refine Ya6 (st:=fun n=>(l,N,i,ts,(ts.length:Int),(n:Int),hd,at',acc,nm,tms,(ts.take n).map xTm)) (N:=ts.length) rfl ?_ (fun n hn=> ?_)
 ·simp only[YdJ]
  rw[cF _ _ (by omega),YDO]
 ·have ht:=h _ (YbV (d:=zM) hn)
  have hk:((ts.take n).map xTm).length<=160:=by simp only[YDM,List.length_take];omega
  simp only[YdJ,YEt]
  rw[cT _ _ (by omega),chkT _ (by omega),w1 (by omega),YcD (d:=zM) hn,YDZ,YDC,YDD]
  rw[YDu _ _ _ ht.1.1 ht.1.2,Yy8,chkT _ (by simp only[YDG,YDS,maxEl];omega),chkT _ (by simp only[YDG,YDS,maxEl];omega)]
  show(bif decide ((ts.getD n zM).1=nul0)then _ else _)=_
  unfold xTm
  cases decide ((ts.getD n zM).1=nul0)<;>rfl
structure Sm(hd:List ByteArray)(at':List Atom):Prop where
 h1:hd.length<=10
 h2:at'.length<=8
 h3: ∀a∈at',a.2.length<=160/\a.1.size<=1048576/\ ∀t∈a.2,RT t
 h4: ∀x∈hd,x.size<=1048576
theorem Sm.hj{hd:List ByteArray}{at':List Atom}(s:Sm hd at')(n:Nat):(jn ((hd.take n).map fun x=>x)).size<=10485780:=
 YD9 (Ygb 1048576 hd (fun x=>x) s.h4 n) (YEb _ s.h1)
theorem Sm.aj{hd:List ByteArray}{at':List Atom}(s:Sm hd at')(n:Nat):(jn ((at'.take n).map xAt)).size<=1350568480:=
 YD9 (Ygb 168821058 at' xAt (fun a ha=>(Ygd (s.h3 a ha).2.2 (s.h3 a ha).1 (s.h3 a ha).2.1).2) n) (YEb _ s.h2)
theorem YyZ(hd:List ByteArray)(at':List Atom)(s:Sm hd at'):YfJ loO (at',(at'.length:Int),(0:Int),hd,at',[])=some (hd,at',at'.map xAt):=by
 refine Ya6 (st:=fun n=>(at',(at'.length:Int),(n:Int),hd,at',(at'.take n).map xAt)) (N:=at'.length) rfl ?_ (fun n hn=> ?_)
 ·simp only[YdK]
  rw[cF _ _ (by omega),YDO]
 ·have ha:=s.h3 _ (YbV (d:=zA) hn)
  have h2:=s.h2
  have hk:((at'.take n).map xAt).length<=8:=by simp only[YDM,List.length_take];omega
  have hs:=Ygd ha.2.2 ha.1 ha.2.1
  have hz:(at'.getD n (YEy #[],[])).1.size<=1048576:=ha.2.1
  have hm:((at'.getD n zA).2.map xTm).length<=maxEl:=by simp only[YDM,maxEl];omega
  simp only[YdK,YEt]
  rw[cT _ _ (by omega),chkT _ (by omega),YyY at' _ _ _ hd at' _ _ _ ha.1 ha.2.2,Yy8]
  dsimp only
  rw[chkT _ (by rw[c1];exact YEc (by omega)),show YEy #[44,32]=SEP from rfl,YCg _ hm (by omega),Yy8,
   chkT _ (by simp only[ByteArray.size_append,c1];exact YEc (by omega)),chkT _ (by simp only[ByteArray.size_append,c1,c2];exact YEc (by omega)),
   chkT _ (by simp only[YDG,YDS,maxEl];omega),w1 (by omega),YcD (d:=zA) hn,YDZ,YDC,YDD]
  rfl
def xQu(hd:List ByteArray)(at':List Atom):ByteArray:=(((YEy #[40]++jn hd)++YEy #[41,32,58,32])++jn (at'.map xAt))
theorem c4:(YEy #[41,32,58,32]).size=4:=rfl
theorem tFmt(hd:List ByteArray)(at':List Atom)(s:Sm hd at')(hw:q77 loO hd at'=some true):q92 loO hd at'=some (xQu hd at',0):=by
 have h1:=s.h1
 have h2:=s.h2
 have hh:(jn hd).size<=10485780:=by have:=s.hj hd.length;rwa[YDO,List.map_id']at this
 have ha:(jn (at'.map xAt)).size<=1350568480:=by have:=s.aj at'.length;rwa[YDO]at this
 unfold q92
 rw[hw,Yy8,Bool.not_true,cond_false,YyZ hd at' s,Yy8]
 dsimp only
 rw[show YEy #[44,32]=SEP from rfl,YCg hd (by simp only[maxEl];omega) (by omega),Yy8,chkT _ (by rw[c1];exact YEc (by omega)),
  chkT _ (by simp only[ByteArray.size_append,c1,c4];exact YEc (by omega)),YCg _ (by simp only[YDM,maxEl];omega) (by omega),Yy8,
  chkT _ (by simp only[ByteArray.size_append,c1,c4];exact YEc (by omega))]
 rfl
end
end Go.Abs.G47
namespace Go.Abs.G47
open Go Go.Abs
noncomputable section
set_option maxRecDepth 100000
theorem Yy0(hd:List ByteArray)(at':List Atom)(s:Sm hd at'):YfU loO (YEy #[40],(0:Int),hd,at')=some (YEy #[40]++jn hd,hd,at'):=by
 have h1:=s.h1
 refine Ya6 (st:=fun n=>(YEy #[40]++jn ((hd.take n).map fun x=>x),(n:Int),hd,at')) (N:=hd.length) rfl ?_ (fun n hn=> ?_)
 ·simp only[YdT]
  rw[cF _ _ (by omega),YDO,List.map_id']
 ·have hj:=s.hj n
  have hx:(hd.getD n (YEy #[])).size<=1048576:=s.h4 _ (YbV (d:=nul0) hn)
  simp only[YdT,YEt]
  rw[Yga (YEy #[40]) hd (fun x=>x) nul0 n hn,cT _ _ (by omega),show YEy #[44,32]=SEP from rfl,w1 (by omega),chkT _ (by simp only[ByteArray.size_append,c1,c3];exact YEc (by omega)),chkT _ (by omega),
   chkT _ (by simp only[ByteArray.size_append,c1,c3];exact YEc (by omega)),chkT _ (by omega),chkT _ (by simp only[ByteArray.size_append,c1];exact YEc (by omega))]
  cases decide ((0:Int)< (n:Int))<;>rfl
theorem Yy1(p:ByteArray)(i:Nat)(hd:List ByteArray)(at':List Atom)(s:Sm hd at')(hi:i<at'.length)(hp:p.size<=4000000000):
  YfV loO (p,(i:Int),(0:Int),hd,at')=some (p++jn ((at'.getD i zA).2.map xTm),(i:Int),hd,at'):=by
 have ha:=s.h3 _ (YbV (d:=zA) hi)
 have e0:p++jn []=p:=by
  have:jn []=ByteArray.empty:=rfl
  rw[this,ByteArray.append_empty]
 refine Ya6 (st:=fun n=>(p++jn (((at'.getD i zA).2.take n).map xTm),(i:Int),(n:Int),hd,at')) (N:=(at'.getD i zA).2.length) (by rw[List.take_zero,YDD,e0];rfl) ?_ (fun n hn=> ?_)
 ·simp only[YdU,YEt]
  rw[chkT _ (by omega),cF _ _ (Int.lt_irrefl _),YDO]
 ·have hj:(jn (((at'.getD i zA).2.take n).map xTm)).size<=167772480:=YD9 (Ygb 1048576 _ xTm (fun t ht=>Ygc (ha.2.2 t ht)) n) (YEb _ ha.1)
  have ht:=ha.2.2 _ (YbV (d:=zM) hn)
  have hx:=Ygc ht
  have hl:=ha.1
  have hn':n< (at'.getD i (YEy #[],[])).2.length:=hn
  have hr:=YDw _ ht
  simp only[YdU,YEt]
  rw[Yga p _ xTm zM n hn,chkT _ (by omega),cT _ _ (by omega),show YEy #[44,32]=SEP from rfl,w1 (by omega),chkT _ (by simp only[ByteArray.size_append,c3];exact YEc (by omega)),chkT _ (by omega),chkT _ (by omega),
   chkT _ (by omega),chkT _ (by omega),hr,Yy8,Yy8,chkT _ (by simp only[ByteArray.size_append,c3];exact YEc (by omega)),chkT _ (by simp only[ByteArray.size_append];exact YEc (by omega))]
  cases decide ((0:Int)< (n:Int))<;>rfl
theorem Yns(p:ByteArray)(i:Nat)(hd:List ByteArray)(at':List Atom)(s:Sm hd at')(hi:i<at'.length)(hp:p.size<=3000000000):
  YcB loO (p,(i:Int),hd,at')=some (p++xAt (at'.getD i zA),(i:Int),hd,at'):=by
 have ha:=s.h3 _ (YbV (d:=zA) hi)
 have hz:(at'.getD i (YEy #[],[])).1.size<=1048576:=ha.2.1
 have hs:=Ygd ha.2.2 ha.1 ha.2.1
 simp only[YcB,YEt]
 rw[chkT _ (by omega),chkT _ (YEc (by omega)),chkT _ (by simp only[ByteArray.size_append,c1];exact YEc (by omega)),
  Yy1 _ i hd at' s hi (by simp only[ByteArray.size_append,c1];omega),Yy8]
 dsimp only
 rw[chkT _ (by simp only[ByteArray.size_append,c1,c2];exact YEc (by omega))]
 unfold xAt
 simp only[ByteArray.append_assoc]
theorem Yy2(p:ByteArray)(hd:List ByteArray)(at':List Atom)(s:Sm hd at')(hp:p.size<=100000000):YfW loO (p,(0:Int),hd,at')=some (p++jn (at'.map xAt)):=by
 have h2:=s.h2
 have e0:p++jn []=p:=by
  have:jn []=ByteArray.empty:=rfl
  rw[this,ByteArray.append_empty]
 refine Ya6 (st:=fun n=>(p++jn ((at'.take n).map xAt),(n:Int),hd,at')) (N:=at'.length) (by rw[List.take_zero,YDD,e0];rfl) ?_ (fun n hn=> ?_)
 ·simp only[YdV]
  rw[cF _ _ (by omega),YDO]
 ·have hj:=s.aj n
  simp only[YdV]
  rw[Yga p _ xAt zA n hn,cT _ _ (by omega),show YEy #[44,32]=SEP from rfl,chkT _ (by simp only[ByteArray.size_append,c3];exact YEc (by omega)),
   Yns _ n hd at' s hn (by simp only[ByteArray.size_append,c3];omega),Yns _ n hd at' s hn (by simp only[ByteArray.size_append];omega),Yy8,Yy8]
  dsimp only
  rw[w1 (by omega)]
  cases decide ((0:Int)< (n:Int))<;>rfl
theorem rFmt(hd:List ByteArray)(at':List Atom)(s:Sm hd at')(hw:q135 loO hd at'=some true):q154 loO hd at'=some (xQu hd at',0):=by
 have hh:(jn hd).size<=10485780:=by have:=s.hj hd.length;rwa[YDO,List.map_id']at this
 unfold q154
 rw[hw,Yy8,Bool.not_true,cond_false,Yy0 hd at' s,Yy8]
 dsimp only
 rw[chkT _ (by simp only[ByteArray.size_append,c1,c4];exact YEc (by omega)),Yy2 _ hd at' s (by simp only[ByteArray.size_append,c1,c4];omega)]
 rfl
theorem Yy3(hd:List ByteArray)(at':List Atom)(h3: ∀a∈at',a.1.size<=1048576/\ ∀t∈a.2,RT t)(h4: ∀x∈hd,x.size<=1048576):q155 loO hd at'=some true:=by
 unfold q155
 rw[aw,Yy8,Bool.not_true,cond_false]
 obtain⟨b,e,hb⟩:=YyI hd at'
 rw[e,Yy8]
 cases b with
 |false=>rfl
 |true=>
  obtain⟨k1,k2,k3⟩:=hb rfl
  have s:Sm hd at':=⟨k1,k2,fun a ha=>⟨by
   have:a.2.length<=sumT at':=YdY (f:=fun a:Atom=>a.2.length) ha
   omega,h3 a ha⟩,h4⟩
  have w1:=tWf hd at' (by simp only[maxEl];omega) (by simp only[maxEl];omega)
  have w2:=rWf hd at' (by simp only[maxEl];omega) (by simp only[maxEl];omega)
  cases hw:wfB hd at' with
  |false=>
   rw[hw]at w1 w2
   have t1:q92 loO hd at'=some (YEy #[],1):=by unfold q92;rw[w1];rfl
   have t2:q154 loO hd at'=some (YEy #[],1):=by unfold q154;rw[w2];rfl
   rw[t1,t2];rfl
  |true=>
   rw[hw]at w1 w2
   rw[tFmt hd at' s w1,rFmt hd at' s w2,Yy8,Bool.not_true,cond_false,Yy8,Yy8,cT _ _ rfl]
   rfl
theorem YDx{n:Int}(h:(Ty.i .i64).rng n): -9223372036854775808<=n/\n<=9223372036854775807:=by
 have h':(Lit.int IntKind.i64 n).wf=true:=h
 have e1:IntKind.min .i64= -9223372036854775808:=by decide
 have e2:IntKind.max .i64=9223372036854775807:=by decide
 simp only[Lit.wf,YEp,decide_eq_true_eq,e1,e2]at h'
 exact h'
theorem form_fin(x:List ByteArray×List Atom)(hr:(cs [.l (cs [.s]),.l (cs [.s,.l (cs [.s,I,I,.s])])]).rng x)(hz:(cs [.l (cs [.s]),.l (cs [.s,.l (cs [.s,I,I,.s])])]).sz x<=1048576):q155 loO x.1 x.2=some true:=by
 have z0:(x.1.map fun s:ByteArray=>(s.size+1)+0).sum+1+((x.2.map fun a:Atom=>(a.1.size+1)+(((a.2.map fun t:Term=>(t.1.size+1)+(1+(1+((t.2.2.2.size+1)+0)))).sum+1)+0)).sum+1+0)<=1048576:=hz
 refine Yy3 x.1 x.2 (fun a ha=> ?_) (fun s hs=> ?_)
 ·have z1:=YdY (f:=fun a:Atom=>(a.1.size+1)+(((a.2.map fun t:Term=>(t.1.size+1)+(1+(1+((t.2.2.2.size+1)+0)))).sum+1)+0)) ha
  refine⟨by omega,fun t ht=> ?_⟩
  have z2:=YdY (f:=fun t:Term=>(t.1.size+1)+(1+(1+((t.2.2.2.size+1)+0)))) ht
  have r1:(cs [.s,.l (cs [.s,I,I,.s])]).rng a:=hr.2.1 a ha
  have r2:(cs [.s,I,I,.s]).rng t:=r1.2.1 t ht
  exact⟨YDx r2.2.2.1,by omega⟩
 ·have z1:=YdY (f:=fun s:ByteArray=>(s.size+1)+0) hs
  omega
end
end Go.Abs.G47
