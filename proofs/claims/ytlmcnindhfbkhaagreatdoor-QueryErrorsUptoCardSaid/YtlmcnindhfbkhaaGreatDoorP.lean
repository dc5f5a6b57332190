/- Helpers of the plain laws: loops as states by number, tables, short words. No condition. -/
import Derived.Test.YtlmcnindhfbkhaaGreatDoorB
import Derived.Test.YtlmcnindhfbkhaaGreatDoorG1
set_option linter.unusedVariables false
set_option linter.unusedSimpArgs false
set_option linter.unusedSectionVars false
open List renaming getElem?_eq_some_iff → YDK, mem_of_getElem? → YDL, getElem?_map → YDM, getElem?_eq_getElem → YDN, map_cons → YDO, getElem?_append_left → YDP, map_nil → YDQ, getElem?_set_ne → YDR, getElem?_append_right → YDS, getElem?_set_self → YDT, mem_cons → YDU, length_eq_zero_iff → YDV, mem_cons_self → YDW, getElem?_take → YDX, mem_iff_getElem? → YDY, all_eq_true → YDZ, getElem?_drop → YD0, getElem?_eq_none → YD1, length_cons → YD2, mem_cons_of_mem → YD3, mem_singleton → YD4, mem_map → YD5, length_map → YD6, getElem?_range → YD7, append_assoc → YD8, cons_append → YD9, take_length → YEa, map_map → YEb, mem_filter → YEc, getElem?_replicate → YEd, ext_getElem? → YEe, nil_append → YEf, drop_zero → YEg, foldl_cons → YEh, mem_append → YEi, mem_iff_getElem → YEj, getElem?_cons_succ → YEk, length_nil → YEl, append_nil → YEm, getD_eq_getElem?_getD → YEn, getElem_mem → YEo, mem_append_left → YEp, getElem?_eq_none_iff → YEq
namespace Go.Abs
theorem wr6{n:Int}(h0: -9223372036854775808<=n)(h1:n<9223372036854775808):IntKind.wrap .i64 n=n:=by
 have e:(2:Int)^IntKind.bits .i64=18446744073709551616:=rfl
 have e':(2:Int)^(IntKind.bits .i64-1)=9223372036854775808:=rfl
 have s:IntKind.signed .i64=true:=rfl
 simp only[IntKind.wrap,e,e',s,Bool.true_and,ge_iff_le,decide_eq_true_eq]
 split<;>omega
theorem chkT{β:Type}{p:Prop}[Decidable p](x:Option β)(h:p):chk p x=x:=by simp[chk,h]
theorem Yzo{α β:Type}(a:α)(f:α->Option β):Option.bind (some a) f=f a:=rfl
theorem Ync{S R:Type}{step:S->Option (S⊕R)}(st:Nat->S)(N:Nat)(r:R)(he:step (st N)=some (.inr r))(hs: ∀n,n<N->step (st n)=some (.inl (st (n+1)))): ∀k n,n+k=N->YzY step (st n)=some r
 |0,n,h=>by rw[Ycn];simp only[Nat.add_zero]at h;subst h;rw[he]
 |k+1,n,h=>by rw[Ycn,hs n (by omega)];exact Ync st N r he hs k (n+1) (by omega)
theorem Ynd{S R:Type}{step:S->Option (S⊕R)}{st:Nat->S}{N:Nat}{r:R}{s:S}(hst:s=st 0)(he:step (st N)=some (.inr r))(hs: ∀n,n<N->step (st n)=some (.inl (st (n+1)))):YzY step s=some r:=by
 subst hst;exact Ync st N r he hs N 0 (by omega)
def bl(s:ByteArray):List UInt8:=s.data.toList
end Go.Abs
namespace Go.Abs.G47
open Go Go.Abs
set_option maxRecDepth 100000
abbrev Vals:=List (Int×Int×ByteArray)
abbrev Rws:=List (Int×Vals)
abbrev Tabl:=ByteArray×List ByteArray×Rws
abbrev Term:=ByteArray×Int×Int×ByteArray
abbrev Atom:=ByteArray×List Term
theorem YyW{clk:Int}{ents:List (Int×ByteArray×Vals)}{m2:Bool}
  {y} (hd:(ents.map (·.1)).Nodup) (hl:ents.length<=maxEl)
  (hy:YbO loO (ents.map (·.2.1),clk,clk,[],false,clk,ents,m2)=some y):
  YdD loO ([],clk,ents,m2)=some y:=by
 show rngF YdC (Ycs loO) (YbO loO) ([],clk,clk,[],false,clk,ents,m2)=some y
 refine YqK (YyR (p:=YdC) (t:=Ycs loO) (r:=YbO loO) (fun sn=>(sn.map (kAt (ByteArray.mk #[]) ents),clk,clk,sn,false,clk,ents,m2)) (B:=ents.map (·.1)) (c:=clk) hd (fun sn=>rfl) (fun sn b hb hn hsd hsB=> ?_) (fun sn hp=> ?_))
 ·obtain⟨e,he⟩:=YyU hb
  have hlen:sn.length<ents.length:=by
   have h1:(sn++[b]).Nodup:=by
    rw[List.nodup_append]
    exact⟨hsd,by simp,fun x hx y hy=>by rw[YD4]at hy;subst hy;intro e;subst e;exact hn hx⟩
   have:=List.Nodup.length_le_of_subset h1 (l₂:=ents.map (·.1)) (fun a ha=>by
    rcases YEi.1 ha with ha|ha
    ·exact hsB a ha
    ·rw[YD4]at ha;subst ha;exact hb)
   simp at this;omega
  simp only[Ycs,addI,List.getLast?_append,List.getLast?_singleton,Option.some_or,Option.bind_some,he,chk,decide_true,cond_true,YD6,List.length_singleton]
  have:decide (sn.length+1<=maxEl)=true:=by simp;omega
  simp only[this,cond_true,List.map_append,YDO,YDQ,kAt,he]
 ·have hperm:(sn.map (kAt (ByteArray.mk #[]) ents)).Perm (ents.map (·.2.1)):=by
   rw[<-YyV (d:=ByteArray.mk #[]) hd];exact hp.map _
  rw[<-hy]
  show Option.bind (q65 loO (sn.map (kAt (ByteArray.mk #[]) ents))) _=Option.bind (q65 loO (ents.map (·.2.1))) _
  have e1:q65 loO (sn.map (kAt (ByteArray.mk #[]) ents))=q65 loO (ents.map (·.2.1)):=YyT hperm
  rw[e1]
  have e2:=hperm.length_eq
  congr 1
  funext y152
  rw[e2]
def nodB:List Int->Bool
 | []=>true
 |a::r=> !(r.any fun b=>decide (b=a))&&nodB r
theorem Yne: ∀{l:List Int},nodB l=true->l.Nodup
 | [],_=>List.nodup_nil
 |a::r,h=>by
  simp only[nodB,Bool.and_eq_true,Bool.not_eq_true',List.any_eq_false,decide_eq_true_eq]at h
  exact List.nodup_cons.2 ⟨fun hm=>h.1 a hm rfl,Yne h.2⟩
def j18C(lo:Lo):(List ByteArray×Int×List (Int×ByteArray×Vals)×Bool)->Option (List Vals×Int):=fun x=>match x with
 | (keys,clk,ents,m2)=>bif keys.isEmpty&& (nodB (ents.map (·.1))&&Nat.ble ents.length maxEl)then YbO lo (ents.map (·.2.1),clk,clk,[],false,clk,ents,m2)else none
theorem YyX{x y}(h:j18C loO x=some y):YdD loO x=some y:=by
 obtain⟨keys,clk,ents,m2⟩:=x
 unfold j18C at h
 obtain⟨e,hk⟩:=Yab h
 simp only[Bool.and_eq_true,List.isEmpty_iff]at e
 obtain⟨rfl,e1,e2⟩:=e
 exact YyW (Yne e1) (by simpa using e2) hk
def YB2(lo:Lo)(db:List Tabl)(q0:List ByteArray)(q1:List Atom):Option (List Vals×Int):=
 Option.bind (q40 lo db q0 q1) fun y105=>bif(!decide (y105=(0:Int)))then(some ([],y105))else(Option.bind (q41 lo db q0 q1) fun y108=>Option.bind (q50 lo (0:Int) y108.1 y108.2.1 y108.2.2.1 y108.2.2.2.1 y108.2.2.2.2.1 y108.2.2.2.2.2.1 y108.2.2.2.2.2.2.1 y108.2.2.2.2.2.2.2 (0:Int) [] false) fun y163=>chk (y163.2.2.2.1.length=y108.2.2.1.length) (bif(!y163.1)then(some ([],(3:Int)))else(Option.bind (j18C lo ([],y163.2.2.2.2.2.2.2.2.1,y163.2.2.2.2.2.2.2.2.2.1,y163.2.2.2.2.2.2.2.2.2.2.1)) fun y228=>some (y228.1,y228.2))))
theorem Yf1{α β:Type}{a:Option α}{f g:α->Option β}{y:β}(h: ∀z,f z=some y->g z=some y):Option.bind a f=some y->Option.bind a g=some y:=by
 cases a with
 |none=>intro h;cases h
 |some z=>exact h z
theorem Ynf{β:Type}{b:Bool}{x x' z:Option β}{y:β}(h:x=some y->x'=some y):(bif b then z else x)=some y->(bif b then z else x')=some y:=by
 cases b with
 |true=>exact id
 |false=>exact h
theorem YyY{β:Type}{p:Prop}[Decidable p]{x x':Option β}{y:β}(h:x=some y->x'=some y):chk p x=some y->chk p x'=some y:=by
 unfold chk
 cases decide p with
 |true=>exact h
 |false=>exact id
theorem YyZ{db q0 q1 y}:YB2 loO db q0 q1=some y->q66 loO db q0 q1=some y:=by
 unfold YB2 q66
 refine Yf1 fun _=>Ynf (Yf1 fun _=>Yf1 fun z=>YyY (Ynf ?_))
 intro h
 cases hj:j18C loO ([],z.2.2.2.2.2.2.2.2.1,z.2.2.2.2.2.2.2.2.2.1,z.2.2.2.2.2.2.2.2.2.2.1)with
 |none=>rw[hj]at h;cases h
 |some q=>rw[hj]at h;rw[YyX hj];exact h
noncomputable def R2:Int×Vals:=(q1 (loM 400) 1 [1,2]).getD (0,[])
noncomputable def R3:Int×Vals:=(q1 (loM 400) 2 [1,3]).getD (0,[])
noncomputable def R4:Int×Vals:=(q1 (loM 400) 3 [2,3]).getD (0,[])
noncomputable def R5:Int×Vals:=(q1 (loM 400) 1 [3]).getD (0,[])
noncomputable def T6:Term:=(q2 (loM 400) (ByteArray.mk #[120])).getD (ByteArray.mk #[],0,0,ByteArray.mk #[])
noncomputable def T7:Term:=(q2 (loM 400) (ByteArray.mk #[121])).getD (ByteArray.mk #[],0,0,ByteArray.mk #[])
noncomputable def EA:List Vals×Int:=(YB2 (loM 400) [((ByteArray.mk #[114]),[(ByteArray.mk #[97]),(ByteArray.mk #[98])],[R2,R3,R4]),((ByteArray.mk #[115]),[(ByteArray.mk #[99])],[R5])] ([(ByteArray.mk #[120])]) ([((ByteArray.mk #[114]),[T6,T7]),((ByteArray.mk #[115]),[T7])])).getD ([],0)
theorem aw:q99 loO=some true:=by
 have e2:q1 loO 1 [1,2]=some R2:=(congrArg (fun l=>q1 l 1 [1,2]) (Ybd 400)).symm.trans (by kernel_rfl)
 have e3:q1 loO 2 [1,3]=some R3:=(congrArg (fun l=>q1 l 2 [1,3]) (Ybd 400)).symm.trans (by kernel_rfl)
 have e4:q1 loO 3 [2,3]=some R4:=(congrArg (fun l=>q1 l 3 [2,3]) (Ybd 400)).symm.trans (by kernel_rfl)
 have e5:q1 loO 1 [3]=some R5:=(congrArg (fun l=>q1 l 1 [3]) (Ybd 400)).symm.trans (by kernel_rfl)
 have e6:q2 loO (ByteArray.mk #[120])=some T6:=(congrArg (fun l=>q2 l (ByteArray.mk #[120])) (Ybd 400)).symm.trans (by kernel_rfl)
 have e7:q2 loO (ByteArray.mk #[121])=some T7:=(congrArg (fun l=>q2 l (ByteArray.mk #[121])) (Ybd 400)).symm.trans (by kernel_rfl)
 have eA:q66 loO [((ByteArray.mk #[114]),[(ByteArray.mk #[97]),(ByteArray.mk #[98])],[R2,R3,R4]),((ByteArray.mk #[115]),[(ByteArray.mk #[99])],[R5])] ([(ByteArray.mk #[120])]) ([((ByteArray.mk #[114]),[T6,T7]),((ByteArray.mk #[115]),[T7])])=some EA:=
  YyZ ((congrArg (fun l=>YB2 l [((ByteArray.mk #[114]),[(ByteArray.mk #[97]),(ByteArray.mk #[98])],[R2,R3,R4]),((ByteArray.mk #[115]),[(ByteArray.mk #[99])],[R5])] ([(ByteArray.mk #[120])]) ([((ByteArray.mk #[114]),[T6,T7]),((ByteArray.mk #[115]),[T7])])) (Ybd 400)).symm.trans (by kernel_rfl))
 unfold q99
 rw[e2,Yzo,e3,Yzo,e4,Yzo,e5,Yzo,e6,Yzo,e7,Yzo,Yzo,eA,Yzo,<-Ybd 400]
 show(_:Option Bool)=some true
 kernel_rfl
end Go.Abs.G47
namespace Go.Abs
def Yzp{R:Type}(f:Nat->Option R):Nat->Nat->R->R
 |0,_,r0=>r0
 |k+1,n,r0=>match f n with
  |some r=>r
  |none=>Yzp f k (n+1) r0
theorem Yng{R:Type}{f g:Nat->Option R}{r0:R}: ∀(k n:Nat),(∀m,n<=m->m<n+k->f m=g m)->Yzp f k n r0=Yzp g k n r0
 |0,n,h=>rfl
 |k+1,n,h=>by
  simp only[Yzp]
  rw[h n (Nat.le_refl _) (by omega),Yng k (n+1) (fun m h1 h2=>h m (by omega) (by omega))]
theorem Yaj{S R:Type}{step:S->Option (S⊕R)}(st:Nat->S)(f:Nat->Option R)(N:Nat)(r0:R){s:S}(hst:s=st 0)(he:step (st N)=some (.inr r0))
  (hs: ∀n,n<N->step (st n)=some (match f n with|some r=>.inr r|none=>.inl (st (n+1)))):YzY step s=some (Yzp f N 0 r0):=by
 subst hst
 have: ∀k n,n+k=N->YzY step (st n)=some (Yzp f k n r0):=by
  intro k
  induction k with
  |zero=>intro n h;rw[Ycn];simp only[Nat.add_zero]at h;subst h;rw[he];rfl
  |succ k ih=>
   intro n h
   rw[Ycn,hs n (by omega)]
   simp only[Yzp]
   cases f n with
   |some r=>rfl
   |none=>exact ih (n+1) (by omega)
 exact this N 0 (by omega)
def anyN(p:Nat->Bool):Nat->Nat->Bool
 |0,_=>false
 |k+1,n=>p n||anyN p k (n+1)
def idxR(p:Nat->Bool)(k n:Nat):Int:=match Yzp (R:=Int⊕Unit) (fun m=>bif p m then some (.inl (m:Int))else none) k n (.inr ())with
 | .inl i=>i
 | .inr _=> -1
theorem YdT(p:Nat->Bool): ∀k n,decide (0<=idxR p k n)=anyN p k n
 |0,n=>rfl
 |k+1,n=>by
  have:=YdT p k (n+1)
  unfold idxR at this⊢
  simp only[Yzp,anyN]
  by_cases hp:p n=true
  ·simp[hp]
  ·simp only[Bool.not_eq_true]at hp;simpa[hp]using this
theorem Yf2{p:Nat->Bool}{b:Bool}: ∀k n,(match Yzp (R:=Bool⊕Unit) (fun m=>bif p m then some (.inl b)else none) k n (.inr ())with| .inl x=>x| .inr _=> !b)=(bif anyN p k n then b else !b)
 |0,n=>rfl
 |k+1,n=>by
  simp only[Yzp,anyN]
  cases p n with
  |true=>rfl
  |false=>simpa using Yf2 (p:=p) (b:=b) k (n+1)
theorem Yct{R:Type}{f:Nat->Option R}{r0:R}: ∀(k n:Nat),(∃m r,n<=m/\m<n+k/\f m=some r/\Yzp f k n r0=r)\/(Yzp f k n r0=r0/\ ∀m,n<=m->m<n+k->f m=none)
 |0,n=>.inr ⟨rfl,fun m h1 h2=>by omega⟩
 |k+1,n=>by
  simp only[Yzp]
  cases hf:f n with
  |some r=>exact .inl ⟨n,r,Nat.le_refl _,by omega,hf,rfl⟩
  |none=>
   rcases Yct (f:=f) (r0:=r0) k (n+1)with⟨m,r,h1,h2,h3,h4⟩| ⟨h1,h2⟩
   ·exact .inl ⟨m,r,by omega,by omega,h3,h4⟩
   ·refine .inr ⟨h1,fun m g1 g2=> ?_⟩
    by_cases e:m=n
    ·subst e;exact hf
    ·exact h2 m (by omega) (by omega)
theorem Ynh{α:Type}{l:List α}{n:Nat}{d:α}(h:n<l.length):l.getD n d∈l:=by
 rw[YEn,YDN h];exact YEo h
theorem Yf3{p:Nat->Bool}: ∀{k n:Nat},anyN p k n=true↔ ∃m,n<=m/\m<n+k/\p m=true
 |0,n=>⟨fun h=>(by cases h),fun⟨m,h1,h2,_⟩=>(by omega)⟩
 |k+1,n=>by
  simp only[anyN,Bool.or_eq_true,Yf3 (k:=k) (n:=n+1)]
  constructor
  ·rintro(h| ⟨m,h1,h2,h3⟩)
   ·exact⟨n,Nat.le_refl _,by omega,h⟩
   ·exact⟨m,by omega,by omega,h3⟩
  ·rintro⟨m,h1,h2,h3⟩
   by_cases e:m=n
   ·subst e;exact .inl h3
   ·exact .inr ⟨m,by omega,by omega,h3⟩
theorem Yf4{R:Type}{p:Nat->Bool}(hit:Nat->R)(r0:R)(T:R->Bool)(h0:T r0=false)(h1: ∀m,T (hit m)=true): ∀k n,T (Yzp (fun m=>bif p m then some (hit m)else none) k n r0)=anyN p k n
 |0,n=>h0
 |k+1,n=>by
  simp only[Yzp,anyN]
  cases hp:p n with
  |true=>simp[h1]
  |false=>simpa using Yf4 hit r0 T h0 h1 k (n+1)
theorem Yf5{p:Nat->Bool}(b:Bool)(k n:Nat):Yzp (R:=Bool⊕Unit) (fun m=>bif p m then some (.inl b)else none) k n (.inr ())=bif anyN p k n then .inl b else .inr ():=by
 induction k generalizing n with
 |zero=>rfl
 |succ k ih=>
  simp only[Yzp,anyN]
  cases p n with
  |true=>rfl
  |false=>simpa using ih (n+1)
theorem Yni{α:Type}{l:List α}{n:Nat}{d:α}(h:n<l.length):l.take (n+1)=l.take n++[l.getD n d]:=by
 rw[<-List.take_append_getElem h,YEn,YDN h];rfl
end Go.Abs
namespace Go.Abs.G47
open Go Go.Abs
noncomputable section
def lt(c:Int):Bool:=decide (97<=c)&&decide (c<=122)||decide (65<=c)&&decide (c<=90)||decide (c=95)
theorem Ycu(c:Int):q102 loO c=some (lt c):=by
 unfold q102 lt
 by_cases h1:(97:Int)<=c<;>by_cases h2:c<=(122:Int)<;>by_cases h3:(65:Int)<=c<;>by_cases h4:c<=(90:Int)<;>simp[h1,h2,h3,h4]
def fN(s:ByteArray)(n:Nat):Option (Bool⊕Unit):=
 bif lt (Yzn s n)then none else bif decide (n=0)then some (.inl false)else bif decide (Yzn s n<48)then some (.inl false)else bif decide ((57:Int)<Yzn s n)then some (.inl false)else none
theorem Yy0(s:ByteArray)(hs:s.size<=24):Yff loO (s,(s.size:Int),0)=some (Yzp (fN s) s.size 0 (.inr ())):=by
 refine Yaj (fun n=>(s,(s.size:Int),(n:Int))) (fN s) s.size (.inr ()) rfl ?_ (fun n hn=> ?_)
 ·simp[Ydo]
 ·have e1:decide ((n:Int)< (s.size:Int))=true:=by simp;omega
  have e2:IntKind.wrap .i64 ((n:Int)+1)=((n+1:Nat):Int):=by rw[wr6 (by omega) (by omega)];omega
  simp only[Ydo,e1,cond_true,e2]
  rw[chkT _ (by omega)]
  unfold fN lt
  have e3:decide ((n:Int)=0)=decide (n=0):=by simp
  simp only[e3]
  generalize Yzn s n=c
  by_cases h1:(97:Int)<=c<;>by_cases h2:c<=(122:Int)<;>by_cases h3:(65:Int)<=c<;>by_cases h4:c<=(90:Int)<;>by_cases h5:c=95<;>by_cases h6:n=0<;>by_cases h7:c<48<;>by_cases h8:(57:Int)<c<;>simp[h1,h2,h3,h4,h5,h6,h7,h8]
def nul:ByteArray:=ByteArray.mk #[110,117,108,108]
def YzZ(s:ByteArray):Bool:=
 bif decide (s=ByteArray.mk #[])then false else bif decide ((24:Int)< (s.size:Int))then false else bif decide (s=nul)then false else
  match Yzp (fN s) s.size 0 (.inr ())with| .inl b=>b| .inr _=>true
theorem Ynj(s:ByteArray):q3 loO s=some (YzZ s):=by
 unfold q3 YzZ nul
 by_cases h1:s=ByteArray.mk #[]
 ·simp[h1]
 ·by_cases h2:(24:Int)< (s.size:Int)
  ·simp[h1,h2]
  ·by_cases h3:s=ByteArray.mk #[110,117,108,108]
   ·simp[h1,h2,h3]
   ·simp only[h1,h2,h3,decide_false,cond_false]
    rw[Yy0 s (by omega)]
    simp only[Yzo]
    cases Yzp (fN s) s.size 0 (.inr ())<;>rfl
def fR(s:ByteArray)(n:Nat):Option (Bool⊕Unit):=
 bif lt (Yzn s n)then none else bif decide (Yzn s n<48)then some (.inl false)else bif decide ((57:Int)<Yzn s n)then some (.inl false)else none
theorem Ynk(s:ByteArray)(hs:s.size<=24):YfL loO (s,0)=some (Yzp (fR s) s.size 0 (.inr ())):=by
 refine Yaj (fun n=>(s,(n:Int))) (fR s) s.size (.inr ()) rfl ?_ (fun n hn=> ?_)
 ·simp[YdH]
 ·have e1:decide ((n:Int)< (s.size:Int))=true:=by simp;omega
  have e2:IntKind.wrap .i64 ((n:Int)+1)=((n+1:Nat):Int):=by rw[wr6 (by omega) (by omega)];omega
  simp only[YdH,e1,cond_true,e2,Ycu,Yzo]
  rw[chkT _ (by omega)]
  unfold fR
  generalize Yzn s n=c
  have h0:(0:Int)<=(n:Int)/\ (n:Int)< (s.size:Int):=by omega
  cases lt c<;>by_cases h7:c<48<;>by_cases h8:(57:Int)<c<;>simp[h7,h8,chkT,h0]
theorem YDq(s:ByteArray):s.size=0↔s=ByteArray.mk #[]:=by
 constructor
 ·intro h
  have:s.data= #[]:=Array.eq_empty_of_size_eq_zero h
  cases s;simp_all
 ·intro h;subst h;rfl
theorem YdU(s:ByteArray):q103 loO s=some (YzZ s):=by
 unfold q103 YzZ nul
 by_cases h1:s=ByteArray.mk #[]
 ·subst h1;rfl
 ·have h1':s.size≠0:=fun h=>h1 ((YDq s).1 h)
  by_cases h2:(24:Int)< (s.size:Int)
  ·have: ¬ (s.size:Int)=0:=by omega
   simp[h1,h2,this]
  ·have h0: ¬ (s.size:Int)=0:=by omega
   simp only[h1,h2,h0,decide_false,cond_false,Ycu,Yzo]
   rw[chkT _ (by omega)]
   have hz:Yzn s 0=Yzn s ((0:Nat):Int):=rfl
   have hsz:s.size=(s.size-1)+1:=by omega
   cases hl:lt (Yzn s 0)with
   |false=>
    have:Yzp (fN s) s.size 0 (.inr ())= .inl false:=by
     rw[hsz];simp only[Yzp,fN,<-hz,hl];rfl
    rw[this]
    by_cases h3:s=ByteArray.mk #[110,117,108,108]<;>simp[h3]
   |true=>
    have:Yzp (fN s) s.size 0 (.inr ())=Yzp (fR s) s.size 0 (.inr ()):=Yng _ _ (fun m _ _=>by
     unfold fN fR
     by_cases hm:m=0
     ·subst hm;rw[<-hz,hl];rfl
     ·simp[hm])
    rw[this,Ynk s (by omega)]
    by_cases h3:s=ByteArray.mk #[110,117,108,108]
    ·simp[h3]
    ·simp only[h3,decide_false,cond_false,Bool.not_true,Yzo]
     cases Yzp (fR s) s.size 0 (.inr ())<;>rfl
def idxI(l:List ByteArray)(v:ByteArray):Int:=idxR (fun m=>decide (v=l.getD m (ByteArray.mk #[]))) l.length 0
theorem Yy1(l:List ByteArray)(v:ByteArray)(hl:l.length<=maxEl):q4 loO l v=some (idxI l v):=by
 have hm:maxEl=1073741824:=rfl
 have:Yfg loO (l,v,(l.length:Int),0)=some (Yzp (R:=Int⊕Unit) (fun m=>bif decide (v=l.getD m (ByteArray.mk #[]))then some (.inl (m:Int))else none) l.length 0 (.inr ())):=by
  refine Yaj (fun n=>(l,v,(l.length:Int),(n:Int))) _ l.length (Sum.inr ()) rfl ?_ (fun n hn=> ?_)
  ·simp[Ydp]
  ·have e1:decide ((n:Int)< (l.length:Int))=true:=by simp;omega
   have e2:IntKind.wrap .i64 ((n:Int)+1)=((n+1:Nat):Int):=by rw[wr6 (by omega) (by omega)];omega
   simp only[Ydp,e1,cond_true,e2,Int.toNat_natCast]
   rw[chkT _ (by omega)]
   cases decide (v=l.getD n (ByteArray.mk #[]))<;>rfl
 unfold q4 idxI idxR
 rw[this,Yzo]
 cases Yzp (R:=Int⊕Unit) (fun m=>bif decide (v=l.getD m (ByteArray.mk #[]))then some (.inl (m:Int))else none) l.length 0 (.inr ())<;>rfl
theorem Ynl(l:List ByteArray)(v:ByteArray)(hl:l.length<=maxEl):q5 loO l v=some (decide (0<=idxI l v)):=by
 unfold q5;rw[Yy1 l v hl];rfl
theorem YdV(l:List ByteArray)(v:ByteArray)(hl:l.length<=maxEl):q104 loO l v=some (idxI l v):=by
 have hm:maxEl=1073741824:=rfl
 have:YfM loO (l,v,0)=some (Yzp (R:=Int⊕Unit) (fun m=>bif decide (v=l.getD m (ByteArray.mk #[]))then some (.inl (m:Int))else none) l.length 0 (.inr ())):=by
  refine Yaj (fun n=>(l,v,(n:Int))) _ l.length (Sum.inr ()) rfl ?_ (fun n hn=> ?_)
  ·simp[YdI]
  ·have e1:decide ((n:Int)< (l.length:Int))=true:=by simp;omega
   have e2:IntKind.wrap .i64 ((n:Int)+1)=((n+1:Nat):Int):=by rw[wr6 (by omega) (by omega)];omega
   have e3:decide (l.getD n (ByteArray.mk #[])=v)=decide (v=l.getD n (ByteArray.mk #[])):=by simp only[eq_comm]
   simp only[YdI,e1,cond_true,e2,Int.toNat_natCast,e3]
   rw[chkT _ (by omega)]
   cases decide (v=l.getD n (ByteArray.mk #[]))<;>rfl
 unfold q104 idxI idxR
 rw[this,Yzo]
 cases Yzp (R:=Int⊕Unit) (fun m=>bif decide (v=l.getD m (ByteArray.mk #[]))then some (.inl (m:Int))else none) l.length 0 (.inr ())<;>rfl
def vB(v:Int×Int×ByteArray):Bool:=(q6 loO v.1 v.2.1 v.2.2).getD false
theorem Yf6(a b:Int)(c:ByteArray):q6 loO a b c=some (vB (a,b,c)):=by
 unfold vB q6
 by_cases h0:a=0<;>by_cases h1:a=1<;>by_cases h2:a=2<;>by_cases h3:a=3<;>by_cases h4:b=0<;>by_cases h5:1<=b<;>simp[h0,h1,h2,h3,h4,h5]
theorem Ynm(a b:Int)(c:ByteArray):q106 loO a b c=some (vB (a,b,c)):=Yf6 a b c
abbrev zV:Int×Int×ByteArray:=(0,0,ByteArray.mk #[])
def vsB(l:Vals):Bool:= !anyN (fun m=> !vB (l.getD m zV)) l.length 0
theorem Yy2(l:Vals)(hl:l.length<=maxEl):q10 loO l=some (vsB l):=by
 have hm:maxEl=1073741824:=rfl
 have:Yfh loO (l,(l.length:Int),0)=some (Yzp (R:=Int⊕Unit) (fun m=>bif !vB (l.getD m zV)then some (.inl (m:Int))else none) l.length 0 (.inr ())):=by
  refine Yaj (fun n=>(l,(l.length:Int),(n:Int))) _ l.length (Sum.inr ()) rfl ?_ (fun n hn=> ?_)
  ·simp[Ydq]
  ·have e1:decide ((n:Int)< (l.length:Int))=true:=by simp;omega
   have e2:IntKind.wrap .i64 ((n:Int)+1)=((n+1:Nat):Int):=by rw[wr6 (by omega) (by omega)];omega
   simp only[Ydq,e1,cond_true,e2,Int.toNat_natCast,q7,Yf6,Yzo]
   rw[chkT _ (by omega)]
   cases vB (l.getD n zV)<;>rfl
 have h2:q8 loO l=some (idxR (fun m=> !vB (l.getD m zV)) l.length 0):=by
  unfold q8 idxR
  rw[this,Yzo]
  cases Yzp (R:=Int⊕Unit) (fun m=>bif !vB (l.getD m zV)then some (.inl (m:Int))else none) l.length 0 (.inr ())<;>rfl
 unfold q10 q9 vsB
 rw[h2,Yzo,Yzo,YdT]
theorem Yy3(l:Vals)(hl:l.length<=maxEl):q107 loO l=some (vsB l):=by
 have hm:maxEl=1073741824:=rfl
 have:YfO loO (l,0)=some (Yzp (R:=Bool⊕Unit) (fun m=>bif !vB (l.getD m zV)then some (.inl false)else none) l.length 0 (.inr ())):=by
  refine Yaj (fun n=>(l,(n:Int))) _ l.length (Sum.inr ()) rfl ?_ (fun n hn=> ?_)
  ·simp[YdK]
  ·have e1:decide ((n:Int)< (l.length:Int))=true:=by simp;omega
   have e2:IntKind.wrap .i64 ((n:Int)+1)=((n+1:Nat):Int):=by rw[wr6 (by omega) (by omega)];omega
   simp only[YdK,e1,cond_true,e2,Int.toNat_natCast,Ynm,Yzo]
   rw[chkT _ (by omega)]
   cases vB (l.getD n zV)<;>rfl
 unfold q107 vsB
 rw[this,Yzo]
 have h3:=Yf2 (p:=fun m=> !vB (l.getD m zV)) (b:=false) l.length 0
 cases hs:Yzp (R:=Bool⊕Unit) (fun m=>bif !vB (l.getD m zV)then some (.inl false)else none) l.length 0 (.inr ())with
 |inl b=>rw[hs]at h3;simp only[alt2];rw[show b=_ from h3];cases anyN (fun m=> !vB (l.getD m zV)) l.length 0<;>rfl
 |inr u=>rw[hs]at h3;simp only[alt2];rw[show true=_ from h3];cases anyN (fun m=> !vB (l.getD m zV)) l.length 0<;>rfl
def fA(l:List ByteArray)(n:Nat):Bool:= !YzZ (l.getD n (ByteArray.mk #[]))||decide (0<=idxI (l.take n) (l.getD n (ByteArray.mk #[])))
abbrev zR:Int×Vals:=(0,[])
def YAJ(rows:Rws):Nat->Int
 |0=>0
 |n+1=>(rows.getD n zR).1
def fV(attrs:List ByteArray)(rows:Rws)(n:Nat):Option (Int⊕Unit):=
 bif decide ((rows.getD n zR).1<=YAJ rows n)then some (.inl 1)else bif !decide (((rows.getD n zR).2.length:Int)=(attrs.length:Int))then some (.inl 6)else bif !vsB (rows.getD n zR).2 then some (.inl 1)else none
def YzO(nm:ByteArray)(attrs:List ByteArray)(rows:Rws):Int:=
 bif !YzZ nm then 1 else bif decide ((16:Int)< (attrs.length:Int))then 3 else bif decide ((1000:Int)< (rows.length:Int))then 3 else bif anyN (fA attrs) attrs.length 0 then 1 else
  match Yzp (fV attrs rows) rows.length 0 (.inr ())with| .inl i=>i| .inr _=>0
theorem YDr(nm:ByteArray)(attrs:List ByteArray)(rows:Rws):q11 loO nm attrs rows=some (YzO nm attrs rows):=by
 have hm:maxEl=1073741824:=rfl
 unfold q11 YzO
 rw[Ynj,Yzo]
 cases YzZ nm with
 |false=>rfl
 |true=>
  by_cases h1:(16:Int)< (attrs.length:Int)
  ·simp[h1]
  ·by_cases h2:(1000:Int)< (rows.length:Int)
   ·simp[h1,h2]
   ·simp only[h1,h2,decide_false,cond_false,Bool.not_true]
    have e20:Yfi loO (attrs,(attrs.length:Int),0,nm,attrs,rows)=some (Yzp (R:=Int⊕ (ByteArray×List ByteArray×Rws)) (fun m=>bif fA attrs m then some (.inl 1)else none) attrs.length 0 (.inr (nm,attrs,rows))):=by
     refine Yaj (fun n=>(attrs,(attrs.length:Int),(n:Int),nm,attrs,rows)) _ attrs.length _ rfl ?_ (fun n hn=> ?_)
     ·simp[Ydr]
     ·have e1:decide ((n:Int)< (attrs.length:Int))=true:=by simp;omega
      have e2:IntKind.wrap .i64 ((n:Int)+1)=((n+1:Nat):Int):=by rw[wr6 (by omega) (by omega)];omega
      simp only[Ydr,e1,cond_true,e2,Int.toNat_natCast,Ynj,Yzo,YEg]
      rw[chkT _ (by omega),chkT _ (by omega),Ynl _ _ (by simp;omega),Yzo]
      unfold fA
      cases YzZ (attrs.getD n (ByteArray.mk #[]))<;>cases decide (0<=idxI (attrs.take n) (attrs.getD n (ByteArray.mk #[])))<;>rfl
    rw[e20,Yzo]
    have hsc: ∀k n,Yzp (R:=Int⊕ (ByteArray×List ByteArray×Rws)) (fun m=>bif fA attrs m then some (.inl 1)else none) k n (.inr (nm,attrs,rows))=bif anyN (fA attrs) k n then .inl 1 else .inr (nm,attrs,rows):=by
     intro k
     induction k with
     |zero=>intro n;rfl
     |succ k ih=>intro n;simp only[Yzp,anyN];cases fA attrs n with
      |true=>rfl
      |false=>simpa using ih (n+1)
    rw[hsc]
    cases anyN (fA attrs) attrs.length 0 with
    |true=>rfl
    |false=>
     simp only[cond_false,alt2]
     have e3:Yfj loO (0,rows,(rows.length:Int),0,nm,attrs,rows)=some (Yzp (fV attrs rows) rows.length 0 (.inr ())):=by
      refine Yaj (fun n=>(YAJ rows n,rows,(rows.length:Int),(n:Int),nm,attrs,rows)) _ rows.length _ rfl ?_ (fun n hn=> ?_)
      ·simp[Yds]
      ·have e1:decide ((n:Int)< (rows.length:Int))=true:=by simp;omega
       have e2:IntKind.wrap .i64 ((n:Int)+1)=((n+1:Nat):Int):=by rw[wr6 (by omega) (by omega)];omega
       simp only[Yds,e1,cond_true,e2,Int.toNat_natCast]
       rw[chkT _ (by omega)]
       unfold fV
       by_cases g1:(rows.getD n zR).1<=YAJ rows n
       ·simp only[g1,decide_true,cond_true]
       ·by_cases g2:((rows.getD n zR).2.length:Int)=(attrs.length:Int)
        ·simp only[g1,g2,decide_false,decide_true,cond_false,Bool.not_true]
         rw[Yy2 _ (show(rows.getD n zR).2.length<=maxEl by omega),Yzo]
         cases vsB (rows.getD n zR).2<;>rfl
        ·simp only[g1,g2,decide_false,cond_false,Bool.not_false,cond_true]
     rw[e3,Yzo]
     cases Yzp (fV attrs rows) rows.length 0 (.inr ())<;>rfl
theorem YDs(nm:ByteArray)(attrs:List ByteArray)(rows:Rws):q108 loO nm attrs rows=some (YzO nm attrs rows):=by
 have hm:maxEl=1073741824:=rfl
 unfold q108 YzO
 rw[YdU,Yzo]
 cases YzZ nm with
 |false=>rfl
 |true=>
  by_cases h1:(16:Int)< (attrs.length:Int)
  ·simp[h1]
  ·by_cases h2:(1000:Int)< (rows.length:Int)
   ·simp[h1,h2]
   ·simp only[h1,h2,decide_false,cond_false,Bool.not_true]
    have e20:YfN loO (attrs,0)=some (Yzp (R:=Bool⊕Unit) (fun m=>bif fA attrs m then some (.inl false)else none) attrs.length 0 (.inr ())):=by
     refine Yaj (fun n=>(attrs,(n:Int))) _ attrs.length _ rfl ?_ (fun n hn=> ?_)
     ·simp[YdJ]
     ·have e1:decide ((n:Int)< (attrs.length:Int))=true:=by simp;omega
      have e2:IntKind.wrap .i64 ((n:Int)+1)=((n+1:Nat):Int):=by rw[wr6 (by omega) (by omega)];omega
      simp only[YdJ,e1,cond_true,e2,Int.toNat_natCast,YdU,Yzo,YEg]
      rw[chkT _ (by omega),chkT _ (by omega),chkT _ (by omega),YdV _ _ (by simp;omega),Yzo]
      unfold fA
      cases YzZ (attrs.getD n (ByteArray.mk #[]))<;>cases decide (0<=idxI (attrs.take n) (attrs.getD n (ByteArray.mk #[])))<;>rfl
    have eN:q105 loO attrs=some (!anyN (fA attrs) attrs.length 0):=by
     unfold q105
     rw[e20,Yzo]
     have h3:=Yf2 (p:=fA attrs) (b:=false) attrs.length 0
     cases hs:Yzp (R:=Bool⊕Unit) (fun m=>bif fA attrs m then some (.inl false)else none) attrs.length 0 (.inr ())with
     |inl b=>rw[hs]at h3;simp only[alt2];rw[show b=_ from h3];cases anyN (fA attrs) attrs.length 0<;>rfl
     |inr u=>rw[hs]at h3;simp only[alt2];rw[show true=_ from h3];cases anyN (fA attrs) attrs.length 0<;>rfl
    rw[eN,Yzo]
    cases anyN (fA attrs) attrs.length 0 with
    |true=>rfl
    |false=>
     simp only[cond_false,Bool.not_false,Bool.not_true]
     have e3:YfP loO (0,0,nm,attrs,rows)=some (Yzp (fV attrs rows) rows.length 0 (.inr ())):=by
      refine Yaj (fun n=>(YAJ rows n,(n:Int),nm,attrs,rows)) _ rows.length _ rfl ?_ (fun n hn=> ?_)
      ·simp[YdL]
      ·have e1:decide ((n:Int)< (rows.length:Int))=true:=by simp;omega
       have e2:IntKind.wrap .i64 ((n:Int)+1)=((n+1:Nat):Int):=by rw[wr6 (by omega) (by omega)];omega
       simp only[YdL,e1,cond_true,e2,Int.toNat_natCast]
       rw[chkT _ (by omega)]
       unfold fV
       by_cases g1:(rows.getD n zR).1<=YAJ rows n
       ·simp only[g1,decide_true,cond_true]
       ·by_cases g2:((rows.getD n zR).2.length:Int)=(attrs.length:Int)
        ·simp only[g1,g2,decide_false,decide_true,cond_false,Bool.not_true]
         rw[Yy3 _ (show(rows.getD n zR).2.length<=maxEl by omega),Yzo]
         cases vsB (rows.getD n zR).2<;>rfl
        ·simp only[g1,g2,decide_false,cond_false,Bool.not_false,cond_true]
     rw[e3,Yzo]
     cases Yzp (fV attrs rows) rows.length 0 (.inr ())<;>rfl
end
end Go.Abs.G47
namespace Go.Abs.G47
open Go Go.Abs
noncomputable section
theorem inc{n N:Nat}(h:n<N)(hN:N<=maxEl):IntKind.wrap .i64 ((n:Int)+1)=((n+1:Nat):Int):=by
 have hm:maxEl=1073741824:=rfl
 rw[wr6 (by omega) (by omega)];omega
theorem ltI{n N:Nat}(h:n<N):decide ((n:Int)< (N:Int))=true:=by simp;omega
theorem nlI(N:Nat):decide ((N:Int)< (N:Int))=false:=by simp
abbrev zT:Tabl:=(ByteArray.mk #[],[],[])
abbrev zA:Atom:=(ByteArray.mk #[],[])
abbrev zM:Term:=(ByteArray.mk #[],0,0,ByteArray.mk #[])
abbrev nul0:ByteArray:=ByteArray.mk #[]
def tabP(db:List Tabl)(nm:ByteArray)(n:Nat):Bool:=decide ((db.getD n zT).1=nm)
def tabI(db:List Tabl)(nm:ByteArray):Int:=idxR (tabP db nm) db.length 0
theorem Ynn(db:List Tabl)(nm:ByteArray)(h:db.length<=maxEl):q14 loO db nm=some (tabI db nm):=by
 have:Yfk loO (db,(db.length:Int),0,nm)=some (Yzp (R:=(Int×ByteArray)⊕ByteArray) (fun m=>bif tabP db nm m then some (.inl ((m:Int),nm))else none) db.length 0 (.inr nm)):=by
  refine Yaj (fun n=>(db,(db.length:Int),(n:Int),nm)) _ db.length _ rfl ?_ (fun n hn=> ?_)
  ·simp[Ydt]
  ·simp only[Ydt,ltI hn,cond_true,inc hn h,Int.toNat_natCast,q12,Yzo]
   rw[chkT _ (by omega)]
   unfold tabP
   cases decide ((db.getD n zT).1=nm)<;>rfl
 unfold q14 q13
 rw[this,Yzo]
 unfold tabI idxR
 have key: ∀k n,(match Yzp (R:=(Int×ByteArray)⊕ByteArray) (fun m=>bif tabP db nm m then some (.inl ((m:Int),nm))else none) k n (.inr nm)with| .inl i=>Sum.inl (β:=Unit) i.1| .inr _=>.inr ())=Yzp (R:=Int⊕Unit) (fun m=>bif tabP db nm m then some (.inl (m:Int))else none) k n (.inr ()):=by
  intro k
  induction k with
  |zero=>intro n;rfl
  |succ k ih=>intro n;simp only[Yzp];cases tabP db nm n with
   |true=>rfl
   |false=>simpa using ih (n+1)
 rw[<-key]
 cases Yzp (R:=(Int×ByteArray)⊕ByteArray) (fun m=>bif tabP db nm m then some (.inl ((m:Int),nm))else none) db.length 0 (.inr nm)<;>rfl
theorem rTab(db:List Tabl)(nm:ByteArray)(h:db.length<=maxEl):q109 loO db nm=some (tabI db nm):=by
 have:YfQ loO (db,nm,0)=some (Yzp (R:=Int⊕Unit) (fun m=>bif tabP db nm m then some (.inl (m:Int))else none) db.length 0 (.inr ())):=by
  refine Yaj (fun n=>(db,nm,(n:Int))) _ db.length _ rfl ?_ (fun n hn=> ?_)
  ·simp[YdM]
  ·simp only[YdM,ltI hn,cond_true,inc hn h,Int.toNat_natCast]
   rw[chkT _ (by omega)]
   unfold tabP
   cases decide ((db.getD n zT).1=nm)<;>rfl
 unfold q109 tabI idxR
 rw[this,Yzo]
 cases Yzp (R:=Int⊕Unit) (fun m=>bif tabP db nm m then some (.inl (m:Int))else none) db.length 0 (.inr ())<;>rfl
def tabO(db:List Tabl)(nm:ByteArray):Tabl:=bif decide (0<=tabI db nm)then db.getD (tabI db nm).toNat zT else zT
theorem Yf7{p:Nat->Bool}: ∀{k n:Nat},(∃m,n<=m/\m<n+k/\p m=true/\idxR p k n=(m:Int))\/(idxR p k n= -1/\ ∀m,n<=m->m<n+k->p m=false)
 |0,n=>.inr ⟨rfl,fun m h1 h2=>by omega⟩
 |k+1,n=>by
  cases hp:p n with
  |true=>exact .inl ⟨n,Nat.le_refl _,by omega,hp,by unfold idxR;simp[Yzp,hp]⟩
  |false=>
   have e:idxR p (k+1) n=idxR p k (n+1):=by unfold idxR;simp[Yzp,hp]
   rw[e]
   rcases Yf7 (p:=p) (k:=k) (n:=n+1)with⟨m,h1,h2,h3,h4⟩| ⟨h1,h2⟩
   ·exact .inl ⟨m,by omega,by omega,h3,h4⟩
   ·refine .inr ⟨h1,fun m g1 g2=> ?_⟩
    by_cases e:m=n
    ·subst e;exact hp
    ·exact h2 m (by omega) (by omega)
theorem YDC(db:List Tabl)(nm:ByteArray)(h:db.length<=maxEl):q25 loO db nm=some ((tabO db nm).1,(tabO db nm).2.1,(tabO db nm).2.2,decide (0<=tabI db nm)):=by
 have:Yfm loO (nm,db,(db.length:Int),0,nul0,[],[])=some (Yzp (R:=(Bool×Tabl)⊕Tabl) (fun m=>bif tabP db nm m then some (.inl (true,db.getD m zT))else none) db.length 0 (.inr zT)):=by
  refine Yaj (fun n=>(nm,db,(db.length:Int),(n:Int),nul0,[],[])) _ db.length _ rfl ?_ (fun n hn=> ?_)
  ·simp[Ydv]
  ·simp only[Ydv,ltI hn,cond_true,inc hn h,Int.toNat_natCast]
   rw[chkT _ (by omega)]
   unfold tabP
   cases decide ((db.getD n zT).1=nm)<;>rfl
 unfold q25
 rw[this,Yzo]
 have key: ∀k n,Yzp (R:=(Bool×Tabl)⊕Tabl) (fun m=>bif tabP db nm m then some (.inl (true,db.getD m zT))else none) k n (.inr zT)=bif decide (0<=idxR (tabP db nm) k n)then .inl (true,db.getD (idxR (tabP db nm) k n).toNat zT)else .inr zT:=by
  intro k
  induction k with
  |zero=>intro n;rfl
  |succ k ih=>
   intro n
   cases hp:tabP db nm n with
   |true=>unfold idxR;simp[Yzp,hp]
   |false=>
    have e:idxR (tabP db nm) (k+1) n=idxR (tabP db nm) k (n+1):=by unfold idxR;simp[Yzp,hp]
    rw[e,<-ih (n+1)]
    simp[Yzp,hp]
 rw[key]
 unfold tabO tabI
 cases decide (0<=idxR (tabP db nm) db.length 0)<;>rfl
def fD(db:List Tabl)(n:Nat):Option (Int⊕Unit):=
 bif !decide (YzO (db.getD n zT).1 (db.getD n zT).2.1 (db.getD n zT).2.2=0)then some (.inl (YzO (db.getD n zT).1 (db.getD n zT).2.1 (db.getD n zT).2.2))else bif decide (0<=tabI (db.take n) (db.getD n zT).1)then some (.inl 5)else none
def dbI(db:List Tabl):Int:=bif decide ((50:Int)< (db.length:Int))then 3 else match Yzp (fD db) db.length 0 (.inr ())with| .inl i=>i| .inr _=>0
theorem Yy4(db:List Tabl):q15 loO db=some (dbI db):=by
 have hm:maxEl=1073741824:=rfl
 unfold q15 dbI
 by_cases h:(50:Int)< (db.length:Int)
 ·simp[h]
 ·have hl:db.length<=maxEl:=by omega
  simp only[h,decide_false,cond_false]
  have:Yfl loO (db,(db.length:Int),0,db)=some (Yzp (fD db) db.length 0 (.inr ())):=by
   refine Yaj (fun n=>(db,(db.length:Int),(n:Int),db)) _ db.length _ rfl ?_ (fun n hn=> ?_)
   ·simp[Ydu]
   ·simp only[Ydu,ltI hn,cond_true,inc hn hl,Int.toNat_natCast,YDr,Yzo,YEg]
    rw[chkT _ (by omega),chkT _ (by omega),Ynn _ _ (by simp;omega),Yzo]
    unfold fD
    cases decide (YzO (db.getD n zT).1 (db.getD n zT).2.1 (db.getD n zT).2.2=0)<;>cases decide (0<=tabI (db.take n) (db.getD n zT).1)<;>rfl
  rw[this,Yzo]
  cases Yzp (fD db) db.length 0 (.inr ())<;>rfl
theorem rDb(db:List Tabl):q110 loO db=some (dbI db):=by
 have hm:maxEl=1073741824:=rfl
 unfold q110 dbI
 by_cases h:(50:Int)< (db.length:Int)
 ·simp[h]
 ·have hl:db.length<=maxEl:=by omega
  simp only[h,decide_false,cond_false]
  have:YfR loO (0,db)=some (Yzp (fD db) db.length 0 (.inr ())):=by
   refine Yaj (fun n=>((n:Int),db)) _ db.length _ rfl ?_ (fun n hn=> ?_)
   ·simp[YdN]
   ·simp only[YdN,ltI hn,cond_true,inc hn hl,Int.toNat_natCast,YDs,Yzo,YEg]
    rw[chkT _ (by omega),chkT _ (by omega),chkT _ (by omega),rTab _ _ (by simp;omega),Yzo]
    unfold fD
    cases decide (YzO (db.getD n zT).1 (db.getD n zT).2.1 (db.getD n zT).2.2=0)<;>cases decide (0<=tabI (db.take n) (db.getD n zT).1)<;>rfl
  rw[this,Yzo]
  cases Yzp (fD db) db.length 0 (.inr ())<;>rfl
theorem Yy5(nm:ByteArray)(attrs:List ByteArray)(rows:Rws):YzO nm attrs rows≠4:=by
 unfold YzO
 cases YzZ nm with
 |false=>intro h;cases h
 |true=>
  simp only[Bool.not_true,cond_false]
  cases decide ((16:Int)< (attrs.length:Int))with
  |true=>intro h;cases h
  |false=>
   cases decide ((1000:Int)< (rows.length:Int))with
   |true=>intro h;cases h
   |false=>
    cases anyN (fA attrs) attrs.length 0 with
    |true=>intro h;cases h
    |false=>
     simp only[cond_false]
     rcases Yct (f:=fV attrs rows) (r0:=.inr ()) rows.length 0 with⟨m,r,_,_,h3,h4⟩| ⟨h1,_⟩
     ·rw[h4]
      unfold fV at h3
      revert h3
      cases decide ((rows.getD m zR).1<=YAJ rows m)<;>cases decide (((rows.getD m zR).2.length:Int)=(attrs.length:Int))<;>cases vsB (rows.getD m zR).2<;>intro h3<;>first| (injection h3 with h3;subst h3;intro h;cases h)|cases h3
     ·rw[h1];intro h;cases h
theorem Yy6(db:List Tabl):dbI db≠4:=by
 unfold dbI
 cases decide ((50:Int)< (db.length:Int))with
 |true=>intro h;cases h
 |false=>
  simp only[cond_false]
  rcases Yct (f:=fD db) (r0:=.inr ()) db.length 0 with⟨m,r,_,_,h3,h4⟩| ⟨h1,_⟩
  ·rw[h4]
   unfold fD at h3
   cases hv:decide (YzO (db.getD m zT).1 (db.getD m zT).2.1 (db.getD m zT).2.2=0)with
   |false=>rw[hv]at h3;injection h3 with h3;subst h3;exact Yy5 _ _ _
   |true=>
    rw[hv]at h3
    cases ht:decide (0<=tabI (db.take m) (db.getD m zT).1)with
    |true=>rw[ht]at h3;injection h3 with h3;subst h3;intro h;cases h
    |false=>rw[ht]at h3;cases h3
  ·rw[h1];intro h;cases h
theorem YdW{db:List Tabl}(h:dbI db=0):db.length<=50/\ ∀n,n<db.length->YzO (db.getD n zT).1 (db.getD n zT).2.1 (db.getD n zT).2.2=0:=by
 unfold dbI at h
 by_cases h50:(50:Int)< (db.length:Int)
 ·simp[h50]at h
 ·refine⟨by omega,?_⟩
  simp only[h50,decide_false,cond_false]at h
  rcases Yct (f:=fD db) (r0:=.inr ()) db.length 0 with⟨m,r,_,h2,h3,h4⟩| ⟨h1,hn⟩
  ·rw[h4]at h
   unfold fD at h3
   cases hv:decide (YzO (db.getD m zT).1 (db.getD m zT).2.1 (db.getD m zT).2.2=0)with
   |false=>
    rw[hv]at h3;injection h3 with h3;subst h3
    rw[decide_eq_false_iff_not]at hv
    exact absurd h hv
   |true=>
    rw[hv]at h3
    cases ht:decide (0<=tabI (db.take m) (db.getD m zT).1)with
    |true=>rw[ht]at h3;injection h3 with h3;subst h3;cases h
    |false=>rw[ht]at h3;cases h3
  ·intro n hl
   have:=hn n (Nat.zero_le _) (by omega)
   unfold fD at this
   cases hv:decide (YzO (db.getD n zT).1 (db.getD n zT).2.1 (db.getD n zT).2.2=0)with
   |false=>rw[hv]at this;cases this
   |true=>exact of_decide_eq_true hv
theorem Yy7{nm:ByteArray}{attrs:List ByteArray}{rows:Rws}(h:YzO nm attrs rows=0):YzZ nm=true:=by
 unfold YzO at h
 cases hn:YzZ nm with
 |true=>rfl
 |false=>rw[hn]at h;cases h
theorem Yy8{db:List Tabl}(h:dbI db=0):tabI db nul0= -1:=by
 rcases Yf7 (p:=tabP db nul0) (k:=db.length) (n:=0)with⟨m,_,h2,h3,_⟩| ⟨h1,_⟩
 ·exfalso
  have:=Yy7 ((YdW h).2 m (by omega))
  rw[of_decide_eq_true (show decide ((db.getD m zT).1=nul0)=true from h3)]at this
  simp[YzZ]at this
 ·exact h1
theorem Yy9(db:List Tabl):q24 loO db nul0 [] nul0 []=some (bif !decide (dbI db=0)then dbI db else 4):=by
 have hm:maxEl=1073741824:=rfl
 unfold q24
 rw[Yy4,Yzo]
 by_cases h:dbI db=0
 ·have hl:=(YdW h).1
  simp only[h,decide_true,Bool.not_true,cond_false]
  unfold q23
  rw[Ynn _ _ (by omega),Yzo,Yzo,Yy8 h];rfl
 ·simp[h]
theorem lexL(c:Int):q26 loO c=some (lt c):=Ycu c
theorem lexD(c:Int):q27 loO c=some (decide (48<=c)&&decide (c<=57)):=by
 unfold q27
 cases decide ((48:Int)<=c)<;>rfl
theorem Yza(s:ByteArray)(hs:s.size<=24):Yfn loO (s,(s.size:Int),0)=some (Yzp (fR s) s.size 0 (.inr ())):=by
 have hm:maxEl=1073741824:=rfl
 refine Yaj (fun n=>(s,(s.size:Int),(n:Int))) (fR s) s.size (.inr ()) rfl ?_ (fun n hn=> ?_)
 ·simp[Ydw]
 ·simp only[Ydw,ltI hn,cond_true,inc hn (show s.size<=maxEl by omega),lexL,lexD,Yzo]
  rw[chkT _ (by omega),chkT _ (by omega)]
  unfold fR
  generalize Yzn s n=c
  have e1:decide ((48:Int)<=c)= !decide (c<48):=by by_cases h:c<48<;>simp[h]<;>omega
  have e2:decide (c<=(57:Int))= !decide ((57:Int)<c):=by by_cases h:(57:Int)<c<;>simp[h]<;>omega
  rw[e1,e2]
  cases lt c<;>cases decide (c<48)<;>cases decide ((57:Int)<c)<;>rfl
theorem lexN(s:ByteArray):q28 loO s=some (YzZ s):=by
 rw[<-YdU]
 unfold q28 q103
 by_cases h1:s=ByteArray.mk #[]
 ·subst h1;rfl
 ·have h1':s.size≠0:=fun h=>h1 ((YDq s).1 h)
  have h0: ¬ (s.size:Int)=0:=by omega
  by_cases h2:(24:Int)< (s.size:Int)
  ·simp[h1,h2,h0]
  ·by_cases h3:s=ByteArray.mk #[110,117,108,108]
   ·subst h3
    have hs:(ByteArray.mk #[110,117,108,108]).size=4:=rfl
    simp only[hs,h1,h0,h2,decide_true,decide_false,cond_false,cond_true,Ycu,Yzo]
    cases lt (Yzn (ByteArray.mk #[110,117,108,108]) 0)<;>rfl
   ·simp only[h1,h2,h3,h0,decide_false,cond_false,lexL,Ycu,Yzo]
    rw[chkT _ (by omega),chkT _ (by omega),Yza s (by omega),Ynk s (by omega),Yzo]
def YAE(t:Term):Bool:=bif !decide (t.1=nul0)then YzZ t.1&& (decide (t.2.1=0)&& (decide (t.2.2.1=0)&& (decide (t.2.2.2=nul0)&&true)))else vB t.2
theorem YDD(t:Term):q29 loO t.1 t.2.1 t.2.2.1 t.2.2.2=some (YAE t):=by
 unfold q29 YAE
 rw[lexN,Yf6,Yzo,Yzo]
 cases decide (t.1=nul0)<;>cases YzZ t.1<;>rfl
theorem YDE(t:Term):q111 loO t.1 t.2.1 t.2.2.1 t.2.2.2=some (YAE t):=by
 unfold q111 YAE
 rw[YdU,Ynm,Yzo,Yzo]
 cases decide (t.1=nul0)<;>cases YzZ t.1<;>rfl
def badT(l:List Term):Bool:=anyN (fun m=> !YAE (l.getD m zM)) l.length 0
theorem YDt(l:List Term)(h:l.length<=maxEl):q32 loO l=some (badT l):=by
 have:Yfo loO (l,(l.length:Int),0)=some (Yzp (R:=Int⊕Unit) (fun m=>bif !YAE (l.getD m zM)then some (.inl (m:Int))else none) l.length 0 (.inr ())):=by
  refine Yaj (fun n=>(l,(l.length:Int),(n:Int))) _ l.length _ rfl ?_ (fun n hn=> ?_)
  ·simp[Ydx]
  ·simp only[Ydx,ltI hn,cond_true,inc hn h,Int.toNat_natCast,q30]
   rw[chkT _ (by omega),YDD,Yzo,Yzo]
   cases YAE (l.getD n zM)<;>rfl
 unfold q32 q31 badT
 rw[this,Yzo,<-YdT]
 unfold idxR
 cases Yzp (R:=Int⊕Unit) (fun m=>bif !YAE (l.getD m zM)then some (.inl (m:Int))else none) l.length 0 (.inr ())<;>rfl
theorem YDu(nm:ByteArray)(l:List Term)(h:l.length<=maxEl):q112 loO nm l=some (!badT l):=by
 have:YfS loO (0,nm,l)=some (Yzp (R:=Bool⊕Unit) (fun m=>bif !YAE (l.getD m zM)then some (.inl false)else none) l.length 0 (.inr ())):=by
  refine Yaj (fun n=>((n:Int),nm,l)) _ l.length _ rfl ?_ (fun n hn=> ?_)
  ·simp[YdO]
  ·simp only[YdO,ltI hn,cond_true,inc hn h,Int.toNat_natCast]
   rw[chkT _ (by omega),YDE,Yzo]
   cases YAE (l.getD n zM)<;>rfl
 unfold q112 badT
 rw[this,Yzo,Yf5]
 cases anyN (fun m=> !YAE (l.getD m zM)) l.length 0<;>rfl
def addV(out:List ByteArray)(v:ByteArray):List ByteArray:=bif !decide (v=nul0)&&decide (idxI out v<0)then out++[v]else out
def Yz4(out:List ByteArray)(l:List Term):List ByteArray:=l.foldl (fun o t=>addV o t.1) out
def Yz5(out:List ByteArray)(l:List Atom):List ByteArray:=l.foldl (fun o a=>Yz4 o a.2) out
theorem Yzb(out:List ByteArray)(v:ByteArray):(addV out v).length<=out.length+1:=by
 unfold addV
 cases(!decide (v=nul0)&&decide (idxI out v<0))<;>simp
theorem Yf8: ∀(l:List Term) (out:List ByteArray),(Yz4 out l).length<=out.length+l.length
 | [],out=>by simp[Yz4]
 |t::l,out=>by
  have h1:=Yf8 l (addV out t.1)
  have h2:=Yzb out t.1
  simp only[Yz4,YEh,YD2]at h1⊢
  omega
def sumT(l:List Atom):Nat:=(l.map fun a=>a.2.length).sum
theorem Yf9: ∀(l:List Atom) (out:List ByteArray),(Yz5 out l).length<=out.length+sumT l
 | [],out=>by simp[Yz5,sumT]
 |a::l,out=>by
  have h1:=Yf9 l (Yz4 out a.2)
  have h2:=Yf8 a.2 out
  simp only[Yz5,sumT,YEh,YDO,List.sum_cons]at h1⊢
  omega
theorem Yno{α β:Type}(f:β->α->β)(b:β){l:List α}{n:Nat}{d:α}(h:n<l.length):(l.take (n+1)).foldl f b=f ((l.take n).foldl f b) (l.getD n d):=by
 rw[Yni (d:=d) h,List.foldl_append];rfl
theorem Yzc{l:List Nat}: ∀(n:Nat),(l.take n).sum<=l.sum:=by
 induction l with
 |nil=>intro n;simp
 |cons a r ih=>
  intro n
  cases n with
  |zero=>simp
  |succ n=>simp only[List.take_succ_cons,List.sum_cons];have:=ih n;omega
theorem Yzd(l:List Atom)(n:Nat):sumT (l.take n)<=sumT l:=by
 unfold sumT;rw[List.map_take];exact Yzc n
theorem YdX{l:List Atom}{n:Nat}(h:n<l.length):sumT (l.take n)+(l.getD n zA).2.length<=sumT l:=by
 have:=Yzd l (n+1)
 rw[Yni (d:=zA) h]at this
 unfold sumT at this⊢
 simpa using this
theorem YDF(l:List Atom)(h:l.length<=maxEl)(h2:sumT l<=maxEl):q113 loO l=some (Yz5 [] l):=by
 have inner: ∀(i:Nat) (out:List ByteArray),i<l.length->out.length<=sumT (l.take i)->YfT loO (l,(i:Int),0,out)=some (l,(i:Int),Yz4 out (l.getD i zA).2):=by
  intro i out hi ho
  have hb:=YdX hi
  refine Ynd (st:=fun n=>(l,(i:Int),(n:Int),Yz4 out ((l.getD i zA).2.take n))) (N:=(l.getD i zA).2.length) rfl ?_ (fun n hn=> ?_)
  ·simp only[YdP,Int.toNat_natCast,nlI,cond_false,YEa]
   rw[chkT _ (by omega)]
  ·have ht:=Yf8 ((l.getD i zA).2.take n) out
   rw[List.length_take,Nat.min_eq_left (by omega)]at ht
   simp only[YdP,Int.toNat_natCast,ltI hn,cond_true,inc hn (show(l.getD i zA).2.length<=maxEl by omega)]
   rw[chkT _ (by omega),chkT _ (by omega),chkT _ ⟨by omega,Int.ofNat_lt.2 hn⟩,YdV _ _ (by omega),Yzo]
   have e:Yz4 out ((l.getD i zA).2.take (n+1))=addV (Yz4 out ((l.getD i zA).2.take n)) ((l.getD i zA).2.getD n zM).1:=Yno (fun o (t:Term)=>addV o t.1) out (d:=zM) hn
   rw[e]
   rw[chkT _ (by rw[List.length_singleton];omega)]
   unfold addV
   cases decide (((l.getD i zA).2.getD n zM).1=nul0)<;>cases decide (idxI (Yz4 out ((l.getD i zA).2.take n)) ((l.getD i zA).2.getD n zM).1<0)<;>rfl
 have outer:YfU loO (l,0,[])=some (Yz5 [] l):=by
  refine Ynd (st:=fun n=>(l,(n:Int),Yz5 [] (l.take n))) (N:=l.length) rfl ?_ (fun n hn=> ?_)
  ·simp only[YdQ,nlI,cond_false,YEa]
  ·have hl:=Yf9 (l.take n) []
   simp only[YEl,Nat.zero_add]at hl
   simp only[YdQ,ltI hn,cond_true]
   rw[inner n _ hn hl,Yzo]
   simp only[inc hn h]
   have e:Yz5 [] (l.take (n+1))=Yz4 (Yz5 [] (l.take n)) (l.getD n zA).2:=Yno (fun o (a:Atom)=>Yz4 o a.2) [] (d:=zA) hn
   rw[e]
 unfold q113
 rw[outer,Yzo]
def inL(l:List ByteArray)(v:ByteArray):Bool:=l.any fun w=>decide (v=w)
theorem inL_iff{l:List ByteArray}{v:ByteArray}:inL l v=true↔v∈l:=by
 unfold inL;rw[List.any_eq_true]
 constructor
 ·rintro⟨w,h1,h2⟩;rw[of_decide_eq_true h2];exact h1
 ·intro h;exact⟨v,h,decide_eq_true rfl⟩
theorem Yga(l:List ByteArray)(v:ByteArray):decide (0<=idxI l v)=inL l v:=by
 unfold idxI
 rw[YdT,Bool.eq_iff_iff,Yf3,inL_iff]
 constructor
 ·rintro⟨m,_,h2,h3⟩
  rw[decide_eq_true_eq]at h3;rw[h3];exact Ynh (by omega)
 ·intro h
  obtain⟨m,hm,e⟩:=YEj.1 h
  exact⟨m,Nat.zero_le _,by omega,by rw[decide_eq_true_eq,YEn,YDN hm];exact e.symm⟩
theorem Ynp(l:List ByteArray)(v:ByteArray):decide (idxI l v<0)= !inL l v:=by
 rw[<-Yga];by_cases h:0<=idxI l v<;>simp[h]<;>omega
theorem Yze(out:List ByteArray)(w v:ByteArray):v∈addV out w↔v∈out\/(v≠nul0/\w=v):=by
 unfold addV
 rw[Ynp]
 by_cases h1:w=nul0
 ·subst h1;simp;intro h2 h3;exact absurd h3.symm h2
 ·by_cases h2:w∈out
  ·simp[h1,inL_iff.2 h2];intro _ h4;subst h4;exact h2
  ·have h3:inL out w=false:=by rw[<-Bool.not_eq_true,inL_iff];exact h2
   simp[h1,h3]
   constructor
   ·rintro(h|rfl)
    ·exact .inl h
    ·exact .inr ⟨h1,rfl⟩
   ·rintro(h| ⟨_,rfl⟩)
    ·exact .inl h
    ·exact .inr rfl
theorem Ynq: ∀(l:List Term) (out:List ByteArray) (v:ByteArray),v∈Yz4 out l↔v∈out\/(v≠nul0/\ ∃t∈l,t.1=v)
 | [],out,v=>by simp[Yz4]
 |t::l,out,v=>by
  have:=Ynq l (addV out t.1) v
  simp only[Yz4,YEh]at this⊢
  rw[this,Yze]
  simp only[YDU,exists_eq_or_imp]
  constructor
  ·rintro((h| ⟨h1,h2⟩)| ⟨h1,h2⟩)
   ·exact .inl h
   ·exact .inr ⟨h1,.inl h2⟩
   ·exact .inr ⟨h1,.inr h2⟩
  ·rintro(h| ⟨h1,h2|h2⟩)
   ·exact .inl (.inl h)
   ·exact .inl (.inr ⟨h1,h2⟩)
   ·exact .inr ⟨h1,h2⟩
theorem Ynr: ∀(l:List Atom) (out:List ByteArray) (v:ByteArray),v∈Yz5 out l↔v∈out\/(v≠nul0/\ ∃a∈l,∃t∈a.2,t.1=v)
 | [],out,v=>by simp[Yz5]
 |a::l,out,v=>by
  have:=Ynr l (Yz4 out a.2) v
  simp only[Yz5,YEh]at this⊢
  rw[this,Ynq]
  simp only[YDU,exists_eq_or_imp]
  constructor
  ·rintro((h| ⟨h1,h2⟩)| ⟨h1,h2⟩)
   ·exact .inl h
   ·exact .inr ⟨h1,.inl h2⟩
   ·exact .inr ⟨h1,.inr h2⟩
  ·rintro(h| ⟨h1,h2|h2⟩)
   ·exact .inl (.inl h)
   ·exact .inl (.inr ⟨h1,h2⟩)
   ·exact .inr ⟨h1,h2⟩
def fHd(hd:List ByteArray)(at':List Atom)(n:Nat):Bool:=inL (Yz5 [] at') (hd.getD n nul0)&& !inL (hd.take n) (hd.getD n nul0)
def YA9(hd:List ByteArray)(at':List Atom):Bool:= !anyN (fun m=> !fHd hd at' m) hd.length 0
theorem YDG(l:List Term)(v:ByteArray)(h:l.length<=maxEl):q35 loO l v=some (anyN (fun m=>decide ((l.getD m zM).1=v)) l.length 0,v):=by
 have:Yfp loO (l,(l.length:Int),0,v)=some (Yzp (R:=(Int×ByteArray)⊕ByteArray) (fun m=>bif decide ((l.getD m zM).1=v)then some (.inl ((m:Int),v))else none) l.length 0 (.inr v)):=by
  refine Yaj (fun n=>(l,(l.length:Int),(n:Int),v)) _ l.length _ rfl ?_ (fun n hn=> ?_)
  ·simp[Ydy]
  ·simp only[Ydy,ltI hn,cond_true,inc hn h,Int.toNat_natCast,q33,Yzo]
   rw[chkT _ (by omega)]
   cases decide ((l.getD n zM).1=v)<;>rfl
 unfold q35 q34
 rw[this,Yzo]
 have k1:=Yf4 (R:=(Int×ByteArray)⊕ByteArray) (p:=fun m=>decide ((l.getD m zM).1=v)) (fun m=>.inl ((m:Int),v)) (.inr v) (fun r=>match r with| .inl i=>decide (0<=i.1)| .inr _=>false) rfl (fun m=>by simp) l.length 0
 have k2: ∀k n,(match Yzp (R:=(Int×ByteArray)⊕ByteArray) (fun m=>bif decide ((l.getD m zM).1=v)then some (.inl ((m:Int),v))else none) k n (.inr v)with| .inl i=>i.2| .inr b=>b)=v:=by
  intro k
  induction k with
  |zero=>intro n;rfl
  |succ k ih=>intro n;simp only[Yzp];cases decide ((l.getD n zM).1=v)with
   |true=>rfl
   |false=>simpa using ih (n+1)
 have k2:=k2 l.length 0
 rw[<-k1]
 revert k2
 cases Yzp (R:=(Int×ByteArray)⊕ByteArray) (fun m=>bif decide ((l.getD m zM).1=v)then some (.inl ((m:Int),v))else none) l.length 0 (.inr v)with
 |inl i=>intro k2;simp only at k2;subst k2;rfl
 |inr b=>intro k2;simp only at k2;subst k2;rfl
theorem YDH(l:List Atom)(v:ByteArray)(h:l.length<=maxEl)(h2:sumT l<=maxEl):q38 loO l v=some (anyN (fun m=>anyN (fun k=>decide (((l.getD m zA).2.getD k zM).1=v)) (l.getD m zA).2.length 0) l.length 0,v):=by
 have:Yfq loO (l,(l.length:Int),0,v)=some (Yzp (R:=(Int×ByteArray)⊕ByteArray) (fun m=>bif anyN (fun k=>decide (((l.getD m zA).2.getD k zM).1=v)) (l.getD m zA).2.length 0 then some (.inl ((m:Int),v))else none) l.length 0 (.inr v)):=by
  refine Yaj (fun n=>(l,(l.length:Int),(n:Int),v)) _ l.length _ rfl ?_ (fun n hn=> ?_)
  ·simp[Ydz]
  ·have:=YdX hn
   have hg:(l.getD n zA).2.length<=maxEl:=by omega
   simp only[Ydz,ltI hn,cond_true,inc hn h,Int.toNat_natCast,q36]
   rw[chkT _ (by omega),YDG _ _ hg,Yzo,Yzo]
   cases anyN (fun k=>decide (((l.getD n zA).2.getD k zM).1=v)) (l.getD n zA).2.length 0<;>rfl
 unfold q38 q37
 rw[this,Yzo]
 have k1:=Yf4 (R:=(Int×ByteArray)⊕ByteArray) (p:=fun m=>anyN (fun k=>decide (((l.getD m zA).2.getD k zM).1=v)) (l.getD m zA).2.length 0) (fun m=>.inl ((m:Int),v)) (.inr v) (fun r=>match r with| .inl i=>decide (0<=i.1)| .inr _=>false) rfl (fun m=>by simp) l.length 0
 have k2: ∀k n,(match Yzp (R:=(Int×ByteArray)⊕ByteArray) (fun m=>bif anyN (fun k=>decide (((l.getD m zA).2.getD k zM).1=v)) (l.getD m zA).2.length 0 then some (.inl ((m:Int),v))else none) k n (.inr v)with| .inl i=>i.2| .inr b=>b)=v:=by
  intro k
  induction k with
  |zero=>intro n;rfl
  |succ k ih=>intro n;simp only[Yzp];cases anyN (fun k=>decide (((l.getD n zA).2.getD k zM).1=v)) (l.getD n zA).2.length 0 with
   |true=>rfl
   |false=>simpa using ih (n+1)
 have k2:=k2 l.length 0
 rw[<-k1]
 revert k2
 cases Yzp (R:=(Int×ByteArray)⊕ByteArray) (fun m=>bif anyN (fun k=>decide (((l.getD m zA).2.getD k zM).1=v)) (l.getD m zA).2.length 0 then some (.inl ((m:Int),v))else none) l.length 0 (.inr v)with
 |inl i=>intro k2;simp only at k2;subst k2;rfl
 |inr b=>intro k2;simp only at k2;subst k2;rfl
theorem Yns{α:Type}(p:α->Bool)(l:List α)(d:α):anyN (fun m=>p (l.getD m d)) l.length 0=l.any p:=by
 rw[Bool.eq_iff_iff,Yf3,List.any_eq_true]
 constructor
 ·rintro⟨m,_,h2,h3⟩;exact⟨_,Ynh (by omega),h3⟩
 ·rintro⟨x,hx,h3⟩
  obtain⟨m,hm,e⟩:=YEj.1 hx
  refine⟨m,Nat.zero_le _,by omega,?_⟩
  rw[YEn,YDN hm,Option.getD_some,e];exact h3
theorem occ(l:List Atom)(v:ByteArray):(!decide (v=nul0)&&anyN (fun m=>anyN (fun k=>decide (((l.getD m zA).2.getD k zM).1=v)) (l.getD m zA).2.length 0) l.length 0)=inL (Yz5 [] l) v:=by
 have e1:anyN (fun m=>anyN (fun k=>decide (((l.getD m zA).2.getD k zM).1=v)) (l.getD m zA).2.length 0) l.length 0=l.any (fun a=>a.2.any fun t=>decide (t.1=v)):=by
  rw[<-Yns (fun a=>a.2.any fun t=>decide (t.1=v)) l zA]
  congr 1;funext m
  exact Yns (fun t=>decide (t.1=v)) (l.getD m zA).2 zM
 rw[e1,Bool.eq_iff_iff,inL_iff,Ynr]
 simp
theorem YDI(hd:List ByteArray)(l:List Atom)(hh:hd.length<=maxEl)(h:l.length<=maxEl)(h2:sumT l<=maxEl):q39 loO hd l=some (YA9 hd l):=by
 have:Yfr loO (hd,(hd.length:Int),0,hd,l)=some (Yzp (R:=Bool⊕Unit) (fun m=>bif !fHd hd l m then some (.inl false)else none) hd.length 0 (.inr ())):=by
  refine Yaj (fun n=>(hd,(hd.length:Int),(n:Int),hd,l)) _ hd.length _ rfl ?_ (fun n hn=> ?_)
  ·simp[YdA]
  ·simp only[YdA,ltI hn,cond_true,inc hn hh,Int.toNat_natCast,YEg]
   rw[chkT _ (by omega),chkT _ (by omega),Ynl _ _ (by simp;omega),Yzo,YDH _ _ h h2,Yzo]
   unfold fHd
   rw[<-occ,Yga]
   cases decide (hd.getD n nul0=nul0)<;>cases inL (hd.take n) (hd.getD n nul0)<;>cases anyN (fun m=>anyN (fun k=>decide (((l.getD m zA).2.getD k zM).1=hd.getD n nul0)) (l.getD m zA).2.length 0) l.length 0<;>rfl
 unfold q39 YA9
 rw[this,Yzo,Yf5]
 cases anyN (fun m=> !fHd hd l m) hd.length 0<;>rfl
theorem YDJ(hd:List ByteArray)(l:List Atom)(hh:hd.length<=maxEl)(h:l.length<=maxEl)(h2:sumT l<=maxEl):q114 loO hd l=some (YA9 hd l):=by
 have hv:=Yf9 l []
 simp only[YEl,Nat.zero_add]at hv
 have:YfV loO (Yz5 [] l,0,hd,l)=some (Yzp (R:=Bool⊕Unit) (fun m=>bif !fHd hd l m then some (.inl false)else none) hd.length 0 (.inr ())):=by
  refine Yaj (fun n=>(Yz5 [] l,(n:Int),hd,l)) _ hd.length _ rfl ?_ (fun n hn=> ?_)
  ·simp[YdR]
  ·simp only[YdR,ltI hn,cond_true,inc hn hh,Int.toNat_natCast,YEg]
   rw[chkT _ (by omega),chkT _ (by omega),chkT _ (by omega),YdV _ _ (by omega),Yzo,YdV _ _ (by simp;omega),Yzo]
   unfold fHd
   rw[Ynp,Yga]
   cases inL (Yz5 [] l) (hd.getD n nul0)<;>cases inL (hd.take n) (hd.getD n nul0)<;>rfl
 unfold q114 YA9
 rw[YDF l h h2,Yzo,this,Yzo,Yf5]
 cases anyN (fun m=> !fHd hd l m) hd.length 0<;>rfl
def fQ(db:List Tabl)(l:List Atom)(n:Nat):Option (Int⊕Unit):=
 bif !decide (0<=tabI db (l.getD n zA).1)then some (.inl 4)else bif !decide (((tabO db (l.getD n zA).1).2.1.length:Int)=((l.getD n zA).2.length:Int))then some (.inl 6)else bif badT (l.getD n zA).2 then some (.inl 1)else none
def qI(db:List Tabl)(hd:List ByteArray)(l:List Atom):Int:=
 bif !decide (dbI db=0)then dbI db else bif decide ((l.length:Int)<1)then 1 else bif decide ((6:Int)< (l.length:Int))then 1 else
  match Yzp (fQ db l) l.length 0 (.inr ())with| .inl i=>i| .inr _=>bif !YA9 hd l then 1 else 0
theorem Ygb{R R' T:Type}(f:Nat->Option (R⊕T))(g:Nat->Option (R⊕R'))(t:T)(r0:R')(hf: ∀n,g n=match f n with|some (.inl i)=>some (.inl i)|some (.inr _)=>none|none=>none)(hn: ∀n u,f n≠some (.inr u)): ∀k n,Yzp g k n (.inr r0)=match Yzp f k n (.inr t)with| .inl i=>.inl i| .inr _=>.inr r0
 |0,n=>rfl
 |k+1,n=>by
  simp only[Yzp]
  rw[hf]
  cases h:f n with
  |none=>exact Ygb f g t r0 hf hn k (n+1)
  |some x=>cases x with
   |inl i=>rfl
   |inr u=>exact absurd h (hn n u)
theorem Ynt(db:List Tabl)(l:List Atom)(n:Nat)(u:Unit):fQ db l n≠some (.inr u):=by
 unfold fQ
 cases decide (0<=tabI db (l.getD n zA).1)<;>cases decide (((tabO db (l.getD n zA).1).2.1.length:Int)=((l.getD n zA).2.length:Int))<;>cases badT (l.getD n zA).2<;>(intro h;cases h)
def up{R':Type}(x:Option (Int⊕Unit)):Option (Int⊕R'):=match x with|some (.inl i)=>some (.inl i)|some (.inr _)=>none|none=>none
theorem tQ(db:List Tabl)(hd:List ByteArray)(l:List Atom)(hh:hd.length<=maxEl)(h2:sumT l<=maxEl):q40 loO db hd l=some (qI db hd l):=by
 have hm:maxEl=1073741824:=rfl
 unfold q40 qI
 rw[Yy9,Yzo]
 by_cases h:dbI db=0
 ·have hl:=(YdW h).1
  simp only[h,decide_true,Bool.not_true,cond_false]
  by_cases h1:(l.length:Int)<1
  ·simp[h1]
  ·by_cases h6:(6:Int)< (l.length:Int)
   ·simp[h1,h6]
   ·simp only[h1,h6,decide_false,cond_false]
    have:Yfs loO (l,(l.length:Int),0,db,hd,l)=some (Yzp (R:=Int⊕ (List ByteArray×List Atom)) (fun n=>up (fQ db l n)) l.length 0 (.inr (hd,l))):=by
     refine Yaj (fun n=>(l,(l.length:Int),(n:Int),db,hd,l)) _ l.length _ rfl ?_ (fun n hn=> ?_)
     ·simp[YdB]
     ·have:=YdX hn
      have hg:(l.getD n zA).2.length<=maxEl:=by omega
      simp only[YdB,ltI hn,cond_true,inc hn (show l.length<=maxEl by omega),Int.toNat_natCast]
      rw[chkT _ (by omega),YDC _ _ (by omega),Yzo]
      simp only
      rw[YDt _ hg,Yzo]
      unfold fQ
      cases decide (0<=tabI db (l.getD n zA).1)<;>cases decide (((tabO db (l.getD n zA).1).2.1.length:Int)=((l.getD n zA).2.length:Int))<;>cases badT (l.getD n zA).2<;>rfl
    rw[this,Yzo,Ygb (fQ db l) (fun n=>up (fQ db l n)) () (hd,l) (fun n=>by rcases fQ db l n with _| (_|_)<;>rfl) (Ynt db l)]
    cases Yzp (fQ db l) l.length 0 (.inr ())with
    |inl i=>rfl
    |inr u=>
     simp only[alt2]
     rw[YDI hd l hh (by omega) h2,Yzo]
     cases YA9 hd l<;>rfl
 ·have h4:=Yy6 db
  simp[h,h4]
theorem rQ(db:List Tabl)(hd:List ByteArray)(l:List Atom)(hh:hd.length<=maxEl)(h2:sumT l<=maxEl):q115 loO db hd l=some (qI db hd l):=by
 have hm:maxEl=1073741824:=rfl
 unfold q115 qI
 rw[rDb,Yzo]
 by_cases h:dbI db=0
 ·have hl:=(YdW h).1
  simp only[h,decide_true,Bool.not_true,cond_false]
  by_cases h1:(l.length:Int)<1
  ·simp[h1]
  ·by_cases h6:(6:Int)< (l.length:Int)
   ·simp[h1,h6]
   ·simp only[h1,h6,decide_false,cond_false]
    have:YfW loO (0,db,hd,l)=some (Yzp (R:=Int⊕ (List ByteArray×List Atom)) (fun n=>up (fQ db l n)) l.length 0 (.inr (hd,l))):=by
     refine Yaj (fun n=>((n:Int),db,hd,l)) _ l.length _ rfl ?_ (fun n hn=> ?_)
     ·simp[YdS]
     ·have:=YdX hn
      have hg:(l.getD n zA).2.length<=maxEl:=by omega
      simp only[YdS,ltI hn,cond_true,inc hn (show l.length<=maxEl by omega),Int.toNat_natCast]
      rw[chkT _ (by omega),rTab _ _ (by omega),Yzo]
      have hcm: ∀x y:Nat,decide ((x:Int)=(y:Int))=decide ((y:Int)=(x:Int)):=fun x y=>by simp only[eq_comm]
      unfold fQ tabO
      rcases Yf7 (p:=tabP db (l.getD n zA).1) (k:=db.length) (n:=0)with⟨m,_,m2,m3,m4⟩| ⟨m1,_⟩
      ·have e:tabI db (l.getD n zA).1=(m:Int):=m4
       rw[e]
       have e0:decide ((m:Int)<0)=false:=by simp
       have e1:decide ((0:Int)<=(m:Int))=true:=by simp
       simp only[e0,e1,cond_false,cond_true,Int.toNat_natCast,Bool.not_true]
       rw[chkT _ (by omega),chkT _ (by omega),YDu _ _ hg,Yzo,chkT _ (by omega),hcm]
       cases decide ((((db.getD m zT).2.1.length:Nat):Int)=((l.getD n zA).2.length:Int))<;>cases badT (l.getD n zA).2<;>rfl
      ·have e:tabI db (l.getD n zA).1= -1:=m1
       rw[e];rfl
    rw[this,Yzo,Ygb (fQ db l) (fun n=>up (fQ db l n)) () (hd,l) (fun n=>by rcases fQ db l n with _| (_|_)<;>rfl) (Ynt db l)]
    cases Yzp (fQ db l) l.length 0 (.inr ())with
    |inl i=>rfl
    |inr u=>
     simp only[alt2]
     rw[YDJ hd l hh (by omega) h2,Yzo]
     cases YA9 hd l<;>rfl
 ·simp[h]
theorem Yzf(db:List Tabl): ∃b,q100 loO db=some b:=by
 have hm:maxEl=1073741824:=rfl
 unfold q100
 by_cases h:(6:Int)< (db.length:Int)
 ·exact⟨false,by simp[h]⟩
 ·simp only[h,decide_false,cond_false]
  have:YfJ loO (db,(db.length:Int),0)=some (Yzp (R:=Bool⊕Unit) (fun n=>bif decide ((6:Int)< ((db.getD n zT).2.2.length:Int))then some (.inl false)else bif decide ((20:Int)< ((db.getD n zT).2.1.length:Int))then some (.inl false)else none) db.length 0 (.inr ())):=by
   refine Yaj (fun n=>(db,(db.length:Int),(n:Int))) _ db.length _ rfl ?_ (fun n hn=> ?_)
   ·simp[YdF]
   ·simp only[YdF,ltI hn,cond_true,inc hn (show db.length<=maxEl by omega),Int.toNat_natCast]
    rw[chkT _ (by omega)]
    cases decide ((6:Int)< ((db.getD n zT).2.2.length:Int))<;>cases decide ((20:Int)< ((db.getD n zT).2.1.length:Int))<;>rfl
  rw[this,Yzo]
  cases Yzp (R:=Bool⊕Unit) (fun n=>bif decide ((6:Int)< ((db.getD n zT).2.2.length:Int))then some (.inl false)else bif decide ((20:Int)< ((db.getD n zT).2.1.length:Int))then some (.inl false)else none) db.length 0 (.inr ())with
  |inl b=>exact⟨b,rfl⟩
  |inr u=>exact⟨true,rfl⟩
theorem Yzg{l:List Atom}{k:Nat}(h: ∀n,n<l.length->(l.getD n zA).2.length<=k):sumT l<=l.length*k:=by
 unfold sumT
 have: ∀a∈l,a.2.length<=k:=fun a ha=>by
  obtain⟨m,hm,e⟩:=YEj.1 ha
  have:=h m hm
  rwa[YEn,YDN hm,Option.getD_some,e]at this
 clear h
 induction l with
 |nil=>simp
 |cons a r ih=>
  have h1:=this a (YDW ..)
  have h2:=ih (fun b hb=>this b (YD3 _ hb))
  simp only[YDO,List.sum_cons,YD2,Nat.add_mul];omega
theorem Yzh(hd:List ByteArray)(l:List Atom): ∃b,q101 loO hd l=some b/\ (b=true->hd.length<=10/\l.length<=8/\sumT l<=160):=by
 have hm:maxEl=1073741824:=rfl
 unfold q101
 by_cases h:(10:Int)< (hd.length:Int)
 ·exact⟨false,by simp[h],fun h=>by cases h⟩
 ·by_cases h8:(8:Int)< (l.length:Int)
  ·exact⟨false,by simp[h,h8],fun h=>by cases h⟩
  ·simp only[h,h8,decide_false,cond_false]
   have:YfK loO (l,(l.length:Int),0)=some (Yzp (R:=Bool⊕Unit) (fun n=>bif decide ((20:Int)< ((l.getD n zA).2.length:Int))then some (.inl false)else bif decide ((3:Int)< (n:Int))&&decide ((1:Int)< ((l.getD n zA).2.length:Int))then some (.inl false)else none) l.length 0 (.inr ())):=by
    refine Yaj (fun n=>(l,(l.length:Int),(n:Int))) _ l.length _ rfl ?_ (fun n hn=> ?_)
    ·simp[YdG]
    ·simp only[YdG,ltI hn,cond_true,inc hn (show l.length<=maxEl by omega),Int.toNat_natCast]
     rw[chkT _ (by omega)]
     cases decide ((20:Int)< ((l.getD n zA).2.length:Int))<;>cases decide ((3:Int)< (n:Int))<;>cases decide ((1:Int)< ((l.getD n zA).2.length:Int))<;>rfl
   rw[this,Yzo]
   rcases Yct (R:=Bool⊕Unit) (f:=fun n=>bif decide ((20:Int)< ((l.getD n zA).2.length:Int))then some (.inl false)else bif decide ((3:Int)< (n:Int))&&decide ((1:Int)< ((l.getD n zA).2.length:Int))then some (.inl false)else none) (r0:=.inr ()) l.length 0 with⟨m,r,_,_,h3,h4⟩| ⟨h1,hn⟩
   ·rw[h4]
    have:r= .inl false:=by
     revert h3
     cases decide ((20:Int)< ((l.getD m zA).2.length:Int))<;>cases decide ((3:Int)< (m:Int))<;>cases decide ((1:Int)< ((l.getD m zA).2.length:Int))<;>(intro h3;first| (injection h3 with h3;exact h3.symm)|cases h3)
    subst this
    exact⟨false,rfl,fun h=>by cases h⟩
   ·rw[h1]
    refine⟨true,rfl,fun _=>⟨by omega,by omega,?_⟩⟩
    have:=Yzg (l:=l) (k:=20) (fun n hl=>by
     have:=hn n (Nat.zero_le _) (by omega)
     cases hc:decide ((20:Int)< ((l.getD n zA).2.length:Int))with
     |true=>rw[hc]at this;cases this
     |false=>rw[decide_eq_false_iff_not]at hc;omega)
    have:l.length*20<=8*20:=Nat.mul_le_mul_right _ (by omega)
    omega
end
end Go.Abs.G47
namespace Go.Abs.G47
open Go Go.Abs
noncomputable section
theorem Yzi{db:List Tabl}{hd:List ByteArray}{l:List Atom}(hh:hd.length<=maxEl)(h2:sumT l<=maxEl)(h: ¬qI db hd l=0):q66 loO db hd l=some ([],qI db hd l):=by
 unfold q66
 rw[tQ db hd l hh h2,Yzo];simp[h]
theorem YdY{db:List Tabl}{hd:List ByteArray}{l:List Atom}{an:Vals}(hh:hd.length<=maxEl)(h2:sumT l<=maxEl)(h: ¬qI db hd l=0):
  q68 loO db hd l an=none/\q67 loO db hd l an=some (qI db hd l):=by
 unfold q68 q67
 rw[tQ db hd l hh h2,Yzo,Yzo];simp[h]
theorem Yzj{db:List Tabl}{hd:List ByteArray}{l:List Atom}{an:Vals}(hh:hd.length<=maxEl)(h2:sumT l<=maxEl)(h: ¬qI db hd l=0):q163 loO db hd l an=some (false,qI db hd l):=by
 unfold q163
 rw[(YdY hh h2 h).1,(YdY hh h2 h).2,Yzo]
 simp[altO,h]
theorem Yzk{db:List Tabl}{hd:List ByteArray}{l:List Atom}{an:Vals}(hh:hd.length<=maxEl)(h2:sumT l<=maxEl)(h: ¬qI db hd l=0):q73 loO db hd l an=some ([],qI db hd l):=by
 unfold q73
 rw[(YdY hh h2 h).1,(YdY hh h2 h).2,Yzo]
 simp[altO,h]
theorem errors_law(db:List Tabl)(hd:List ByteArray)(l:List Atom)(an:Vals):q166 loO db hd l an=some true:=by
 have hm:maxEl=1073741824:=rfl
 unfold q166
 obtain⟨b,hb⟩:=Yzf db
 obtain⟨c,hc,hs⟩:=Yzh hd l
 simp only[aw,Yzo,hb,hc,Bool.not_true,cond_false]
 cases b with
 |false=>rfl
 |true=>
  cases c with
  |false=>rfl
  |true=>
   simp only[Bool.not_true,cond_false]
   by_cases h8:(8:Int)< (an.length:Int)
   ·simp[h8]
   ·obtain⟨s1,s2,s3⟩:=hs rfl
    simp only[h8,decide_false,cond_false]
    rw[rQ db hd l (by omega) (by omega),Yzo]
    by_cases h:qI db hd l=0
    ·simp[h]
    ·rw[Yzi (by omega) (by omega) h,Yzj (by omega) (by omega) h,Yzk (by omega) (by omega) h]
     simp only[Yzo,h,decide_false,cond_false,decide_true,cond_true]
     rfl
end
end Go.Abs.G47
