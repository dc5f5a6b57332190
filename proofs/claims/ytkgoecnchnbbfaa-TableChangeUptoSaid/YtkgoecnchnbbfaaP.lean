/- Helpers of the plain laws: loops as states by number, tables, short words. No condition. -/
import Derived.Test.YtkgoecnchnbbfaaB
import Derived.Test.YtkgoecnchnbbfaaG
set_option linter.unusedVariables false
set_option linter.unusedSimpArgs false
set_option linter.unusedSectionVars false
open List renaming getElem?_eq_getElem → YzJ, map_cons → YzL, map_nil → YzQ, length_map → YzZ, mem_singleton → Yz3, length_set → Yz6, length_singleton → Yz8
open Nat renaming le_refl → YAf, ble → YAi, zero_le → YAp
open Option renaming bind → YAr, bind_some → YAu
open Bool renaming and_eq_true → YAz, not_true → YAA, not_false → YAB
open Int renaming toNat_natCast → YAE
open ByteArray renaming mk → YAL
open Go.IntKind renaming wrap → YAM
namespace Go.Abs
theorem wr6{n:Int}(h0: -9223372036854775808<=n)(h1:n<9223372036854775808):YAM .i64 n=n:=by
 have e:(2:Int)^IntKind.bits .i64=18446744073709551616:=rfl
 have e':(2:Int)^(IntKind.bits .i64-1)=9223372036854775808:=rfl
 have s:IntKind.signed .i64=true:=rfl
 simp only[YAM,e,e',s,Bool.true_and,ge_iff_le,decide_eq_true_eq]
 omega
theorem chkT{β:Type}{p:Prop}[Decidable p](x:Option β)(h:p):chk p x=x:=by simp[chk,h]
theorem Ywh{α β:Type}(a:α)(f:α->Option β):YAr (some a) f=f a:=rfl
theorem Ymc{S R:Type}{step:S->Option (S⊕R)}(st:Nat->S)(N:Nat)(r:R)(he:step (st N)=some (.inr r))(hs: ∀n,n<N->step (st n)=some (.inl (st (n+1)))): ∀k n,n+k=N->YwM step (st n)=some r
 |0,n,h=>by rw[YcU];simp_all
 |k+1,n,h=>by rw[YcU,hs n (by omega)];exact Ymc st N r he hs k (n+1) (by omega)
theorem Ymd{S R:Type}{step:S->Option (S⊕R)}{st:Nat->S}{N:Nat}{r:R}{s:S}(hst:s=st 0)(he:step (st N)=some (.inr r))(hs: ∀n,n<N->step (st n)=some (.inl (st (n+1)))):YwM step s=some r:=by
 subst hst;exact Ymc st N r he hs N 0 (by omega)
def tab{α:Type}(n:Nat)(f:Nat->α):List α:=(List.range n).map f
def bl(s:ByteArray):List UInt8:=s.data.toList
theorem Yvj(a b:ByteArray)(i j:Nat):(Ywc a i=Ywc b j)↔a.data.getD i 0=b.data.getD j 0:=by
 simp only[Ywc,YAE]
 constructor
 ·intro h
  have:(a.data.getD i 0).toNat=(b.data.getD j 0).toNat:=by omega
  exact UInt8.toNat_inj.1 this
 simp_all
end Go.Abs
namespace Go.Abs.G3c
open Go Go.Abs
set_option maxRecDepth 100000
theorem Yvq{v4_0:ByteArray}{v4_1:List ByteArray}{v4_2:List (Int×List (Int×Int×ByteArray))}{out8:ByteArray}{clk:Int}{ents:List (Int×ByteArray×List (Int×Int×ByteArray))}{m2:Bool}{h4:List ByteArray}{h5:List (Int×List (Int×Int×ByteArray))}
  {y} (hd:(ents.map (·.1)).Nodup) (hl:ents.length<=maxEl)
  (hy:Yci loO (v4_0,v4_1,v4_2,out8,clk,ents,m2,ents.map (·.2.1),clk,clk,[],false,h4,h5)=some y):
  Yei loO (v4_0,v4_1,v4_2,out8,clk,ents,m2,[],h4,h5)=some y:=by
 show rngF Yeh (Yc0 loO) (Yci loO) (v4_0,v4_1,v4_2,out8,clk,ents,m2,[],clk,clk,[],false,h4,h5)=some y
 refine Yqb (Yvk (p:=Yeh) (t:=Yc0 loO) (r:=Yci loO) (fun sn=>(v4_0,v4_1,v4_2,out8,clk,ents,m2,sn.map (kAt (YAL #[]) ents),clk,clk,sn,false,h4,h5)) (B:=ents.map (·.1)) (c:=clk) hd (fun sn=>rfl) (fun sn b hb hn hsd hsB=> ?_) (fun sn hp=> ?_))
 ·obtain⟨e,he⟩:=Yvo hb
  have hlen:sn.length<ents.length:=by
   have h1:(sn++[b]).Nodup:=by
    rw[List.nodup_append]
    exact⟨hsd,by simp,fun x hx y hy=>by rw[Yz3]at hy;subst hy;intro e;subst e;exact hn hx⟩
   have:=List.Nodup.length_le_of_subset h1 (l₂:=ents.map (·.1)) (fun a ha=>by
    rcases List.mem_append.1 ha with ha|ha
    ·exact hsB a ha
    ·rw[Yz3]at ha;subst ha;exact hb)
   simp at this;omega
  simp only[Yc0,addI,List.getLast?_append,List.getLast?_singleton,Option.some_or,YAu,he,chk,decide_true,cond_true,YzZ,Yz8]
  have:decide (sn.length+1<=maxEl)=true:=by simp;omega
  simp only[this,cond_true,List.map_append,YzL,YzQ,kAt,he]
 ·have hperm:(sn.map (kAt (YAL #[]) ents)).Perm (ents.map (·.2.1)):=by
   rw[<-Yvp (d:=YAL #[]) hd];exact hp.map _
  rw[<-hy]
  show YAr (q35 loO (sn.map (kAt (YAL #[]) ents))) _=YAr (q35 loO (ents.map (·.2.1))) _
  have e1:q35 loO (sn.map (kAt (YAL #[]) ents))=q35 loO (ents.map (·.2.1)):=Yvn hperm
  rw[e1]
  have e2:=hperm.length_eq
  congr 1
  funext y152
  rw[e2]
def nodB:List Int->Bool
 | []=>true
 |a::r=> !(r.any fun b=>decide (b=a))&&nodB r
theorem Ymf: ∀{l:List Int},nodB l=true->l.Nodup
 | [],_=>List.nodup_nil
 |a::r,h=>by
  simp only[nodB,YAz,Bool.not_eq_true',List.any_eq_false,decide_eq_true_eq]at h
  exact List.nodup_cons.2 ⟨fun hm=>h.1 a hm rfl,Ymf h.2⟩
def j17C(lo:Lo):(ByteArray× (List ByteArray)× (List (Int× (List (Int×Int×ByteArray))))×ByteArray×Int× (List (Int×ByteArray× (List (Int×Int×ByteArray))))×Bool× (List ByteArray)× (List ByteArray)× (List (Int× (List (Int×Int×ByteArray)))))->Option ((Int×ByteArray× (List ByteArray)× (List (Int× (List (Int×Int×ByteArray)))))):=fun x=>match x with
 | (v4_0,v4_1,v4_2,out8,clk,ents,m2,keys,h4,h5)=>bif keys.isEmpty&& (nodB (ents.map (·.1))&&YAi ents.length maxEl)then Yci lo (v4_0,v4_1,v4_2,out8,clk,ents,m2,ents.map (·.2.1),clk,clk,[],false,h4,h5)else none
theorem Yvr{x y}(h:j17C loO x=some y):Yei loO x=some y:=by
 obtain⟨v4_0,v4_1,v4_2,out8,clk,ents,m2,keys,h4,h5⟩:=x
 unfold j17C at h
 obtain⟨e,hk⟩:=Yaa h
 simp only[YAz,List.isEmpty_iff]at e
 obtain⟨rfl,e1,e2⟩:=e
 exact Yvq (Ymf e1) (by simpa using e2) hk
def Yyc(lo:Lo)(a0_0:ByteArray)(a0_1:List ByteArray)(a0_2:List (Int× (List (Int×Int×ByteArray))))(b1_0:ByteArray)(b1_1:List ByteArray)(b1_2:List (Int× (List (Int×Int×ByteArray)))):Option (ByteArray× (List ByteArray)× (List (Int× (List (Int×Int×ByteArray))))×Int):=
 YAr (q11 lo a0_0 a0_1 a0_2) fun y77=>bif(!decide (y77=(0:Int)))then(some ((YAL #[]),([]:List ByteArray),([]:List (Int× (List (Int×Int×ByteArray)))),y77))else(YAr (q11 lo b1_0 b1_1 b1_2) fun y78=>bif(!decide (y78=(0:Int)))then(some ((YAL #[]),([]:List ByteArray),([]:List (Int× (List (Int×Int×ByteArray)))),y78))else(YAr (q19 lo a0_1) fun y79=>YAr (Yf7 lo (b1_1,(b1_1.length:Int),(0:Int),a0_0,a0_1,a0_2,b1_0,b1_1,b1_2,(YAL #[]),([]:List ByteArray),([]:List (Int× (List (Int×Int×ByteArray)))),a0_0,[],y79,[])) fun y81=>bif(decide ((16:Int)< (y81.2.2.2.2.2.2.2.2.2.2.2.1.length:Int)))then(some ((YAL #[]),([]:List ByteArray),([]:List (Int× (List (Int×Int×ByteArray)))),(3:Int)))else(YAr (Yf8 lo (y81.2.2.2.2.2.2.2.2.2.2.1,y81.2.2.1,(y81.2.2.1.length:Int),(0:Int),y81.2.2.2.1,y81.2.2.2.2.1,y81.2.2.2.2.2.1,y81.2.2.2.2.2.2.1,y81.2.2.2.2.2.2.2.1,y81.2.2.2.2.2.2.2.2.1,y81.2.2.2.2.2.2.2.2.2.1,(0:Int),([]:List (Int×ByteArray× (List (Int×Int×ByteArray)))),false,y81.2.2.2.2.2.2.2.2.2.2.2.1,y81.2.2.2.2.2.2.2.2.2.2.2.2)) fun y87=>alt2 y87 (fun y88=>some (y88.2.1,y88.2.2.1,y88.2.2.2,y88.1)) (fun y89=>YAr (j17C lo (y89.1,y89.2.1,y89.2.2.1,y89.2.2.2.1,y89.2.2.2.2.1,y89.2.2.2.2.2.1,y89.2.2.2.2.2.2.1,[],y89.2.2.2.2.2.2.2.1,y89.2.2.2.2.2.2.2.2)) fun y154=>some (y154.2.1,y154.2.2.1,y154.2.2.2,y154.1)))))
theorem Yc3{α β:Type}{a:Option α}{f g:α->Option β}{y:β}(h: ∀z,f z=some y->g z=some y):YAr a f=some y->YAr a g=some y:=by
 cases a with
 |none=>intro h;cases h
 |some z=>exact h z
theorem Ygm{β:Type}{b:Bool}{x x' z:Option β}{y:β}(h:x=some y->x'=some y):(bif b then z else x)=some y->(bif b then z else x')=some y:=by
 cases b with
 |true=>exact id
 |false=>exact h
theorem Ymg{a0 a1 a2 b0 b1 b2 y}:Yyc loO a0 a1 a2 b0 b1 b2=some y->q36 loO a0 a1 a2 b0 b1 b2=some y:=by
 unfold Yyc q36
 refine Yc3 fun _=>Ygm (Yc3 fun _=>Ygm (Yc3 fun _=>Yc3 fun _=>Ygm (Yc3 fun z=> ?_)))
 cases z with
 |inl z=>exact id
 |inr z=>
  simp only[alt2]
  intro h
  cases hj:j17C loO (z.1,z.2.1,z.2.2.1,z.2.2.2.1,z.2.2.2.2.1,z.2.2.2.2.2.1,z.2.2.2.2.2.2.1,[],z.2.2.2.2.2.2.2.1,z.2.2.2.2.2.2.2.2)with
  |none=>rw[hj]at h;cases h
  |some q=>rw[hj]at h;rw[Yvr hj];exact h
abbrev Vals:=List (Int×Int×ByteArray)
abbrev Rws:=List (Int×Vals)
noncomputable def E6:ByteArray×List ByteArray×Rws:=(q2 (loM 400)).getD ⟨YAL #[],[],[]⟩
noncomputable def E51:ByteArray×List ByteArray×Rws×Int:=(q18 (loM 400) E6.1 E6.2.1 E6.2.2 1).getD ⟨YAL #[],[],[],0⟩
noncomputable def E52:ByteArray×List ByteArray×Rws×Int:=(q18 (loM 400) E6.1 E6.2.1 E6.2.2 2).getD ⟨YAL #[],[],[],0⟩
noncomputable def E155:ByteArray×List ByteArray×Rws×Int:=(Yyc (loM 400) E6.1 E6.2.1 E6.2.2 E52.1 E52.2.1 E52.2.2.1).getD ⟨YAL #[],[],[],0⟩
noncomputable def E156:ByteArray×List ByteArray×Rws×Int:=(Yyc (loM 400) E51.1 E51.2.1 E51.2.2.1 E52.1 E52.2.1 E52.2.2.1).getD ⟨YAL #[],[],[],0⟩
theorem aw:q44 loO=some true:=by
 have e6:q2 loO=some E6:=(congrArg q2 (Ycj 400)).symm.trans (by kernel_rfl)
 have e51:q18 loO E6.1 E6.2.1 E6.2.2 1=some E51:=(congrArg (fun l=>q18 l E6.1 E6.2.1 E6.2.2 1) (Ycj 400)).symm.trans (by kernel_rfl)
 have e52:q18 loO E6.1 E6.2.1 E6.2.2 2=some E52:=(congrArg (fun l=>q18 l E6.1 E6.2.1 E6.2.2 2) (Ycj 400)).symm.trans (by kernel_rfl)
 have e155:q36 loO E6.1 E6.2.1 E6.2.2 E52.1 E52.2.1 E52.2.2.1=some E155:=Ymg ((congrArg (fun l=>Yyc l E6.1 E6.2.1 E6.2.2 E52.1 E52.2.1 E52.2.2.1) (Ycj 400)).symm.trans (by kernel_rfl))
 have e156:q36 loO E51.1 E51.2.1 E51.2.2.1 E52.1 E52.2.1 E52.2.2.1=some E156:=Ymg ((congrArg (fun l=>Yyc l E51.1 E51.2.1 E51.2.2.1 E52.1 E52.2.1 E52.2.2.1) (Ycj 400)).symm.trans (by kernel_rfl))
 unfold q44
 rw[e6,Ywh,e51,Ywh,e52,Ywh,e155,Ywh,e156,Ywh,<-Ycj 400]
 show(_:Option Bool)=some true
 kernel_rfl
end Go.Abs.G3c
namespace Go.Abs
def Ywf{R:Type}(f:Nat->Option R):Nat->Nat->R->R
 |0,_,r0=>r0
 |k+1,n,r0=>match f n with
  |some r=>r
  |none=>Ywf f k (n+1) r0
theorem Ymh{R:Type}{f g:Nat->Option R}{r0:R}: ∀(k n:Nat),(∀m,n<=m->m<n+k->f m=g m)->Ywf f k n r0=Ywf g k n r0
 |0,n,h=>rfl
 |k+1,n,h=>by
  simp only[Ywf]
  rw[h n (YAf _) (by omega),Ymh k (n+1) (fun m h1 h2=>h m (by omega) (by omega))]
theorem YaD{S R:Type}{step:S->Option (S⊕R)}(st:Nat->S)(f:Nat->Option R)(N:Nat)(r0:R){s:S}(hst:s=st 0)(he:step (st N)=some (.inr r0))
  (hs: ∀n,n<N->step (st n)=some (match f n with|some r=>.inr r|none=>.inl (st (n+1)))):YwM step s=some (Ywf f N 0 r0):=by
 subst hst
 have: ∀k n,n+k=N->YwM step (st n)=some (Ywf f k n r0):=by
  intro k
  induction k with
  |zero=>intro n h;rw[YcU];simp only[Nat.add_zero]at h;subst h;rw[he];rfl
  |succ k ih=>
   intro n h
   rw[YcU,hs n (by omega)]
   simp only[Ywf]
   grind
 simp_all
theorem Ygn{R:Type}{f:Nat->Option R}{r0:R}: ∀(k n:Nat),(∀m,n<=m->m<n+k->f m=none)->Ywf f k n r0=r0
 |0,n,h=>rfl
 |k+1,n,h=>by
  simp only[Ywf]
  rw[h n (YAf _) (by omega)]
  exact Ygn k (n+1) (fun m h1 h2=>h m (by omega) (by omega))
theorem Ymi{R R':Type}{f:Nat->Option R}(u:R->R'){r0:R}: ∀(k n:Nat),u (Ywf f k n r0)=Ywf (fun m=>(f m).map u) k n (u r0)
 |0,n=>rfl
 |k+1,n=>by
  simp only[Ywf]
  cases f n with
  |some r=>rfl
  |none=>exact Ymi u k (n+1)
def anyN(p:Nat->Bool):Nat->Nat->Bool
 |0,_=>false
 |k+1,n=>p n||anyN p k (n+1)
def idxR(p:Nat->Bool)(k n:Nat):Int:=match Ywf (R:=Int⊕Unit) (fun m=>bif p m then some (.inl (m:Int))else none) k n (.inr ())with
 | .inl i=>i
 | .inr _=> -1
theorem Ymj(p:Nat->Bool): ∀k n,decide (0<=idxR p k n)=anyN p k n
 |0,n=>rfl
 |k+1,n=>by
  have:=Ymj p k (n+1)
  unfold idxR at this⊢
  simp only[Ywf,anyN]
  grind
theorem Ygo{p:Nat->Bool}{b:Bool}: ∀k n,(match Ywf (R:=Bool⊕Unit) (fun m=>bif p m then some (.inl b)else none) k n (.inr ())with| .inl x=>x| .inr _=> !b)=(bif anyN p k n then b else !b)
 |0,n=>rfl
 |k+1,n=>by
  simp only[Ywf,anyN]
  cases p n with
  |true=>rfl
  |false=>simpa using Ygo (p:=p) (b:=b) k (n+1)
theorem Yc4{R:Type}{f:Nat->Option R}{r0:R}: ∀(k n:Nat),(∃m r,n<=m/\m<n+k/\f m=some r/\Ywf f k n r0=r)\/(Ywf f k n r0=r0/\ ∀m,n<=m->m<n+k->f m=none)
 |0,n=>.inr ⟨rfl,fun m h1 h2=>by omega⟩
 |k+1,n=>by
  simp only[Ywf]
  cases hf:f n with
  |some r=>grind
  |none=>
   rcases Yc4 (f:=f) (r0:=r0) k (n+1)with⟨m,r,h1,h2,h3,h4⟩| ⟨h1,h2⟩
   ·grind
   grind
theorem Ymk{α:Type}{f:α->Nat}{l:List α}{a:α}(h:a∈l):f a<=(l.map f).sum:=by
 induction l with
 |nil=>cases h
 |cons b r ih=>
  grind
theorem Yml{α:Type}{f:α->Nat}{l:List α}(h: ∀a∈l,1<=f a):l.length<=(l.map f).sum:=by
 induction l with
 |nil=>simp
 |cons b r ih=>
  grind
theorem Ymm(s:ByteArray)(i:Int):0<=Ywc s i/\Ywc s i<256:=by
 unfold Ywc
 have:=(s.data.getD i.toNat 0).toNat_lt
 omega
theorem Yby{α:Type}{l:List α}{n:Nat}{d:α}(h:n<l.length):l.getD n d∈l:=by
 simp_all
theorem Yvs{a b:ByteArray}(hs:a.size=b.size)(h: ∀n:Nat,n<a.size->Ywc a n=Ywc b n):a=b:=by
 have:a.data=b.data:=by
  apply Array.ext hs
  intro i h1 h2
  have:=h i h1
  rw[Yvj]at this
  unfold Array.getD at this
  rw[dif_pos h1,dif_pos h2]at this
  trivial
 cases a;simp_all
theorem Yvt{α:Type}{a b:List α}{d:α}(hs:a.length=b.length)(h: ∀n,n<a.length->a.getD n d=b.getD n d):a=b:=by
 apply List.ext_getElem hs
 simp_all
theorem Ymn{α:Type}{l:List α}{n:Nat}{d:α}(h:n<l.length):l.take (n+1)=l.take n++[l.getD n d]:=by
 simp_all
end Go.Abs
namespace Go.Abs.G3c
open Go Go.Abs
noncomputable section
def lt(c:Int):Bool:=decide (97<=c)&&decide (c<=122)||decide (65<=c)&&decide (c<=90)||decide (c=95)
theorem Ymo(c:Int):q45 loO c=some (lt c):=by
 unfold q45 lt
 by_cases h1:(97:Int)<=c<;>by_cases h2:c<=(122:Int)<;>by_cases h3:(65:Int)<=c<;>by_cases h4:c<=(90:Int)<;>simp[h1,h2,h3,h4]
def fN(s:ByteArray)(n:Nat):Option (Bool⊕Unit):=
 bif lt (Ywc s n)then none else bif decide (n=0)then some (.inl false)else bif decide (Ywc s n<48)then some (.inl false)else bif decide ((57:Int)<Ywc s n)then some (.inl false)else none
theorem Yvu(s:ByteArray)(hs:s.size<=24):YfY loO (s,(s.size:Int),0)=some (Ywf (fN s) s.size 0 (.inr ())):=by
 refine YaD (fun n=>(s,(s.size:Int),(n:Int))) (fN s) s.size (.inr ()) rfl ?_ (fun n hn=> ?_)
 ·simp[Yec]
 ·have e1:decide ((n:Int)< (s.size:Int))=true:=by simp;omega
  have e2:YAM .i64 ((n:Int)+1)=((n+1:Nat):Int):=by rw[wr6 (by omega) (by omega)];omega
  simp only[Yec,e1,cond_true,e2]
  rw[chkT _ (by omega)]
  unfold fN lt
  have e3:decide ((n:Int)=0)=decide (n=0):=by simp
  simp only[e3]
  generalize Ywc s n=c
  by_cases h1:(97:Int)<=c<;>by_cases h2:c<=(122:Int)<;>by_cases h3:(65:Int)<=c<;>by_cases h4:c<=(90:Int)<;>by_cases h5:c=95<;>by_cases h6:n=0<;>by_cases h7:c<48<;>by_cases h8:(57:Int)<c<;>simp[h1,h2,h3,h4,h5,h6,h7,h8]
def nul:ByteArray:=YAL #[110,117,108,108]
def Yxg(s:ByteArray):Bool:=
 bif decide (s=YAL #[])then false else bif decide ((24:Int)< (s.size:Int))then false else bif decide (s=nul)then false else
  match Ywf (fN s) s.size 0 (.inr ())with| .inl b=>b| .inr _=>true
theorem Ymp(s:ByteArray):q3 loO s=some (Yxg s):=by
 unfold q3 Yxg nul
 by_cases h1:s=YAL #[]
 ·simp[h1]
 ·by_cases h2:(24:Int)< (s.size:Int)
  ·simp[h1,h2]
  ·by_cases h3:s=YAL #[110,117,108,108]
   ·simp[h1,h2,h3]
   ·simp only[h1,h2,h3,decide_false,cond_false]
    rw[Yvu s (by omega)]
    simp only[Ywh]
    cases Ywf (fN s) s.size 0 (.inr ())<;>rfl
def fR(s:ByteArray)(n:Nat):Option (Bool⊕Unit):=
 bif lt (Ywc s n)then none else bif decide (Ywc s n<48)then some (.inl false)else bif decide ((57:Int)<Ywc s n)then some (.inl false)else none
theorem Yvv(s:ByteArray)(hs:s.size<=24):Yf9 loO (s,0)=some (Ywf (fR s) s.size 0 (.inr ())):=by
 refine YaD (fun n=>(s,(n:Int))) (fR s) s.size (.inr ()) rfl ?_ (fun n hn=> ?_)
 ·simp[Yek]
 ·have e1:decide ((n:Int)< (s.size:Int))=true:=by simp;omega
  have e2:YAM .i64 ((n:Int)+1)=((n+1:Nat):Int):=by rw[wr6 (by omega) (by omega)];omega
  simp only[Yek,e1,cond_true,e2,Ymo,Ywh]
  rw[chkT _ (by omega)]
  unfold fR
  generalize Ywc s n=c
  have h0:(0:Int)<=(n:Int)/\ (n:Int)< (s.size:Int):=by omega
  cases lt c<;>by_cases h7:c<48<;>by_cases h8:(57:Int)<c<;>simp[h7,h8,chkT,h0]
theorem YzF(s:ByteArray):s.size=0↔s=YAL #[]:=by
 constructor
 ·intro h
  have:s.data= #[]:=Array.eq_empty_of_size_eq_zero h
  cases s;simp_all
 ·intro h;subst h;rfl
theorem Ymq(s:ByteArray):q46 loO s=some (Yxg s):=by
 unfold q46 Yxg nul
 by_cases h1:s=YAL #[]
 ·subst h1;rfl
 ·have h1':s.size≠0:=fun h=>h1 ((YzF s).1 h)
  by_cases h2:(24:Int)< (s.size:Int)
  ·have: ¬ (s.size:Int)=0:=by omega
   simp[h1,h2,this]
  ·have h0: ¬ (s.size:Int)=0:=by omega
   simp only[h1,h2,h0,decide_false,cond_false,Ymo,Ywh]
   rw[chkT _ (by omega)]
   have hz:Ywc s 0=Ywc s ((0:Nat):Int):=rfl
   have hsz:s.size=(s.size-1)+1:=by omega
   cases hl:lt (Ywc s 0)with
   |false=>
    have:Ywf (fN s) s.size 0 (.inr ())= .inl false:=by
     rw[hsz];simp only[Ywf,fN,<-hz,hl];rfl
    rw[this]
    by_cases h3:s=YAL #[110,117,108,108]<;>simp[h3]
   |true=>
    have:Ywf (fN s) s.size 0 (.inr ())=Ywf (fR s) s.size 0 (.inr ()):=Ymh _ _ (fun m _ _=>by
     unfold fN fR
     by_cases hm:m=0
     ·subst hm;rw[<-hz,hl];rfl
     ·simp[hm])
    rw[this,Yvv s (by omega)]
    by_cases h3:s=YAL #[110,117,108,108]
    ·simp[h3]
    ·simp only[h3,decide_false,cond_false,YAA,Ywh]
     cases Ywf (fR s) s.size 0 (.inr ())<;>rfl
def idxI(l:List ByteArray)(v:ByteArray):Int:=idxR (fun m=>decide (v=l.getD m (YAL #[]))) l.length 0
theorem Yvw(l:List ByteArray)(v:ByteArray)(hl:l.length<=maxEl):q4 loO l v=some (idxI l v):=by
 have hm:maxEl=1073741824:=rfl
 have:YfZ loO (l,v,(l.length:Int),0)=some (Ywf (R:=Int⊕Unit) (fun m=>bif decide (v=l.getD m (YAL #[]))then some (.inl (m:Int))else none) l.length 0 (.inr ())):=by
  refine YaD (fun n=>(l,v,(l.length:Int),(n:Int))) _ l.length (Sum.inr ()) rfl ?_ (fun n hn=> ?_)
  ·simp[Yed]
  ·have e1:decide ((n:Int)< (l.length:Int))=true:=by simp;omega
   have e2:YAM .i64 ((n:Int)+1)=((n+1:Nat):Int):=by rw[wr6 (by omega) (by omega)];omega
   simp only[Yed,e1,cond_true,e2,YAE]
   rw[chkT _ (by omega)]
   cases decide (v=l.getD n (YAL #[]))<;>rfl
 unfold q4 idxI idxR
 rw[this,Ywh]
 cases Ywf (R:=Int⊕Unit) (fun m=>bif decide (v=l.getD m (YAL #[]))then some (.inl (m:Int))else none) l.length 0 (.inr ())<;>rfl
theorem Yvx(l:List ByteArray)(v:ByteArray)(hl:l.length<=maxEl):q5 loO l v=some (decide (0<=idxI l v)):=by
 unfold q5;rw[Yvw l v hl];rfl
theorem Yvy(l:List ByteArray)(v:ByteArray)(hl:l.length<=maxEl):q47 loO l v=some (idxI l v):=by
 have hm:maxEl=1073741824:=rfl
 have:Yga loO (l,v,0)=some (Ywf (R:=Int⊕Unit) (fun m=>bif decide (v=l.getD m (YAL #[]))then some (.inl (m:Int))else none) l.length 0 (.inr ())):=by
  refine YaD (fun n=>(l,v,(n:Int))) _ l.length (Sum.inr ()) rfl ?_ (fun n hn=> ?_)
  ·simp[Yel]
  ·have e1:decide ((n:Int)< (l.length:Int))=true:=by simp;omega
   have e2:YAM .i64 ((n:Int)+1)=((n+1:Nat):Int):=by rw[wr6 (by omega) (by omega)];omega
   have e3:decide (l.getD n (YAL #[])=v)=decide (v=l.getD n (YAL #[])):=by simp only[eq_comm]
   simp only[Yel,e1,cond_true,e2,YAE,e3]
   rw[chkT _ (by omega)]
   cases decide (v=l.getD n (YAL #[]))<;>rfl
 unfold q47 idxI idxR
 rw[this,Ywh]
 cases Ywf (R:=Int⊕Unit) (fun m=>bif decide (v=l.getD m (YAL #[]))then some (.inl (m:Int))else none) l.length 0 (.inr ())<;>rfl
def vB(v:Int×Int×ByteArray):Bool:=(q6 loO v.1 v.2.1 v.2.2).getD false
theorem Yev(a b:Int)(c:ByteArray):q6 loO a b c=some (vB (a,b,c)):=by
 unfold vB q6
 by_cases h0:a=0<;>by_cases h1:a=1<;>by_cases h2:a=2<;>by_cases h3:a=3<;>by_cases h4:b=0<;>by_cases h5:1<=b<;>simp[h0,h1,h2,h3,h4,h5]
theorem Ymr(a b:Int)(c:ByteArray):q49 loO a b c=some (vB (a,b,c)):=Yev a b c
abbrev zV:Int×Int×ByteArray:=(0,0,YAL #[])
def vsB(l:Vals):Bool:= !anyN (fun m=> !vB (l.getD m zV)) l.length 0
theorem Yvz(l:Vals)(hl:l.length<=maxEl):q10 loO l=some (vsB l):=by
 have hm:maxEl=1073741824:=rfl
 have:Yf0 loO (l,(l.length:Int),0)=some (Ywf (R:=Int⊕Unit) (fun m=>bif !vB (l.getD m zV)then some (.inl (m:Int))else none) l.length 0 (.inr ())):=by
  refine YaD (fun n=>(l,(l.length:Int),(n:Int))) _ l.length (Sum.inr ()) rfl ?_ (fun n hn=> ?_)
  ·simp[Yee]
  ·have e1:decide ((n:Int)< (l.length:Int))=true:=by simp;omega
   have e2:YAM .i64 ((n:Int)+1)=((n+1:Nat):Int):=by rw[wr6 (by omega) (by omega)];omega
   simp only[Yee,e1,cond_true,e2,YAE,q7,Yev,Ywh]
   rw[chkT _ (by omega)]
   cases vB (l.getD n zV)<;>rfl
 have h2:q8 loO l=some (idxR (fun m=> !vB (l.getD m zV)) l.length 0):=by
  unfold q8 idxR
  rw[this,Ywh]
  cases Ywf (R:=Int⊕Unit) (fun m=>bif !vB (l.getD m zV)then some (.inl (m:Int))else none) l.length 0 (.inr ())<;>rfl
 unfold q10 q9 vsB
 rw[h2,Ywh,Ywh,Ymj]
theorem YvA(l:Vals)(hl:l.length<=maxEl):q50 loO l=some (vsB l):=by
 have hm:maxEl=1073741824:=rfl
 have:Ygc loO (l,0)=some (Ywf (R:=Bool⊕Unit) (fun m=>bif !vB (l.getD m zV)then some (.inl false)else none) l.length 0 (.inr ())):=by
  refine YaD (fun n=>(l,(n:Int))) _ l.length (Sum.inr ()) rfl ?_ (fun n hn=> ?_)
  ·simp[Yen]
  ·have e1:decide ((n:Int)< (l.length:Int))=true:=by simp;omega
   have e2:YAM .i64 ((n:Int)+1)=((n+1:Nat):Int):=by rw[wr6 (by omega) (by omega)];omega
   simp only[Yen,e1,cond_true,e2,YAE,Ymr,Ywh]
   rw[chkT _ (by omega)]
   cases vB (l.getD n zV)<;>rfl
 unfold q50 vsB
 rw[this,Ywh]
 have h3:=Ygo (p:=fun m=> !vB (l.getD m zV)) (b:=false) l.length 0
 cases hs:Ywf (R:=Bool⊕Unit) (fun m=>bif !vB (l.getD m zV)then some (.inl false)else none) l.length 0 (.inr ())with
 |inl b=>rw[hs]at h3;simp only[alt2];rw[show b=_ from h3];cases anyN (fun m=> !vB (l.getD m zV)) l.length 0<;>rfl
 |inr u=>rw[hs]at h3;simp only[alt2];rw[show true=_ from h3];cases anyN (fun m=> !vB (l.getD m zV)) l.length 0<;>rfl
def fA(l:List ByteArray)(n:Nat):Bool:= !Yxg (l.getD n (YAL #[]))||decide (0<=idxI (l.take n) (l.getD n (YAL #[])))
abbrev zR:Int×Vals:=(0,[])
def YwO(rows:Rws):Nat->Int
 |0=>0
 |n+1=>(rows.getD n zR).1
def fV(attrs:List ByteArray)(rows:Rws)(n:Nat):Option (Int⊕Unit):=
 bif decide ((rows.getD n zR).1<=YwO rows n)then some (.inl 1)else bif !decide (((rows.getD n zR).2.length:Int)=(attrs.length:Int))then some (.inl 6)else bif !vsB (rows.getD n zR).2 then some (.inl 1)else none
def Yw2(nm:ByteArray)(attrs:List ByteArray)(rows:Rws):Int:=
 bif !Yxg nm then 1 else bif decide ((16:Int)< (attrs.length:Int))then 3 else bif decide ((1000:Int)< (rows.length:Int))then 3 else bif anyN (fA attrs) attrs.length 0 then 1 else
  match Ywf (fV attrs rows) rows.length 0 (.inr ())with| .inl i=>i| .inr _=>0
theorem YyV(nm:ByteArray)(attrs:List ByteArray)(rows:Rws):q11 loO nm attrs rows=some (Yw2 nm attrs rows):=by
 have hm:maxEl=1073741824:=rfl
 unfold q11 Yw2
 rw[Ymp,Ywh]
 cases Yxg nm with
 |false=>rfl
 |true=>
  by_cases h1:(16:Int)< (attrs.length:Int)
  ·simp[h1]
  ·by_cases h2:(1000:Int)< (rows.length:Int)
   ·simp[h1,h2]
   ·simp only[h1,h2,decide_false,cond_false,YAA]
    have e20:Yf1 loO (attrs,(attrs.length:Int),0,nm,attrs,rows)=some (Ywf (R:=Int⊕ (ByteArray×List ByteArray×Rws)) (fun m=>bif fA attrs m then some (.inl 1)else none) attrs.length 0 (.inr (nm,attrs,rows))):=by
     refine YaD (fun n=>(attrs,(attrs.length:Int),(n:Int),nm,attrs,rows)) _ attrs.length _ rfl ?_ (fun n hn=> ?_)
     ·simp[Yef]
     ·have e1:decide ((n:Int)< (attrs.length:Int))=true:=by simp;omega
      have e2:YAM .i64 ((n:Int)+1)=((n+1:Nat):Int):=by rw[wr6 (by omega) (by omega)];omega
      simp only[Yef,e1,cond_true,e2,YAE,Ymp,Ywh,List.drop_zero]
      rw[chkT _ (by omega),chkT _ (by omega),Yvx _ _ (by simp;omega),Ywh]
      unfold fA
      cases Yxg (attrs.getD n (YAL #[]))<;>cases decide (0<=idxI (attrs.take n) (attrs.getD n (YAL #[])))<;>rfl
    rw[e20,Ywh]
    have hsc: ∀k n,Ywf (R:=Int⊕ (ByteArray×List ByteArray×Rws)) (fun m=>bif fA attrs m then some (.inl 1)else none) k n (.inr (nm,attrs,rows))=bif anyN (fA attrs) k n then .inl 1 else .inr (nm,attrs,rows):=by
     intro k
     induction k with
     |zero=>intro n;rfl
     |succ k ih=>intro n;simp only[Ywf,anyN];cases fA attrs n with
      |true=>rfl
      |false=>simpa using ih (n+1)
    rw[hsc]
    cases anyN (fA attrs) attrs.length 0 with
    |true=>rfl
    |false=>
     simp only[cond_false,alt2]
     have e3:Yf2 loO (0,rows,(rows.length:Int),0,nm,attrs,rows)=some (Ywf (fV attrs rows) rows.length 0 (.inr ())):=by
      refine YaD (fun n=>(YwO rows n,rows,(rows.length:Int),(n:Int),nm,attrs,rows)) _ rows.length _ rfl ?_ (fun n hn=> ?_)
      ·simp[Yeg]
      ·have e1:decide ((n:Int)< (rows.length:Int))=true:=by simp;omega
       have e2:YAM .i64 ((n:Int)+1)=((n+1:Nat):Int):=by rw[wr6 (by omega) (by omega)];omega
       simp only[Yeg,e1,cond_true,e2,YAE]
       rw[chkT _ (by omega)]
       unfold fV
       by_cases g1:(rows.getD n zR).1<=YwO rows n
       ·simp only[g1,decide_true,cond_true]
       ·by_cases g2:((rows.getD n zR).2.length:Int)=(attrs.length:Int)
        ·simp only[g1,g2,decide_false,decide_true,cond_false,YAA]
         rw[Yvz _ (show(rows.getD n zR).2.length<=maxEl by omega),Ywh]
         cases vsB (rows.getD n zR).2<;>rfl
        ·simp only[g1,g2,decide_false,cond_false,YAB,cond_true]
     rw[e3,Ywh]
     cases Ywf (fV attrs rows) rows.length 0 (.inr ())<;>rfl
theorem Yzt(nm:ByteArray)(attrs:List ByteArray)(rows:Rws):q51 loO nm attrs rows=some (Yw2 nm attrs rows):=by
 have hm:maxEl=1073741824:=rfl
 unfold q51 Yw2
 rw[Ymq,Ywh]
 cases Yxg nm with
 |false=>rfl
 |true=>
  by_cases h1:(16:Int)< (attrs.length:Int)
  ·simp[h1]
  ·by_cases h2:(1000:Int)< (rows.length:Int)
   ·simp[h1,h2]
   ·simp only[h1,h2,decide_false,cond_false,YAA]
    have e20:Ygb loO (attrs,0)=some (Ywf (R:=Bool⊕Unit) (fun m=>bif fA attrs m then some (.inl false)else none) attrs.length 0 (.inr ())):=by
     refine YaD (fun n=>(attrs,(n:Int))) _ attrs.length _ rfl ?_ (fun n hn=> ?_)
     ·simp[Yem]
     ·have e1:decide ((n:Int)< (attrs.length:Int))=true:=by simp;omega
      have e2:YAM .i64 ((n:Int)+1)=((n+1:Nat):Int):=by rw[wr6 (by omega) (by omega)];omega
      simp only[Yem,e1,cond_true,e2,YAE,Ymq,Ywh,List.drop_zero]
      rw[chkT _ (by omega),chkT _ (by omega),chkT _ (by omega),Yvy _ _ (by simp;omega),Ywh]
      unfold fA
      cases Yxg (attrs.getD n (YAL #[]))<;>cases decide (0<=idxI (attrs.take n) (attrs.getD n (YAL #[])))<;>rfl
    have eN:q48 loO attrs=some (!anyN (fA attrs) attrs.length 0):=by
     unfold q48
     rw[e20,Ywh]
     have h3:=Ygo (p:=fA attrs) (b:=false) attrs.length 0
     cases hs:Ywf (R:=Bool⊕Unit) (fun m=>bif fA attrs m then some (.inl false)else none) attrs.length 0 (.inr ())with
     |inl b=>rw[hs]at h3;simp only[alt2];rw[show b=_ from h3];cases anyN (fA attrs) attrs.length 0<;>rfl
     |inr u=>rw[hs]at h3;simp only[alt2];rw[show true=_ from h3];cases anyN (fA attrs) attrs.length 0<;>rfl
    rw[eN,Ywh]
    cases anyN (fA attrs) attrs.length 0 with
    |true=>rfl
    |false=>
     simp only[cond_false,YAB,YAA]
     have e3:Ygd loO (0,0,nm,attrs,rows)=some (Ywf (fV attrs rows) rows.length 0 (.inr ())):=by
      refine YaD (fun n=>(YwO rows n,(n:Int),nm,attrs,rows)) _ rows.length _ rfl ?_ (fun n hn=> ?_)
      ·simp[Yeo]
      ·have e1:decide ((n:Int)< (rows.length:Int))=true:=by simp;omega
       have e2:YAM .i64 ((n:Int)+1)=((n+1:Nat):Int):=by rw[wr6 (by omega) (by omega)];omega
       simp only[Yeo,e1,cond_true,e2,YAE]
       rw[chkT _ (by omega)]
       unfold fV
       by_cases g1:(rows.getD n zR).1<=YwO rows n
       ·simp only[g1,decide_true,cond_true]
       ·by_cases g2:((rows.getD n zR).2.length:Int)=(attrs.length:Int)
        ·simp only[g1,g2,decide_false,decide_true,cond_false,YAA]
         rw[YvA _ (show(rows.getD n zR).2.length<=maxEl by omega),Ywh]
         cases vsB (rows.getD n zR).2<;>rfl
        ·simp only[g1,g2,decide_false,cond_false,YAB,cond_true]
     rw[e3,Ywh]
     cases Ywf (fV attrs rows) rows.length 0 (.inr ())<;>rfl
end
end Go.Abs.G3c
namespace Go.Abs.G3c
open Go Go.Abs
noncomputable section
def SzV(l:Vals):Prop:=l.length<=maxEl/\ ∀v∈l,v.2.2.size<=maxEl
def SzR(l:Rws):Prop:=l.length<=maxEl/\ ∀r∈l,SzV r.2
theorem szV{l:Vals}(h:(Ty.l (cs [I,I,.s])).sz l<=1048576):SzV l:=by
 have hm:maxEl=1073741824:=rfl
 have e:(Ty.l (cs [I,I,.s])).sz l=(l.map fun v=>1+(1+((v.2.2.size+1)+0))).sum+1:=rfl
 rw[e]at h
 refine⟨?_,fun v hv=> ?_⟩
 ·have:=Yml (f:=fun v:Int×Int×ByteArray=>1+(1+((v.2.2.size+1)+0))) (l:=l) (fun a _=>by omega)
  omega
 ·have:=Ymk (f:=fun v:Int×Int×ByteArray=>1+(1+((v.2.2.size+1)+0))) hv
  omega
theorem szR{l:Rws}(h:(Ty.l (cs [I,.l (cs [I,I,.s])])).sz l<=1048576):SzR l:=by
 have hm:maxEl=1073741824:=rfl
 have e:(Ty.l (cs [I,.l (cs [I,I,.s])])).sz l=(l.map fun r=>1+((Ty.l (cs [I,I,.s])).sz r.2+0)).sum+1:=rfl
 rw[e]at h
 refine⟨?_,fun r hr=> ?_⟩
 ·have:=Yml (f:=fun r:Int×Vals=>1+((Ty.l (cs [I,I,.s])).sz r.2+0)) (l:=l) (fun a _=>by omega)
  omega
 ·have:=Ymk (f:=fun r:Int×Vals=>1+((Ty.l (cs [I,I,.s])).sz r.2+0)) hr
  exact szV (by omega)
def sg(a b:Int):Int:=bif decide (a<b)then-1 else bif decide (b<a)then 1 else 0
theorem Yew(a b:Int):q57 loO a b=some (sg a b):=by
 unfold q57 sg
 by_cases h1:a<b<;>by_cases h2:b<a<;>simp[h1,h2]
theorem sg_zero{a b:Int}:sg a b=0↔a=b:=by
 unfold sg
 by_cases h1:a<b
 ·simp[h1];omega
 ·by_cases h2:b<a
  ·simp[h1,h2];omega
  ·simp[h1,h2];omega
def fS(a b:ByteArray)(n:Nat):Option (Int⊕ (ByteArray×ByteArray)):=bif !decide (Ywc a n=Ywc b n)then some (.inl (sg (Ywc a n) (Ywc b n)))else none
def cmpS(a b:ByteArray):Int:=match Ywf (fS a b) (min a.size b.size) 0 (.inr (a,b))with
 | .inl i=>i
 | .inr _=>sg a.size b.size
theorem YvB(a b:ByteArray)(ha:a.size<=maxEl)(hb:b.size<=maxEl):q58 loO a b=some (cmpS a b):=by
 have hm:maxEl=1073741824:=rfl
 have hL:Yge loO (a,b,0)=some (Ywf (fS a b) (min a.size b.size) 0 (.inr (a,b))):=by
  refine YaD (fun n=>(a,b,(n:Int))) _ (min a.size b.size) _ rfl ?_ (fun n hn=> ?_)
  ·rcases Nat.le_total a.size b.size with h|h
   ·rw[Nat.min_eq_left h];simp[Yc1]
   ·rw[Nat.min_eq_right h]
    have e:decide ((b.size:Int)< (b.size:Int))=false:=by simp
    simp only[Yc1,e,cond_false]
    cases decide ((b.size:Int)< (a.size:Int))<;>rfl
  ·have e1:decide ((n:Int)< (a.size:Int))=true:=by simp;omega
   have e1':decide ((n:Int)< (b.size:Int))=true:=by simp;omega
   have e2:YAM .i64 ((n:Int)+1)=((n+1:Nat):Int):=by rw[wr6 (by omega) (by omega)];omega
   have r1:=Ymm a n
   have r2:=Ymm b n
   simp only[Yc1,e1,e1',cond_true,e2,Yew,Ywh,wr6 (show-9223372036854775808<=Ywc a n by omega) (by omega),wr6 (show-9223372036854775808<=Ywc b n by omega) (by omega)]
   rw[chkT _ (by omega),chkT _ (by omega),chkT _ (by omega),chkT _ (by omega)]
   unfold fS
   cases decide (Ywc a n=Ywc b n)<;>rfl
 unfold q58 cmpS
 rw[hL,Ywh]
 rcases Yc4 (f:=fS a b) (r0:=.inr (a,b)) (min a.size b.size) 0 with⟨m,r,h1,h2,h3,h4⟩| ⟨h1,h2⟩
 ·rw[h4]
  unfold fS at h3
  cases hd:decide (Ywc a m=Ywc b m)with
  |true=>rw[hd]at h3;cases h3
  |false=>rw[hd]at h3;injection h3 with h3;subst h3;rfl
 ·rw[h1];simp only[alt2,Yew,Ywh]
theorem YvC{a b:ByteArray}:cmpS a b=0↔a=b:=by
 unfold cmpS
 rcases Yc4 (f:=fS a b) (r0:=.inr (a,b)) (min a.size b.size) 0 with⟨m,r,h1,h2,h3,h4⟩| ⟨h1,h2⟩
 ·rw[h4]
  unfold fS at h3
  by_cases hd:Ywc a m=Ywc b m
  ·simp[hd]at h3
  ·simp[hd]at h3
   subst h3
   simp only
   rw[sg_zero]
   exact⟨fun h=>absurd h hd,fun h=>by subst h;exact absurd rfl hd⟩
 ·rw[h1]
  simp only[sg_zero]
  constructor
  ·intro h
   have hs:a.size=b.size:=by omega
   refine Yvs hs (fun n hn=> ?_)
   have:=h2 n (by omega) (by omega)
   unfold fS at this
   by_cases hd:Ywc a n=Ywc b n
   ·exact hd
   ·simp[hd]at this
  ·intro h;rw[h]
def cmpV(v w:Int×Int×ByteArray):Int:=bif !decide (sg v.1 w.1=0)then sg v.1 w.1 else bif !decide (sg v.2.1 w.2.1=0)then sg v.2.1 w.2.1 else cmpS v.2.2 w.2.2
theorem YvD(v w:Int×Int×ByteArray)(hv:v.2.2.size<=maxEl)(hw:w.2.2.size<=maxEl):q59 loO v.1 v.2.1 v.2.2 w.1 w.2.1 w.2.2=some (cmpV v w):=by
 unfold q59 cmpV
 simp only[Yew,Ywh,YvB _ _ hv hw]
 cases decide (sg v.1 w.1=0)<;>cases decide (sg v.2.1 w.2.1=0)<;>rfl
theorem cmpV_zero{v w:Int×Int×ByteArray}:cmpV v w=0↔v=w:=by
 obtain⟨a,b,c⟩:=v
 obtain⟨a',b',c'⟩:=w
 unfold cmpV
 by_cases h1:sg a a'=0
 ·by_cases h2:sg b b'=0
  ·simp only[h1,h2,decide_true,YAA,cond_false,YvC]
   rw[sg_zero]at h1 h2
   simp[h1,h2]
  ·simp only[h1,h2,decide_true,decide_false,YAA,YAB,cond_false,cond_true]
   refine⟨fun h=>h.elim,fun h=> ?_⟩
   injection h with _ h;injection h with h _
   exact h2 (sg_zero.2 h)
 ·simp only[h1,decide_false,YAB,cond_true]
  refine⟨fun h=>h.elim,fun h=> ?_⟩
  injection h with h _
  exact h1 (sg_zero.2 h)
def fL(a b:Vals)(n:Nat):Option (Int⊕ (Vals×Vals)):=bif !decide (cmpV (a.getD n zV) (b.getD n zV)=0)then some (.inl (cmpV (a.getD n zV) (b.getD n zV)))else none
def cmpL(a b:Vals):Int:=match Ywf (fL a b) (min a.length b.length) 0 (.inr (a,b))with
 | .inl i=>i
 | .inr _=>sg a.length b.length
theorem YvE(a b:Vals)(ha:SzV a)(hb:SzV b):q60 loO a b=some (cmpL a b):=by
 have hm:maxEl=1073741824:=rfl
 have hal:=ha.1
 have hbl:=hb.1
 have hL:Ygf loO (a,b,0)=some (Ywf (fL a b) (min a.length b.length) 0 (.inr (a,b))):=by
  refine YaD (fun n=>(a,b,(n:Int))) _ (min a.length b.length) _ rfl ?_ (fun n hn=> ?_)
  ·rcases Nat.le_total a.length b.length with h|h
   ·rw[Nat.min_eq_left h];simp[Yc2]
   ·rw[Nat.min_eq_right h]
    have e:decide ((b.length:Int)< (b.length:Int))=false:=by simp
    simp only[Yc2,e,cond_false]
    cases decide ((b.length:Int)< (a.length:Int))<;>rfl
  ·have e1:decide ((n:Int)< (a.length:Int))=true:=by simp;omega
   have e1':decide ((n:Int)< (b.length:Int))=true:=by simp;omega
   have e2:YAM .i64 ((n:Int)+1)=((n+1:Nat):Int):=by rw[wr6 (by omega) (by omega)];omega
   have q1:=ha.2 (a.getD n zV) (Yby (by omega))
   have q2:=hb.2 (b.getD n zV) (Yby (by omega))
   simp only[Yc2,e1,e1',cond_true,e2,YAE]
   rw[chkT _ (by omega),chkT _ (by omega),YvD _ _ q1 q2,Ywh]
   unfold fL
   cases decide (cmpV (a.getD n zV) (b.getD n zV)=0)<;>rfl
 unfold q60 cmpL
 rw[hL,Ywh]
 rcases Yc4 (f:=fL a b) (r0:=.inr (a,b)) (min a.length b.length) 0 with⟨m,r,h1,h2,h3,h4⟩| ⟨h1,h2⟩
 ·rw[h4]
  unfold fL at h3
  cases hd:decide (cmpV (a.getD m zV) (b.getD m zV)=0)with
  |true=>rw[hd]at h3;cases h3
  |false=>rw[hd]at h3;injection h3 with h3;subst h3;rfl
 ·rw[h1];simp only[alt2,Yew,Ywh]
theorem YvF{a b:Vals}:cmpL a b=0↔a=b:=by
 unfold cmpL
 rcases Yc4 (f:=fL a b) (r0:=.inr (a,b)) (min a.length b.length) 0 with⟨m,r,h1,h2,h3,h4⟩| ⟨h1,h2⟩
 ·rw[h4]
  unfold fL at h3
  by_cases hd:cmpV (a.getD m zV) (b.getD m zV)=0
  ·rw[decide_eq_true hd]at h3;cases h3
  ·rw[decide_eq_false hd]at h3;injection h3 with h3
   subst h3
   simp only
   exact⟨fun h=>absurd h hd,fun h=>by subst h;exact absurd (cmpV_zero.2 rfl) hd⟩
 ·rw[h1]
  simp only[sg_zero]
  constructor
  ·intro h
   have hs:a.length=b.length:=by omega
   refine Yvt (d:=zV) hs (fun n hn=> ?_)
   have:=h2 n (by omega) (by omega)
   unfold fL at this
   by_cases hd:cmpV (a.getD n zV) (b.getD n zV)=0
   ·exact cmpV_zero.1 hd
   ·rw[decide_eq_false hd]at this;cases this
  ·intro h;rw[h]
theorem YvG(a b:Vals)(ha:SzV a)(hb:SzV b):q61 loO a b=some (decide (a=b)):=by
 unfold q61
 rw[YvE a b ha hb,Ywh]
 have:decide (cmpL a b=0)=decide (a=b):=by rw[decide_eq_decide];exact YvF
 rw[this]
theorem YvH(a:List ByteArray)(ha:a.length<=maxEl):q64 loO a a=some true:=by
 have hm:maxEl=1073741824:=rfl
 have hL:Ygg loO (a,a,0)=some (Ywf (R:=Bool⊕Unit) (fun _=>none) a.length 0 (.inr ())):=by
  refine YaD (fun n=>(a,a,(n:Int))) _ a.length _ rfl ?_ (fun n hn=> ?_)
  ·simp[Yep]
  ·have e1:decide ((n:Int)< (a.length:Int))=true:=by simp;omega
   have e2:YAM .i64 ((n:Int)+1)=((n+1:Nat):Int):=by rw[wr6 (by omega) (by omega)];omega
   simp only[Yep,e1,cond_true,e2,decide_true,YAA,cond_false]
   rw[chkT _ (by omega),chkT _ (by omega)]
 unfold q64
 simp only[decide_true,YAA,cond_false]
 rw[hL,Ywh,Ygn _ _ (fun _ _ _=>rfl)];rfl
theorem Yms(nm:ByteArray)(attrs:List ByteArray)(rows:Rws)(ha:attrs.length<=maxEl)(hr:SzR rows):q66 loO nm attrs rows nm attrs rows=some true:=by
 have hm:maxEl=1073741824:=rfl
 have hrl:=hr.1
 have hL:Ygh loO (0,nm,attrs,rows,nm,attrs,rows)=some (Ywf (R:=Bool⊕Unit) (fun _=>none) rows.length 0 (.inr ())):=by
  refine YaD (fun n=>((n:Int),nm,attrs,rows,nm,attrs,rows)) _ rows.length _ rfl ?_ (fun n hn=> ?_)
  ·simp[Yeq]
  ·have e1:decide ((n:Int)< (rows.length:Int))=true:=by simp;omega
   have e2:YAM .i64 ((n:Int)+1)=((n+1:Nat):Int):=by rw[wr6 (by omega) (by omega)];omega
   have q:=hr.2 (rows.getD n zR) (Yby hn)
   simp only[Yeq,q65,e1,cond_true,e2,decide_true,YAE,YvG _ _ q q,Ywh,YAA,cond_false]
   rw[chkT _ (by omega),chkT _ (by omega)]
 unfold q66
 simp only[decide_true,YAA,cond_false,YvH attrs ha,Ywh]
 rw[hL,Ywh,Ygn _ _ (fun _ _ _=>rfl)];rfl
end
end Go.Abs.G3c
namespace Go.Abs.G3c
open Go Go.Abs
noncomputable section
theorem _root_.Go.Abs.sz3{t1 t2 t3:Ty}{r:Cs}{x:(Cs.cons t1 (Cs.cons t2 (Cs.cons t3 r))).den}{N:Nat}(h:Cs.sz (Cs.cons t1 (Cs.cons t2 (Cs.cons t3 r))) x<=N):t3.sz (fstP _ (sndP _ (sndP _ x)))<=N:=by
 simp only[Cs.sz]at h;omega
theorem YvI(nm:ByteArray)(attrs:List ByteArray)(rows:Rws):q53 loO nm attrs rows=some (decide (rows.length<=12)&&decide (attrs.length<=20)):=by
 unfold q53
 have e1:decide ((rows.length:Int)<=12)=decide (rows.length<=12):=by rw[decide_eq_decide];omega
 have e2:decide ((attrs.length:Int)<=20)=decide (attrs.length<=20):=by rw[decide_eq_decide];omega
 rw[e1,e2]
 cases decide (rows.length<=12)<;>rfl
def pId(rows:Rws)(id:Int)(m:Nat):Bool:=decide ((rows.getD m zR).1=id)
def Yxh(rows:Rws)(id:Int):Int×Bool:=(max (idxR (pId rows id) rows.length 0) 0,decide (0<=idxR (pId rows id) rows.length 0))
theorem Yzu(nm:ByteArray)(attrs:List ByteArray)(rows:Rws)(id:Int)(hr:rows.length<=maxEl):q81 loO nm attrs rows id=some (Yxh rows id):=by
 have hm:maxEl=1073741824:=rfl
 have hL:Ygi loO (rows,(rows.length:Int),0,id)=some (Ywf (R:=(Int×Int)⊕Int) (fun m=>bif pId rows id m then some (.inl ((m:Int),id))else none) rows.length 0 (.inr id)):=by
  refine YaD (fun n=>(rows,(rows.length:Int),(n:Int),id)) _ rows.length _ rfl ?_ (fun n hn=> ?_)
  ·simp[Yer]
  ·have e1:decide ((n:Int)< (rows.length:Int))=true:=by simp;omega
   have e2:YAM .i64 ((n:Int)+1)=((n+1:Nat):Int):=by rw[wr6 (by omega) (by omega)];omega
   simp only[Yer,e1,cond_true,e2,YAE,q79,Ywh]
   rw[chkT _ (by omega)]
   unfold pId
   cases decide ((rows.getD n zR).1=id)<;>rfl
 have hI:q80 loO rows id=some (idxR (pId rows id) rows.length 0,id):=by
  unfold q80 idxR
  rw[hL,Ywh]
  have:=Ymi (f:=fun m=>bif pId rows id m then some (Sum.inl (m:Int))else none) (fun x:Int⊕Unit=>match x with| .inl i=>(Sum.inl (i,id):(Int×Int)⊕Int)| .inr _=>.inr id) (r0:=.inr ()) rows.length 0
  have e:(fun m=>(bif pId rows id m then some (Sum.inl (m:Int))else none:Option (Int⊕Unit)).map fun x:Int⊕Unit=>match x with| .inl i=>(Sum.inl (i,id):(Int×Int)⊕Int)| .inr _=>.inr id)=fun m=>bif pId rows id m then some (.inl ((m:Int),id))else none:=by
   funext m;cases pId rows id m<;>rfl
  rw[e]at this
  rw[<-this]
  cases Ywf (R:=Int⊕Unit) (fun m=>bif pId rows id m then some (Sum.inl (m:Int))else none) rows.length 0 (.inr ())<;>rfl
 unfold q81 Yxh
 rw[hI,Ywh]
theorem Yzv(nm:ByteArray)(attrs:List ByteArray)(rows:Rws)(id:Int)(hr:rows.length<=maxEl):q82 loO nm attrs rows id=some (Yxh rows id):=by
 have hm:maxEl=1073741824:=rfl
 have hL:Ygj loO (id,0,nm,attrs,rows)=some (Ywf (R:=(Int×Bool)⊕Unit) (fun m=>bif pId rows id m then some (.inl ((m:Int),true))else none) rows.length 0 (.inr ())):=by
  refine YaD (fun n=>(id,(n:Int),nm,attrs,rows)) _ rows.length _ rfl ?_ (fun n hn=> ?_)
  ·simp[Yes]
  ·have e1:decide ((n:Int)< (rows.length:Int))=true:=by simp;omega
   have e2:YAM .i64 ((n:Int)+1)=((n+1:Nat):Int):=by rw[wr6 (by omega) (by omega)];omega
   simp only[Yes,e1,cond_true,e2,YAE]
   rw[chkT _ (by omega)]
   unfold pId
   cases decide ((rows.getD n zR).1=id)<;>rfl
 unfold q82 Yxh
 rw[hL,Ywh]
 have: ∀k n,(match Ywf (R:=(Int×Bool)⊕Unit) (fun m=>bif pId rows id m then some (.inl ((m:Int),true))else none) k n (.inr ())with| .inl x=>(some (x.1,x.2):Option (Int×Bool))| .inr _=>some (0,false))=some (max (idxR (pId rows id) k n) 0,decide (0<=idxR (pId rows id) k n)):=by
  intro k
  induction k with
  |zero=>intro n;rfl
  |succ k ih=>
   intro n
   have:=ih (n+1)
   unfold idxR at this⊢
   simp only[Ywf]
   by_cases hp:pId rows id n=true
   ·simp[hp]
   ·simp only[Bool.not_eq_true]at hp;simpa[hp]using this
 rw[<-this]
 cases Ywf (R:=(Int×Bool)⊕Unit) (fun m=>bif pId rows id m then some (.inl ((m:Int),true))else none) rows.length 0 (.inr ())<;>rfl
theorem YvJ(r:Int×Vals)(h:SzV r.2):q87 loO r.1 r.2=some r:=by
 unfold q87 q86
 have:(YAi r.2.length maxEl&&YAi 1 3)=true:=by simp;exact h.1
 rw[this];rfl
theorem YvK(r:Int×Vals)(h:SzV r.2):q91 loO r.1 r.2=some r:=by
 unfold q91
 rw[chkT _ h.1]
theorem Yzw(nm:ByteArray)(attrs:List ByteArray)(rows rows1:Rws)(ha:attrs.length<=maxEl)(hr:SzR rows1):q95 loO nm attrs rows rows1=some (nm,attrs,rows1):=by
 have hm:maxEl=1073741824:=rfl
 have hrl:=hr.1
 have hL:Ygk loO (rows1,(rows1.length:Int),0,YAL #[],[],[],nm,attrs,[])=some (YAL #[],[],[],nm,attrs,rows1):=by
  refine Ymd (N:=rows1.length) (st:=fun n=>(rows1,(rows1.length:Int),(n:Int),YAL #[],[],[],nm,attrs,rows1.take n)) rfl ?_ (fun n hn=> ?_)
  ·simp[Yet]
  ·have e1:decide ((n:Int)< (rows1.length:Int))=true:=by simp;omega
   have e2:YAM .i64 ((n:Int)+1)=((n+1:Nat):Int):=by rw[wr6 (by omega) (by omega)];omega
   simp only[Yet,e1,cond_true,e2,YAE,YvJ _ (hr.2 (rows1.getD n zR) (Yby hn)),Ywh]
   rw[chkT _ (by omega),chkT _ (by simp;omega),Ymn (d:=zR) hn]
 unfold q95 q19
 have:(YAi attrs.length maxEl&&YAi 1 1)=true:=by simp;exact ha
 simp only[this,cond_true,Ywh]
 rw[hL];rfl
theorem YzG(nm:ByteArray)(attrs:List ByteArray)(rows rows1:Rws)(ha:attrs.length<=maxEl)(hr:SzR rows1):q97 loO nm attrs rows rows1=some (nm,attrs,rows1):=by
 have hm:maxEl=1073741824:=rfl
 have hrl:=hr.1
 have hL:Ygl loO (rows1,0,YAL #[],[],[],nm,attrs,[])=some (YAL #[],[],[],nm,attrs,rows1):=by
  refine Ymd (N:=rows1.length) (st:=fun n=>(rows1,(n:Int),YAL #[],[],[],nm,attrs,rows1.take n)) rfl ?_ (fun n hn=> ?_)
  ·simp[Yeu]
  ·have e1:decide ((n:Int)< (rows1.length:Int))=true:=by simp;omega
   have e2:YAM .i64 ((n:Int)+1)=((n+1:Nat):Int):=by rw[wr6 (by omega) (by omega)];omega
   simp only[Yeu,e1,cond_true,e2,YAE,YvK _ (hr.2 (rows1.getD n zR) (Yby hn)),Ywh]
   rw[chkT _ (by omega),chkT _ (by simp;omega),Ymn (d:=zR) hn]
 unfold q97
 rw[chkT _ ha,hL];rfl
end
end Go.Abs.G3c
namespace Go.Abs.G3c
open Go Go.Abs
noncomputable section
def Yx9(attrs:List ByteArray)(rows:Rws):Prop:=(∀m,m<rows.length->0< (rows.getD m zR).1/\ (rows.getD m zR).2.length=attrs.length/\vsB (rows.getD m zR).2=true)/\ ∀a b,a<b->b<rows.length->(rows.getD a zR).1< (rows.getD b zR).1
theorem YvL{attrs:List ByteArray}{rows:Rws}:(∀m,m<rows.length->fV attrs rows m=none)↔Yx9 attrs rows:=by
 have one: ∀m,fV attrs rows m=none↔ (YwO rows m< (rows.getD m zR).1/\ (rows.getD m zR).2.length=attrs.length/\vsB (rows.getD m zR).2=true):=by
  intro m
  unfold fV
  by_cases h1:(rows.getD m zR).1<=YwO rows m
  ·simp only[h1,decide_true,cond_true];constructor
   ·intro h;cases h
   ·rintro⟨h,_⟩;omega
  ·by_cases h2:((rows.getD m zR).2.length:Int)=(attrs.length:Int)
   ·simp only[h1,h2,decide_false,cond_false,decide_true,YAA]
    cases vsB (rows.getD m zR).2 with
    |true=>
     simp only[YAA,cond_false,true_iff,and_true]
     exact⟨by omega,by omega⟩
    |false=>
     simp only[YAB,cond_true]
     constructor
     ·intro h;cases h
     ·rintro⟨_,_,h⟩;cases h
   ·simp only[h1,h2,decide_false,cond_false,YAB,cond_true]
    constructor
    ·intro h;cases h
    ·rintro⟨_,h,_⟩;omega
 constructor
 ·intro h
  have h': ∀m,m<rows.length->YwO rows m< (rows.getD m zR).1/\ (rows.getD m zR).2.length=attrs.length/\vsB (rows.getD m zR).2=true:=fun m hm=>(one m).1 (h m hm)
  have hpos: ∀m,m<rows.length->0< (rows.getD m zR).1:=by
   intro m
   induction m with
   |zero=>intro hm;exact(h' 0 hm).1
   |succ m ih=>intro hm;have:=ih (by omega);have:=(h' (m+1) hm).1;simp only[YwO]at this;omega
  refine⟨fun m hm=>⟨hpos m hm,(h' m hm).2⟩,fun a b hab=> ?_⟩
  induction b with
  |zero=>omega
  |succ b ih=>
   intro hb
   have h1:=(h' (b+1) hb).1
   simp only[YwO]at h1
   by_cases e:a=b
   ·subst e;exact h1
   ·have:=ih (by omega) (by omega);omega
 ·rintro⟨h1,h2⟩ m hm
  refine(one m).2 ⟨?_,(h1 m hm).2⟩
  cases m with
  |zero=>exact(h1 0 hm).1
  |succ m=>exact h2 m (m+1) (by omega) hm
theorem Ymt{f:Nat->Option (Int⊕Unit)}(hf: ∀m i,f m=some i->i≠ .inl 0/\i≠ .inr ()): ∀k n,(match Ywf f k n (.inr ())with| .inl i=>i| .inr _=>(0:Int))=0↔ ∀m,n<=m->m<n+k->f m=none
 |0,n=>by simp[Ywf];intro m h1 h2;omega
 |k+1,n=>by
  simp only[Ywf]
  cases hn:f n with
  |some i=>
   have:=hf n i hn
   constructor
   ·intro h
    cases i with
    |inl z=>simp only at h;subst h;exact absurd rfl this.1
    |inr u=>cases u;exact absurd rfl this.2
   ·intro h;have:=h n (YAf _) (by omega);rw[hn]at this;cases this
  |none=>
   have ih:=Ymt hf k (n+1)
   simp only
   rw[ih]
   constructor
   ·intro h m h1 h2
    by_cases e:m=n
    ·rw[e];exact hn
    ·exact h m (by omega) (by omega)
   ·intro h m h1 h2;exact h m (by omega) (by omega)
theorem YvM{attrs:List ByteArray}{rows:Rws}(m:Nat)(i:Int⊕Unit)(h:fV attrs rows m=some i):i≠ .inl 0/\i≠ .inr ():=by
 unfold fV at h
 cases h1:decide ((rows.getD m zR).1<=YwO rows m)<;>rw[h1]at h
 ·cases h2:(!decide (((rows.getD m zR).2.length:Int)=(attrs.length:Int)))<;>rw[h2]at h
  ·cases h3:(!vsB (rows.getD m zR).2)<;>rw[h3]at h
   ·cases h
   ·injection h with h;subst h;simp
  ·injection h with h;subst h;simp
 ·injection h with h;subst h;simp
def YyW(nm:ByteArray)(attrs:List ByteArray):Prop:=Yxg nm=true/\attrs.length<=16/\anyN (fA attrs) attrs.length 0=false
theorem Ygp(nm:ByteArray)(attrs:List ByteArray)(rows:Rws):Yw2 nm attrs rows=0↔YyW nm attrs/\rows.length<=1000/\Yx9 attrs rows:=by
 unfold Yw2 YyW
 cases h0:Yxg nm with
 |false=>simp
 |true=>
  by_cases h1:(16:Int)< (attrs.length:Int)
  ·simp only[h1,YAA,cond_false,decide_true,cond_true]
   constructor
   ·intro h;cases h
   ·rintro⟨⟨_,h,_⟩,_⟩;omega
  ·by_cases h2:(1000:Int)< (rows.length:Int)
   ·simp only[h1,h2,YAA,cond_false,decide_true,decide_false,cond_true]
    constructor
    ·intro h;cases h
    ·rintro⟨_,h,_⟩;omega
   ·simp only[h1,h2,YAA,cond_false,decide_false]
    cases h3:anyN (fA attrs) attrs.length 0 with
    |true=>simp
    |false=>
     simp only[cond_false]
     refine(Ymt (YvM (attrs:=attrs) (rows:=rows)) rows.length 0).trans ?_
     rw[<-YvL]
     constructor
     ·intro h;exact⟨⟨trivial,by omega,trivial⟩,by omega,fun m hm=>h m (YAp _) (by omega)⟩
     ·rintro⟨_,_,h⟩ m _ hm;exact h m (by omega)
end
end Go.Abs.G3c
namespace Go.Abs.G3c
open Go Go.Abs
noncomputable section
theorem Ymu(p:Nat->Bool): ∀k n,anyN p k n=false↔ ∀m,n<=m->m<n+k->p m=false
 |0,n=>by simp[anyN];intro m h1 h2;omega
 |k+1,n=>by
  simp only[anyN,Bool.or_eq_false_iff,Ymu p k (n+1)]
  constructor
  ·rintro⟨h1,h2⟩ m h3 h4
   by_cases e:m=n
   ·rw[e];exact h1
   ·exact h2 m (by omega) (by omega)
  ·intro h;exact⟨h n (YAf _) (by omega),fun m h1 h2=>h m (by omega) (by omega)⟩
theorem vsB_iff{l:Vals}:vsB l=true↔ ∀m,m<l.length->vB (l.getD m zV)=true:=by
 unfold vsB
 rw[Bool.not_eq_true',Ymu]
 constructor
 ·intro h m hm;simpa using h m (YAp _) (by omega)
 ·intro h m _ hm;simpa using h m (by omega)
theorem YvN{rows:Rws}{id:Int}(h:(Yxh rows id).2=true): ∃i,i<rows.length/\Yxh rows id=((i:Int),true)/\ (rows.getD i zR).1=id/\ ∀m,m<i->(rows.getD m zR).1≠id:=by
 have key: ∀k n,0<=idxR (pId rows id) k n-> ∃i,n<=i/\i<n+k/\idxR (pId rows id) k n=(i:Int)/\ (rows.getD i zR).1=id/\ ∀m,n<=m->m<i->(rows.getD m zR).1≠id:=by
  intro k
  induction k with
  |zero=>intro n h;exact absurd h (by show¬ (0:Int)<= -1;omega)
  |succ k ih=>
   intro n h
   unfold idxR at h⊢
   simp only[Ywf]at h⊢
   by_cases e:pId rows id n=true
   ·rw[e]
    refine⟨n,YAf _,by omega,rfl,of_decide_eq_true e,fun m h1 h2=>by omega⟩
   ·rw[Bool.not_eq_true]at e
    rw[e]at h⊢
    obtain⟨i,h1,h2,h3,h4,h5⟩:=ih (n+1) h
    refine⟨i,by omega,by omega,h3,h4,fun m h6 h7=> ?_⟩
    by_cases e2:m=n
    ·rw[e2];exact of_decide_eq_false e
    ·exact h5 m (by omega) h7
 unfold Yxh at h⊢
 simp only at h
 obtain⟨i,h1,h2,h3,h4,h5⟩:=key rows.length 0 (of_decide_eq_true h)
 refine⟨i,by omega,?_,h4,fun m hm=>h5 m (YAp _) hm⟩
 rw[h3]
 have e1:max (i:Int) 0=(i:Int):=by omega
 have e2:decide (0<=(i:Int))=true:=decide_eq_true (by omega)
 rw[e1,e2]
theorem YvO{rows:Rws}{id:Int}{p:Nat}(hp:p<rows.length)(he:(rows.getD p zR).1=id)(hb: ∀m,m<p->(rows.getD m zR).1≠id):Yxh rows id=((p:Int),true):=by
 have key: ∀k n,n<=p->p<n+k->idxR (pId rows id) k n=(p:Int):=by
  intro k
  induction k with
  |zero=>intro n h1 h2;omega
  |succ k ih=>
   intro n h1 h2
   unfold idxR
   simp only[Ywf]
   by_cases e:n=p
   ·subst e
    have:pId rows id n=true:=by unfold pId;exact decide_eq_true he
    simp[this]
   ·have:pId rows id n=false:=by unfold pId;exact decide_eq_false (hb n (by omega))
    rw[this]
    have:=ih (n+1) (by omega) (by omega)
    unfold idxR at this
    simpa using this
 have:=key rows.length 0 (YAp _) (by omega)
 unfold Yxh
 rw[this]
 have e1:max (p:Int) 0=(p:Int):=by omega
 rw[e1]
 have:decide (0<=(p:Int))=true:=decide_eq_true (by omega)
 rw[this]
def setC(rows:Rws)(i a:Nat)(v:Int×Int×ByteArray):Rws:=rows.set i ((rows.getD i zR).1,(rows.getD i zR).2.set a v)
theorem Yck(rows:Rws)(i a:Nat)(v:Int×Int×ByteArray):(setC rows i a v).length=rows.length:=by simp[setC]
theorem Yex{rows:Rws}{i:Nat}(hi:i<rows.length)(a:Nat)(v:Int×Int×ByteArray)(m:Nat):(setC rows i a v).getD m zR=if m=i then((rows.getD i zR).1,(rows.getD i zR).2.set a v)else rows.getD m zR:=by
 unfold setC
 simp only[List.getD_eq_getElem?_getD,List.getElem?_set]
 by_cases e:m=i
 ·subst e;simp[hi]
 ·rw[if_neg (Ne.symm e),if_neg e]
theorem Yey{rows:Rws}{i:Nat}(hi:i<rows.length)(a:Nat)(v:Int×Int×ByteArray)(m:Nat):((setC rows i a v).getD m zR).1=(rows.getD m zR).1:=by
 rw[Yex hi]
 split
 ·rename_i e;rw[e]
 ·rfl
theorem Yez{rows:Rws}{i a:Nat}{v:Int×Int×ByteArray}(hi:i<rows.length)(h:SzR rows)(hv:v.2.2.size<=maxEl):SzR (setC rows i a v):=by
 refine⟨by rw[Yck];exact h.1,fun r hr=> ?_⟩
 rcases List.mem_or_eq_of_mem_set hr with h1|rfl
 ·exact h.2 r h1
 ·have hrow:=h.2 _ (Yby (d:=zR) hi)
  refine⟨by rw[Yz6];exact hrow.1,fun w hw=> ?_⟩
  rcases List.mem_or_eq_of_mem_set hw with h1|rfl
  ·exact hrow.2 w h1
  ·exact hv
theorem YvP{attrs:List ByteArray}{rows:Rws}{i a:Nat}{v:Int×Int×ByteArray}(hi:i<rows.length)(h:Yx9 attrs rows)(hv:vB v=true):Yx9 attrs (setC rows i a v):=by
 refine⟨fun m hm=> ?_,fun b c hbc hc=> ?_⟩
 ·rw[Yck]at hm
  rw[Yex hi]
  split
  ·rename_i e
   obtain⟨h1,h2,h3⟩:=h.1 i hi
   refine⟨h1,by rw[Yz6];exact h2,vsB_iff.2 (fun q hq=> ?_)⟩
   rw[Yz6]at hq
   generalize(rows.getD i zR).2=R at h2 h3 hq⊢
   simp only[List.getD_eq_getElem?_getD,List.getElem?_set]
   split
   ·rename_i e2
    subst e2
    rw[if_pos hq];exact hv
   ·have:=vsB_iff.1 h3 q hq
    simpa[List.getD_eq_getElem?_getD]using this
  ·exact h.1 m hm
 ·rw[Yck]at hc
  rw[Yey hi,Yey hi];exact h.2 b c hbc hc
theorem YvQ{rows:Rws}{i a:Nat}(v:Int×Int×ByteArray)(hi:i<rows.length)(ha:a< (rows.getD i zR).2.length):setC (setC rows i a v) i a ((rows.getD i zR).2.getD a zV)=rows:=by
 have e1:(setC rows i a v).getD i zR=((rows.getD i zR).1,(rows.getD i zR).2.set a v):=by rw[Yex hi,if_pos rfl]
 unfold setC at e1⊢
 rw[e1]
 simp only[List.set_set]
 have e2:(rows.getD i zR).2.set a ((rows.getD i zR).2.getD a zV)=(rows.getD i zR).2:=by
  generalize(rows.getD i zR).2=R at ha⊢
  rw[List.getD_eq_getElem?_getD,YzJ ha];simp
 rw[e2]
 have e3:rows.getD i zR=rows[i]:=by rw[List.getD_eq_getElem?_getD,YzJ hi];rfl
 rw[show((rows.getD i zR).1,(rows.getD i zR).2)=rows[i]from e3]
 simp
def ChgC(nm:ByteArray)(attrs:List ByteArray)(rows:Rws)(id a:Int)(v:Int×Int×ByteArray)(y:ByteArray×List ByteArray×Rws×Int):Prop:=y.2.2.2=0->
 Yw2 nm attrs rows=0/\0<=a/\a< (attrs.length:Int)/\vB v=true/\ ∃i,i<rows.length/\Yxh rows id=((i:Int),true)/\ (rows.getD i zR).1=id/\ (∀m,m<i->(rows.getD m zR).1≠id)/\y=(nm,attrs,setC rows i a.toNat v,0)
theorem Ymv(nm:ByteArray)(attrs:List ByteArray)(rows:Rws)(id a:Int)(v:Int×Int×ByteArray)(hr:SzR rows)(hv:v.2.2.size<=maxEl):
  ∃y:ByteArray×List ByteArray×Rws×Int,q96 loO nm attrs rows id a v.1 v.2.1 v.2.2=some y/\q98 loO nm attrs rows id a v.1 v.2.1 v.2.2=some y/\y.2.1.length<=maxEl/\SzR y.2.2.1/\ChgC nm attrs rows id a v y:=by
 have hm:maxEl=1073741824:=rfl
 have hz: ∀e:Int,e≠0-> ∃y:ByteArray×List ByteArray×Rws×Int,(some (YAL #[],[],[],e):Option (ByteArray×List ByteArray×Rws×Int))=some y/\ (some (YAL #[],[],[],e):Option (ByteArray×List ByteArray×Rws×Int))=some y/\y.2.1.length<=maxEl/\SzR y.2.2.1/\ChgC nm attrs rows id a v y:=
  fun e he=>⟨_,rfl,rfl,by simp,⟨by simp,fun r h=>by cases h⟩,fun h=>absurd h he⟩
 unfold q96 q98
 simp only[YyV,Yzt,Ywh,Yzu _ _ _ _ hr.1,Yzv _ _ _ _ hr.1]
 by_cases hvd:Yw2 nm attrs rows=0
 ·obtain⟨v1,v2,v3⟩:=(Ygp _ _ _).1 hvd
  have v12:=v1.2.1
  simp only[hvd,decide_true,YAA,cond_false]
  cases hk:(Yxh rows id).2 with
  |false=>simp only[YAB,cond_true];exact hz 4 (by omega)
  |true=>
   simp only[YAA,cond_false]
   by_cases ha:a<0
   ·simp only[ha,decide_true,cond_true];exact hz 6 (by omega)
   ·by_cases ha2:(attrs.length:Int)<=a
    ·simp only[ha,ha2,decide_true,decide_false,cond_true,cond_false];exact hz 6 (by omega)
    ·simp only[ha,ha2,decide_false,cond_false,Yev,Ymr,Ywh]
     cases hvv:vB (v.1,v.2.1,v.2.2)with
     |false=>simp only[YAB,cond_true];exact hz 1 (by omega)
     |true=>
      simp only[YAA,cond_false]
      obtain⟨i,hi,hf,h4,h5⟩:=YvN hk
      rw[Yzw _ _ _ _ (by omega) hr,Ywh,YzG _ _ _ _ (by omega) hr,Ywh]
      simp only[hf,YAE]
      have hlen:=(v3.1 i hi).2.1
      rw[chkT _ (by omega),chkT _ (show(0:Int)<=a/\a< (((rows.getD i zR).2.length:Nat):Int) by omega)]
      exact⟨_,rfl,rfl,by show attrs.length<=maxEl;omega,Yez (a:=a.toNat) (v:=v) hi hr hv,fun _=>⟨hvd,by omega,by omega,hvv,i,hi,hf,h4,h5,rfl⟩⟩
 ·simp only[hvd,decide_false,YAB,cond_true];exact hz _ hvd
theorem _root_.Go.Abs.sz8{t1 t2 t3 t4 t5 t6 t7 t8:Ty}{r:Cs}{x:(Cs.cons t1 (Cs.cons t2 (Cs.cons t3 (Cs.cons t4 (Cs.cons t5 (Cs.cons t6 (Cs.cons t7 (Cs.cons t8 r)))))))).den}{N:Nat}(h:Cs.sz (Cs.cons t1 (Cs.cons t2 (Cs.cons t3 (Cs.cons t4 (Cs.cons t5 (Cs.cons t6 (Cs.cons t7 (Cs.cons t8 r)))))))) x<=N):t8.sz (fstP _ (sndP _ (sndP _ (sndP _ (sndP _ (sndP _ (sndP _ (sndP _ x))))))))<=N:=by
 simp only[Cs.sz]at h;omega
theorem szB{s:ByteArray}(h:Ty.s.sz s<=1048576):s.size<=maxEl:=by
 have hm:maxEl=1073741824:=rfl
 simp only[Ty.sz]at h;omega
theorem change_law(nm:ByteArray)(attrs:List ByteArray)(rows:Rws)(id a v0 v1:Int)(v2:ByteArray)(hr:SzR rows)(hv:v2.size<=maxEl):q99 loO nm attrs rows id a v0 v1 v2=some true:=by
 have hm:maxEl=1073741824:=rfl
 unfold q99
 simp only[aw,Ywh,YvI,YAA,cond_false]
 cases hf:(decide (rows.length<=12)&&decide (attrs.length<=20))with
 |false=>rfl
 |true=>
  simp only[YAz,decide_eq_true_eq]at hf
  simp only[YAA,cond_false]
  obtain⟨y,h1,h2,h3,h4,h5⟩:=Ymv nm attrs rows id a (v0,v1,v2) hr hv
  simp only at h1 h2
  simp only[h1,h2,Ywh,decide_true,cond_true,YAA,cond_false,Yms _ _ _ h3 h4]
  by_cases he:y.2.2.2=0
  ·obtain⟨w1,w2,w3,w4,i,hi,hfi,h6,h7,hy⟩:=h5 he
   simp only[he,decide_true,YAA,cond_false,Yzv _ _ _ _ hr.1,Ywh]
   subst hy
   obtain⟨q1,q2,q3⟩:=(Ygp _ _ _).1 w1
   have hlen:=(q3.1 i hi).2.1
   simp only[hfi,YAE]
   rw[chkT _ (by omega),chkT _ (show(0:Int)<=a/\a< (((rows.getD i zR).2.length:Nat):Int) by omega)]
   have hvo:vB ((rows.getD i zR).2.getD a.toNat zV)=true:=vsB_iff.1 (q3.1 i hi).2.2 a.toNat (by omega)
   have hmem:(rows.getD i zR).2.getD a.toNat zV∈ (rows.getD i zR).2:=Yby (d:=zV) (by omega)
   have hso:=(hr.2 _ (Yby (d:=zR) hi)).2 _ hmem
   obtain⟨y2,g1,_,_,_,g5⟩:=Ymv nm attrs (setC rows i a.toNat (v0,v1,v2)) id a ((rows.getD i zR).2.getD a.toNat zV) (Yez hi hr hv) hso
   have hv2:Yw2 nm attrs (setC rows i a.toNat (v0,v1,v2))=0:=(Ygp _ _ _).2 ⟨q1,by rw[Yck];exact q2,YvP hi q3 w4⟩
   have hf2:Yxh (setC rows i a.toNat (v0,v1,v2)) id=((i:Int),true):=YvO (by rw[Yck];exact hi) (by rw[Yey hi];exact h6) (fun m hm'=>by rw[Yey hi];exact h7 m hm')
   have hg:q96 loO nm attrs (setC rows i a.toNat (v0,v1,v2)) id a ((rows.getD i zR).2.getD a.toNat zV).1 ((rows.getD i zR).2.getD a.toNat zV).2.1 ((rows.getD i zR).2.getD a.toNat zV).2.2=some (nm,attrs,rows,0):=by
    unfold q96
    simp only[YyV,Ywh,hv2,Yzu _ _ _ _ (Yez (a:=a.toNat) (v:=(v0,v1,v2)) hi hr hv).1,hf2,decide_true,YAA,cond_false,Yev,hvo]
    have n1: ¬a<0:=by omega
    have n2: ¬ (attrs.length:Int)<=a:=by omega
    have hl2:((setC rows i a.toNat (v0,v1,v2)).getD i zR).2.length=(rows.getD i zR).2.length:=by rw[Yex hi,if_pos rfl];simp
    simp only[n1,n2,decide_false,cond_false,YAE]
    have q12:=q1.2.1
    rw[Yzw _ _ _ _ (by omega) (Yez hi hr hv),Ywh,chkT _ (by rw[Yck];omega),chkT _ (show(0:Int)<=a/\a< ((((setC rows i a.toNat (v0,v1,v2)).getD i zR).2.length:Nat):Int) by omega)]
    have:=YvQ (v0,v1,v2) hi (a:=a.toNat) (by omega)
    unfold setC at this⊢
    rw[this]
   simp only[hg,Ywh,decide_true,cond_true]
   have q12:=q1.2.1
   rw[Yms _ _ _ (by omega) hr,Ywh]
  ·simp only[he,decide_false,YAB,cond_true]
end
end Go.Abs.G3c
