/- Helpers of the plain laws: loops as states by number, tables, short words. No condition. -/
import Derived.Test.YtkgoecnchnbbfaaB
import Derived.Test.YtkgoecnchnbbfaaG
set_option linter.unusedVariables false
set_option linter.unusedSimpArgs false
set_option linter.unusedSectionVars false
open List renaming getElem?_eq_getElem → Yz3, getElem?_append_left → Yz5, map_cons → Yz6, getElem?_append_right → Yz8, map_nil → Yz9, getElem?_take → YAc, append_assoc → YAd, length_append → YAf, getElem?_drop → YAi, length_map → YAk, length_singleton → YAm, mem_singleton → YAq, nil_append → YAr, take_length → YAt, length_set → YAu
open Nat renaming beq → YAy, le_refl → YAz, blt → YAA, ble → YAB, zero_le → YAJ
open Option renaming bind → YAK, bind_some → YAN
open Bool renaming and_eq_true → YAS, not_true → YAT, not_false → YAU
open Int renaming toNat_natCast → YAX
open ByteArray renaming mk → YA4
open Go.IntKind renaming wrap → YA5
namespace Go.Abs
theorem wr6{n:Int}(h0: -9223372036854775808<=n)(h1:n<9223372036854775808):YA5 .i64 n=n:=by
 have e:(2:Int)^IntKind.bits .i64=18446744073709551616:=rfl
 have e':(2:Int)^(IntKind.bits .i64-1)=9223372036854775808:=rfl
 have s:IntKind.signed .i64=true:=rfl
 simp only[YA5,e,e',s,Bool.true_and,ge_iff_le,decide_eq_true_eq]
 omega
theorem chkT{β:Type}{p:Prop}[Decidable p](x:Option β)(h:p):chk p x=x:=by simp[chk,h]
theorem Ywp{α β:Type}(a:α)(f:α->Option β):YAK (some a) f=f a:=rfl
theorem Yl8{S R:Type}{step:S->Option (S⊕R)}(st:Nat->S)(N:Nat)(r:R)(he:step (st N)=some (.inr r))(hs: ∀n,n<N->step (st n)=some (.inl (st (n+1)))): ∀k n,n+k=N->YwP step (st n)=some r
 |0,n,h=>by rw[YaD];simp_all
 |k+1,n,h=>by rw[YaD,hs n (by omega)];exact Yl8 st N r he hs k (n+1) (by omega)
theorem Yl9{S R:Type}{step:S->Option (S⊕R)}{st:Nat->S}{N:Nat}{r:R}{s:S}(hst:s=st 0)(he:step (st N)=some (.inr r))(hs: ∀n,n<N->step (st n)=some (.inl (st (n+1)))):YwP step s=some r:=by
 subst hst;exact Yl8 st N r he hs N 0 (by omega)
def tab{α:Type}(n:Nat)(f:Nat->α):List α:=(List.range n).map f
def bl(s:ByteArray):List UInt8:=s.data.toList
theorem Yvv(a b:ByteArray)(i j:Nat):(Ywo a i=Ywo b j)↔a.data.getD i 0=b.data.getD j 0:=by
 simp only[Ywo,YAX]
 constructor
 ·intro h
  have:(a.data.getD i 0).toNat=(b.data.getD j 0).toNat:=by omega
  exact UInt8.toNat_inj.1 this
 simp_all
end Go.Abs
namespace Go.Abs.G03
open Go Go.Abs
set_option maxRecDepth 100000
theorem YvC{v4_0:ByteArray}{v4_1:List ByteArray}{v4_2:List (Int×List (Int×Int×ByteArray))}{out8:ByteArray}{clk:Int}{ents:List (Int×ByteArray×List (Int×Int×ByteArray))}{m2:Bool}{h4:List ByteArray}{h5:List (Int×List (Int×Int×ByteArray))}
  {y} (hd:(ents.map (·.1)).Nodup) (hl:ents.length<=maxEl)
  (hy:Ycb loO (v4_0,v4_1,v4_2,out8,clk,ents,m2,ents.map (·.2.1),clk,clk,[],false,h4,h5)=some y):
  Yeb loO (v4_0,v4_1,v4_2,out8,clk,ents,m2,[],h4,h5)=some y:=by
 show rngF Yea (YcW loO) (Ycb loO) (v4_0,v4_1,v4_2,out8,clk,ents,m2,[],clk,clk,[],false,h4,h5)=some y
 refine YpX (Yvw (p:=Yea) (t:=YcW loO) (r:=Ycb loO) (fun sn=>(v4_0,v4_1,v4_2,out8,clk,ents,m2,sn.map (kAt (YA4 #[]) ents),clk,clk,sn,false,h4,h5)) (B:=ents.map (·.1)) (c:=clk) hd (fun sn=>rfl) (fun sn b hb hn hsd hsB=> ?_) (fun sn hp=> ?_))
 ·obtain⟨e,he⟩:=YvA hb
  have hlen:sn.length<ents.length:=by
   have h1:(sn++[b]).Nodup:=by
    rw[List.nodup_append]
    exact⟨hsd,by simp,fun x hx y hy=>by rw[YAq]at hy;subst hy;intro e;subst e;exact hn hx⟩
   have:=List.Nodup.length_le_of_subset h1 (l₂:=ents.map (·.1)) (fun a ha=>by
    rcases List.mem_append.1 ha with ha|ha
    ·exact hsB a ha
    ·rw[YAq]at ha;subst ha;exact hb)
   simp at this;omega
  simp only[YcW,addI,List.getLast?_append,List.getLast?_singleton,Option.some_or,YAN,he,chk,decide_true,cond_true,YAk,YAm]
  have:decide (sn.length+1<=maxEl)=true:=by simp;omega
  simp only[this,cond_true,List.map_append,Yz6,Yz9,kAt,he]
 ·have hperm:(sn.map (kAt (YA4 #[]) ents)).Perm (ents.map (·.2.1)):=by
   rw[<-YvB (d:=YA4 #[]) hd];exact hp.map _
  rw[<-hy]
  show YAK (q35 loO (sn.map (kAt (YA4 #[]) ents))) _=YAK (q35 loO (ents.map (·.2.1))) _
  have e1:q35 loO (sn.map (kAt (YA4 #[]) ents))=q35 loO (ents.map (·.2.1)):=Yvz hperm
  rw[e1]
  have e2:=hperm.length_eq
  congr 1
  funext y152
  rw[e2]
def nodB:List Int->Bool
 | []=>true
 |a::r=> !(r.any fun b=>decide (b=a))&&nodB r
theorem Ymb: ∀{l:List Int},nodB l=true->l.Nodup
 | [],_=>List.nodup_nil
 |a::r,h=>by
  simp only[nodB,YAS,Bool.not_eq_true',List.any_eq_false,decide_eq_true_eq]at h
  exact List.nodup_cons.2 ⟨fun hm=>h.1 a hm rfl,Ymb h.2⟩
def j17C(lo:Lo):(ByteArray× (List ByteArray)× (List (Int× (List (Int×Int×ByteArray))))×ByteArray×Int× (List (Int×ByteArray× (List (Int×Int×ByteArray))))×Bool× (List ByteArray)× (List ByteArray)× (List (Int× (List (Int×Int×ByteArray)))))->Option ((Int×ByteArray× (List ByteArray)× (List (Int× (List (Int×Int×ByteArray)))))):=fun x=>match x with
 | (v4_0,v4_1,v4_2,out8,clk,ents,m2,keys,h4,h5)=>bif keys.isEmpty&& (nodB (ents.map (·.1))&&YAB ents.length maxEl)then Ycb lo (v4_0,v4_1,v4_2,out8,clk,ents,m2,ents.map (·.2.1),clk,clk,[],false,h4,h5)else none
theorem YvD{x y}(h:j17C loO x=some y):Yeb loO x=some y:=by
 obtain⟨v4_0,v4_1,v4_2,out8,clk,ents,m2,keys,h4,h5⟩:=x
 unfold j17C at h
 obtain⟨e,hk⟩:=Yaa h
 simp only[YAS,List.isEmpty_iff]at e
 obtain⟨rfl,e1,e2⟩:=e
 exact YvC (Ymb e1) (by simpa using e2) hk
def Yyo(lo:Lo)(a0_0:ByteArray)(a0_1:List ByteArray)(a0_2:List (Int× (List (Int×Int×ByteArray))))(b1_0:ByteArray)(b1_1:List ByteArray)(b1_2:List (Int× (List (Int×Int×ByteArray)))):Option (ByteArray× (List ByteArray)× (List (Int× (List (Int×Int×ByteArray))))×Int):=
 YAK (q11 lo a0_0 a0_1 a0_2) fun y77=>bif(!decide (y77=(0:Int)))then(some ((YA4 #[]),([]:List ByteArray),([]:List (Int× (List (Int×Int×ByteArray)))),y77))else(YAK (q11 lo b1_0 b1_1 b1_2) fun y78=>bif(!decide (y78=(0:Int)))then(some ((YA4 #[]),([]:List ByteArray),([]:List (Int× (List (Int×Int×ByteArray)))),y78))else(YAK (q19 lo a0_1) fun y79=>YAK (YfV lo (b1_1,(b1_1.length:Int),(0:Int),a0_0,a0_1,a0_2,b1_0,b1_1,b1_2,(YA4 #[]),([]:List ByteArray),([]:List (Int× (List (Int×Int×ByteArray)))),a0_0,[],y79,[])) fun y81=>bif(decide ((16:Int)< (y81.2.2.2.2.2.2.2.2.2.2.2.1.length:Int)))then(some ((YA4 #[]),([]:List ByteArray),([]:List (Int× (List (Int×Int×ByteArray)))),(3:Int)))else(YAK (YfW lo (y81.2.2.2.2.2.2.2.2.2.2.1,y81.2.2.1,(y81.2.2.1.length:Int),(0:Int),y81.2.2.2.1,y81.2.2.2.2.1,y81.2.2.2.2.2.1,y81.2.2.2.2.2.2.1,y81.2.2.2.2.2.2.2.1,y81.2.2.2.2.2.2.2.2.1,y81.2.2.2.2.2.2.2.2.2.1,(0:Int),([]:List (Int×ByteArray× (List (Int×Int×ByteArray)))),false,y81.2.2.2.2.2.2.2.2.2.2.2.1,y81.2.2.2.2.2.2.2.2.2.2.2.2)) fun y87=>alt2 y87 (fun y88=>some (y88.2.1,y88.2.2.1,y88.2.2.2,y88.1)) (fun y89=>YAK (j17C lo (y89.1,y89.2.1,y89.2.2.1,y89.2.2.2.1,y89.2.2.2.2.1,y89.2.2.2.2.2.1,y89.2.2.2.2.2.2.1,[],y89.2.2.2.2.2.2.2.1,y89.2.2.2.2.2.2.2.2)) fun y154=>some (y154.2.1,y154.2.2.1,y154.2.2.2,y154.1)))))
theorem Yc1{α β:Type}{a:Option α}{f g:α->Option β}{y:β}(h: ∀z,f z=some y->g z=some y):YAK a f=some y->YAK a g=some y:=by
 cases a with
 |none=>intro h;cases h
 |some z=>exact h z
theorem Yge{β:Type}{b:Bool}{x x' z:Option β}{y:β}(h:x=some y->x'=some y):(bif b then z else x)=some y->(bif b then z else x')=some y:=by
 cases b with
 |true=>exact id
 |false=>exact h
theorem Ymc{a0 a1 a2 b0 b1 b2 y}:Yyo loO a0 a1 a2 b0 b1 b2=some y->q36 loO a0 a1 a2 b0 b1 b2=some y:=by
 unfold Yyo q36
 refine Yc1 fun _=>Yge (Yc1 fun _=>Yge (Yc1 fun _=>Yc1 fun _=>Yge (Yc1 fun z=> ?_)))
 cases z with
 |inl z=>exact id
 |inr z=>
  simp only[alt2]
  intro h
  cases hj:j17C loO (z.1,z.2.1,z.2.2.1,z.2.2.2.1,z.2.2.2.2.1,z.2.2.2.2.2.1,z.2.2.2.2.2.2.1,[],z.2.2.2.2.2.2.2.1,z.2.2.2.2.2.2.2.2)with
  |none=>rw[hj]at h;cases h
  |some q=>rw[hj]at h;rw[YvD hj];exact h
abbrev Vals:=List (Int×Int×ByteArray)
abbrev Rws:=List (Int×Vals)
noncomputable def E6:ByteArray×List ByteArray×Rws:=(q2 (loM 400)).getD ⟨YA4 #[],[],[]⟩
noncomputable def E51:ByteArray×List ByteArray×Rws×Int:=(q18 (loM 400) E6.1 E6.2.1 E6.2.2 1).getD ⟨YA4 #[],[],[],0⟩
noncomputable def E52:ByteArray×List ByteArray×Rws×Int:=(q18 (loM 400) E6.1 E6.2.1 E6.2.2 2).getD ⟨YA4 #[],[],[],0⟩
noncomputable def E155:ByteArray×List ByteArray×Rws×Int:=(Yyo (loM 400) E6.1 E6.2.1 E6.2.2 E52.1 E52.2.1 E52.2.2.1).getD ⟨YA4 #[],[],[],0⟩
noncomputable def E156:ByteArray×List ByteArray×Rws×Int:=(Yyo (loM 400) E51.1 E51.2.1 E51.2.2.1 E52.1 E52.2.1 E52.2.2.1).getD ⟨YA4 #[],[],[],0⟩
theorem aw:q44 loO=some true:=by
 have e6:q2 loO=some E6:=(congrArg q2 (Ycd 400)).symm.trans (by kernel_rfl)
 have e51:q18 loO E6.1 E6.2.1 E6.2.2 1=some E51:=(congrArg (fun l=>q18 l E6.1 E6.2.1 E6.2.2 1) (Ycd 400)).symm.trans (by kernel_rfl)
 have e52:q18 loO E6.1 E6.2.1 E6.2.2 2=some E52:=(congrArg (fun l=>q18 l E6.1 E6.2.1 E6.2.2 2) (Ycd 400)).symm.trans (by kernel_rfl)
 have e155:q36 loO E6.1 E6.2.1 E6.2.2 E52.1 E52.2.1 E52.2.2.1=some E155:=Ymc ((congrArg (fun l=>Yyo l E6.1 E6.2.1 E6.2.2 E52.1 E52.2.1 E52.2.2.1) (Ycd 400)).symm.trans (by kernel_rfl))
 have e156:q36 loO E51.1 E51.2.1 E51.2.2.1 E52.1 E52.2.1 E52.2.2.1=some E156:=Ymc ((congrArg (fun l=>Yyo l E51.1 E51.2.1 E51.2.2.1 E52.1 E52.2.1 E52.2.2.1) (Ycd 400)).symm.trans (by kernel_rfl))
 unfold q44
 rw[e6,Ywp,e51,Ywp,e52,Ywp,e155,Ywp,e156,Ywp,<-Ycd 400]
 show(_:Option Bool)=some true
 kernel_rfl
end Go.Abs.G03
namespace Go.Abs
def Ywr{R:Type}(f:Nat->Option R):Nat->Nat->R->R
 |0,_,r0=>r0
 |k+1,n,r0=>match f n with
  |some r=>r
  |none=>Ywr f k (n+1) r0
theorem Ymd{R:Type}{f g:Nat->Option R}{r0:R}: ∀(k n:Nat),(∀m,n<=m->m<n+k->f m=g m)->Ywr f k n r0=Ywr g k n r0
 |0,n,h=>rfl
 |k+1,n,h=>by
  simp only[Ywr]
  rw[h n (YAz _) (by omega),Ymd k (n+1) (fun m h1 h2=>h m (by omega) (by omega))]
theorem YaE{S R:Type}{step:S->Option (S⊕R)}(st:Nat->S)(f:Nat->Option R)(N:Nat)(r0:R){s:S}(hst:s=st 0)(he:step (st N)=some (.inr r0))
  (hs: ∀n,n<N->step (st n)=some (match f n with|some r=>.inr r|none=>.inl (st (n+1)))):YwP step s=some (Ywr f N 0 r0):=by
 subst hst
 have: ∀k n,n+k=N->YwP step (st n)=some (Ywr f k n r0):=by
  intro k
  induction k with
  |zero=>intro n h;rw[YaD];simp only[Nat.add_zero]at h;subst h;rw[he];rfl
  |succ k ih=>
   intro n h
   rw[YaD,hs n (by omega)]
   simp only[Ywr]
   grind
 simp_all
theorem Ygf{R:Type}{f:Nat->Option R}{r0:R}: ∀(k n:Nat),(∀m,n<=m->m<n+k->f m=none)->Ywr f k n r0=r0
 |0,n,h=>rfl
 |k+1,n,h=>by
  simp only[Ywr]
  rw[h n (YAz _) (by omega)]
  exact Ygf k (n+1) (fun m h1 h2=>h m (by omega) (by omega))
theorem Yme{R R':Type}{f:Nat->Option R}(u:R->R'){r0:R}: ∀(k n:Nat),u (Ywr f k n r0)=Ywr (fun m=>(f m).map u) k n (u r0)
 |0,n=>rfl
 |k+1,n=>by
  simp only[Ywr]
  cases f n with
  |some r=>rfl
  |none=>exact Yme u k (n+1)
def anyN(p:Nat->Bool):Nat->Nat->Bool
 |0,_=>false
 |k+1,n=>p n||anyN p k (n+1)
def idxR(p:Nat->Bool)(k n:Nat):Int:=match Ywr (R:=Int⊕Unit) (fun m=>bif p m then some (.inl (m:Int))else none) k n (.inr ())with
 | .inl i=>i
 | .inr _=> -1
theorem Ygg(p:Nat->Bool): ∀k n,decide (0<=idxR p k n)=anyN p k n
 |0,n=>rfl
 |k+1,n=>by
  have:=Ygg p k (n+1)
  unfold idxR at this⊢
  simp only[Ywr,anyN]
  grind
theorem Ygh{p:Nat->Bool}{b:Bool}: ∀k n,(match Ywr (R:=Bool⊕Unit) (fun m=>bif p m then some (.inl b)else none) k n (.inr ())with| .inl x=>x| .inr _=> !b)=(bif anyN p k n then b else !b)
 |0,n=>rfl
 |k+1,n=>by
  simp only[Ywr,anyN]
  cases p n with
  |true=>rfl
  |false=>simpa using Ygh (p:=p) (b:=b) k (n+1)
theorem Yc2{R:Type}{f:Nat->Option R}{r0:R}: ∀(k n:Nat),(∃m r,n<=m/\m<n+k/\f m=some r/\Ywr f k n r0=r)\/(Ywr f k n r0=r0/\ ∀m,n<=m->m<n+k->f m=none)
 |0,n=>.inr ⟨rfl,fun m h1 h2=>by omega⟩
 |k+1,n=>by
  simp only[Ywr]
  cases hf:f n with
  |some r=>grind
  |none=>
   rcases Yc2 (f:=f) (r0:=r0) k (n+1)with⟨m,r,h1,h2,h3,h4⟩| ⟨h1,h2⟩
   ·grind
   grind
theorem Ymf{α:Type}{f:α->Nat}{l:List α}{a:α}(h:a∈l):f a<=(l.map f).sum:=by
 induction l with
 |nil=>cases h
 |cons b r ih=>
  grind
theorem Ymg{α:Type}{f:α->Nat}{l:List α}(h: ∀a∈l,1<=f a):l.length<=(l.map f).sum:=by
 induction l with
 |nil=>simp
 |cons b r ih=>
  grind
theorem Ymh(s:ByteArray)(i:Int):0<=Ywo s i/\Ywo s i<256:=by
 unfold Ywo
 have:=(s.data.getD i.toNat 0).toNat_lt
 omega
theorem Yc3{α:Type}{l:List α}{n:Nat}{d:α}(h:n<l.length):l.getD n d∈l:=by
 simp_all
theorem YvE{a b:ByteArray}(hs:a.size=b.size)(h: ∀n:Nat,n<a.size->Ywo a n=Ywo b n):a=b:=by
 have:a.data=b.data:=by
  apply Array.ext hs
  intro i h1 h2
  have:=h i h1
  rw[Yvv]at this
  unfold Array.getD at this
  rw[dif_pos h1,dif_pos h2]at this
  trivial
 cases a;simp_all
theorem YvF{α:Type}{a b:List α}{d:α}(hs:a.length=b.length)(h: ∀n,n<a.length->a.getD n d=b.getD n d):a=b:=by
 apply List.ext_getElem hs
 simp_all
theorem Ygi{α:Type}{l:List α}{n:Nat}{d:α}(h:n<l.length):l.take (n+1)=l.take n++[l.getD n d]:=by
 simp_all
end Go.Abs
namespace Go.Abs.G03
open Go Go.Abs
noncomputable section
def lt(c:Int):Bool:=decide (97<=c)&&decide (c<=122)||decide (65<=c)&&decide (c<=90)||decide (c=95)
theorem Ymi(c:Int):q45 loO c=some (lt c):=by
 unfold q45 lt
 by_cases h1:(97:Int)<=c<;>by_cases h2:c<=(122:Int)<;>by_cases h3:(65:Int)<=c<;>by_cases h4:c<=(90:Int)<;>simp[h1,h2,h3,h4]
def fN(s:ByteArray)(n:Nat):Option (Bool⊕Unit):=
 bif lt (Ywo s n)then none else bif decide (n=0)then some (.inl false)else bif decide (Ywo s n<48)then some (.inl false)else bif decide ((57:Int)<Ywo s n)then some (.inl false)else none
theorem YvG(s:ByteArray)(hs:s.size<=24):YfM loO (s,(s.size:Int),0)=some (Ywr (fN s) s.size 0 (.inr ())):=by
 refine YaE (fun n=>(s,(s.size:Int),(n:Int))) (fN s) s.size (.inr ()) rfl ?_ (fun n hn=> ?_)
 ·simp[Yd5]
 ·have e1:decide ((n:Int)< (s.size:Int))=true:=by simp;omega
  have e2:YA5 .i64 ((n:Int)+1)=((n+1:Nat):Int):=by rw[wr6 (by omega) (by omega)];omega
  simp only[Yd5,e1,cond_true,e2]
  rw[chkT _ (by omega)]
  unfold fN lt
  have e3:decide ((n:Int)=0)=decide (n=0):=by simp
  simp only[e3]
  generalize Ywo s n=c
  by_cases h1:(97:Int)<=c<;>by_cases h2:c<=(122:Int)<;>by_cases h3:(65:Int)<=c<;>by_cases h4:c<=(90:Int)<;>by_cases h5:c=95<;>by_cases h6:n=0<;>by_cases h7:c<48<;>by_cases h8:(57:Int)<c<;>simp[h1,h2,h3,h4,h5,h6,h7,h8]
def nul:ByteArray:=YA4 #[110,117,108,108]
def Yxp(s:ByteArray):Bool:=
 bif decide (s=YA4 #[])then false else bif decide ((24:Int)< (s.size:Int))then false else bif decide (s=nul)then false else
  match Ywr (fN s) s.size 0 (.inr ())with| .inl b=>b| .inr _=>true
theorem Ymj(s:ByteArray):q3 loO s=some (Yxp s):=by
 unfold q3 Yxp nul
 by_cases h1:s=YA4 #[]
 ·simp[h1]
 ·by_cases h2:(24:Int)< (s.size:Int)
  ·simp[h1,h2]
  ·by_cases h3:s=YA4 #[110,117,108,108]
   ·simp[h1,h2,h3]
   ·simp only[h1,h2,h3,decide_false,cond_false]
    rw[YvG s (by omega)]
    simp only[Ywp]
    cases Ywr (fN s) s.size 0 (.inr ())<;>rfl
def fR(s:ByteArray)(n:Nat):Option (Bool⊕Unit):=
 bif lt (Ywo s n)then none else bif decide (Ywo s n<48)then some (.inl false)else bif decide ((57:Int)<Ywo s n)then some (.inl false)else none
theorem YvH(s:ByteArray)(hs:s.size<=24):YfX loO (s,0)=some (Ywr (fR s) s.size 0 (.inr ())):=by
 refine YaE (fun n=>(s,(n:Int))) (fR s) s.size (.inr ()) rfl ?_ (fun n hn=> ?_)
 ·simp[Yed]
 ·have e1:decide ((n:Int)< (s.size:Int))=true:=by simp;omega
  have e2:YA5 .i64 ((n:Int)+1)=((n+1:Nat):Int):=by rw[wr6 (by omega) (by omega)];omega
  simp only[Yed,e1,cond_true,e2,Ymi,Ywp]
  rw[chkT _ (by omega)]
  unfold fR
  generalize Ywo s n=c
  have h0:(0:Int)<=(n:Int)/\ (n:Int)< (s.size:Int):=by omega
  cases lt c<;>by_cases h7:c<48<;>by_cases h8:(57:Int)<c<;>simp[h7,h8,chkT,h0]
theorem YzY(s:ByteArray):s.size=0↔s=YA4 #[]:=by
 constructor
 ·intro h
  have:s.data= #[]:=Array.eq_empty_of_size_eq_zero h
  cases s;simp_all
 ·intro h;subst h;rfl
theorem Ymk(s:ByteArray):q46 loO s=some (Yxp s):=by
 unfold q46 Yxp nul
 by_cases h1:s=YA4 #[]
 ·subst h1;rfl
 ·have h1':s.size≠0:=fun h=>h1 ((YzY s).1 h)
  by_cases h2:(24:Int)< (s.size:Int)
  ·have: ¬ (s.size:Int)=0:=by omega
   simp[h1,h2,this]
  ·have h0: ¬ (s.size:Int)=0:=by omega
   simp only[h1,h2,h0,decide_false,cond_false,Ymi,Ywp]
   rw[chkT _ (by omega)]
   have hz:Ywo s 0=Ywo s ((0:Nat):Int):=rfl
   have hsz:s.size=(s.size-1)+1:=by omega
   cases hl:lt (Ywo s 0)with
   |false=>
    have:Ywr (fN s) s.size 0 (.inr ())= .inl false:=by
     rw[hsz];simp only[Ywr,fN,<-hz,hl];rfl
    rw[this]
    by_cases h3:s=YA4 #[110,117,108,108]<;>simp[h3]
   |true=>
    have:Ywr (fN s) s.size 0 (.inr ())=Ywr (fR s) s.size 0 (.inr ()):=Ymd _ _ (fun m _ _=>by
     unfold fN fR
     by_cases hm:m=0
     ·subst hm;rw[<-hz,hl];rfl
     ·simp[hm])
    rw[this,YvH s (by omega)]
    by_cases h3:s=YA4 #[110,117,108,108]
    ·simp[h3]
    ·simp only[h3,decide_false,cond_false,YAT,Ywp]
     cases Ywr (fR s) s.size 0 (.inr ())<;>rfl
def idxI(l:List ByteArray)(v:ByteArray):Int:=idxR (fun m=>decide (v=l.getD m (YA4 #[]))) l.length 0
theorem YvI(l:List ByteArray)(v:ByteArray)(hl:l.length<=maxEl):q4 loO l v=some (idxI l v):=by
 have hm:maxEl=1073741824:=rfl
 have:YfN loO (l,v,(l.length:Int),0)=some (Ywr (R:=Int⊕Unit) (fun m=>bif decide (v=l.getD m (YA4 #[]))then some (.inl (m:Int))else none) l.length 0 (.inr ())):=by
  refine YaE (fun n=>(l,v,(l.length:Int),(n:Int))) _ l.length (Sum.inr ()) rfl ?_ (fun n hn=> ?_)
  ·simp[Yd6]
  ·have e1:decide ((n:Int)< (l.length:Int))=true:=by simp;omega
   have e2:YA5 .i64 ((n:Int)+1)=((n+1:Nat):Int):=by rw[wr6 (by omega) (by omega)];omega
   simp only[Yd6,e1,cond_true,e2,YAX]
   rw[chkT _ (by omega)]
   cases decide (v=l.getD n (YA4 #[]))<;>rfl
 unfold q4 idxI idxR
 rw[this,Ywp]
 cases Ywr (R:=Int⊕Unit) (fun m=>bif decide (v=l.getD m (YA4 #[]))then some (.inl (m:Int))else none) l.length 0 (.inr ())<;>rfl
theorem YvJ(l:List ByteArray)(v:ByteArray)(hl:l.length<=maxEl):q5 loO l v=some (decide (0<=idxI l v)):=by
 unfold q5;rw[YvI l v hl];rfl
theorem YvK(l:List ByteArray)(v:ByteArray)(hl:l.length<=maxEl):q47 loO l v=some (idxI l v):=by
 have hm:maxEl=1073741824:=rfl
 have:YfY loO (l,v,0)=some (Ywr (R:=Int⊕Unit) (fun m=>bif decide (v=l.getD m (YA4 #[]))then some (.inl (m:Int))else none) l.length 0 (.inr ())):=by
  refine YaE (fun n=>(l,v,(n:Int))) _ l.length (Sum.inr ()) rfl ?_ (fun n hn=> ?_)
  ·simp[Yee]
  ·have e1:decide ((n:Int)< (l.length:Int))=true:=by simp;omega
   have e2:YA5 .i64 ((n:Int)+1)=((n+1:Nat):Int):=by rw[wr6 (by omega) (by omega)];omega
   have e3:decide (l.getD n (YA4 #[])=v)=decide (v=l.getD n (YA4 #[])):=by simp only[eq_comm]
   simp only[Yee,e1,cond_true,e2,YAX,e3]
   rw[chkT _ (by omega)]
   cases decide (v=l.getD n (YA4 #[]))<;>rfl
 unfold q47 idxI idxR
 rw[this,Ywp]
 cases Ywr (R:=Int⊕Unit) (fun m=>bif decide (v=l.getD m (YA4 #[]))then some (.inl (m:Int))else none) l.length 0 (.inr ())<;>rfl
def vB(v:Int×Int×ByteArray):Bool:=(q6 loO v.1 v.2.1 v.2.2).getD false
theorem Yml(a b:Int)(c:ByteArray):q6 loO a b c=some (vB (a,b,c)):=by
 unfold vB q6
 by_cases h0:a=0<;>by_cases h1:a=1<;>by_cases h2:a=2<;>by_cases h3:a=3<;>by_cases h4:b=0<;>by_cases h5:1<=b<;>simp[h0,h1,h2,h3,h4,h5]
theorem YvL(a b:Int)(c:ByteArray):q49 loO a b c=some (vB (a,b,c)):=Yml a b c
abbrev zV:Int×Int×ByteArray:=(0,0,YA4 #[])
def vsB(l:Vals):Bool:= !anyN (fun m=> !vB (l.getD m zV)) l.length 0
theorem Ymm(l:Vals)(hl:l.length<=maxEl):q10 loO l=some (vsB l):=by
 have hm:maxEl=1073741824:=rfl
 have:YfO loO (l,(l.length:Int),0)=some (Ywr (R:=Int⊕Unit) (fun m=>bif !vB (l.getD m zV)then some (.inl (m:Int))else none) l.length 0 (.inr ())):=by
  refine YaE (fun n=>(l,(l.length:Int),(n:Int))) _ l.length (Sum.inr ()) rfl ?_ (fun n hn=> ?_)
  ·simp[Yd7]
  ·have e1:decide ((n:Int)< (l.length:Int))=true:=by simp;omega
   have e2:YA5 .i64 ((n:Int)+1)=((n+1:Nat):Int):=by rw[wr6 (by omega) (by omega)];omega
   simp only[Yd7,e1,cond_true,e2,YAX,q7,Yml,Ywp]
   rw[chkT _ (by omega)]
   cases vB (l.getD n zV)<;>rfl
 have h2:q8 loO l=some (idxR (fun m=> !vB (l.getD m zV)) l.length 0):=by
  unfold q8 idxR
  rw[this,Ywp]
  cases Ywr (R:=Int⊕Unit) (fun m=>bif !vB (l.getD m zV)then some (.inl (m:Int))else none) l.length 0 (.inr ())<;>rfl
 unfold q10 q9 vsB
 rw[h2,Ywp,Ywp,Ygg]
theorem Ymn(l:Vals)(hl:l.length<=maxEl):q50 loO l=some (vsB l):=by
 have hm:maxEl=1073741824:=rfl
 have:Yf0 loO (l,0)=some (Ywr (R:=Bool⊕Unit) (fun m=>bif !vB (l.getD m zV)then some (.inl false)else none) l.length 0 (.inr ())):=by
  refine YaE (fun n=>(l,(n:Int))) _ l.length (Sum.inr ()) rfl ?_ (fun n hn=> ?_)
  ·simp[Yeg]
  ·have e1:decide ((n:Int)< (l.length:Int))=true:=by simp;omega
   have e2:YA5 .i64 ((n:Int)+1)=((n+1:Nat):Int):=by rw[wr6 (by omega) (by omega)];omega
   simp only[Yeg,e1,cond_true,e2,YAX,YvL,Ywp]
   rw[chkT _ (by omega)]
   cases vB (l.getD n zV)<;>rfl
 unfold q50 vsB
 rw[this,Ywp]
 have h3:=Ygh (p:=fun m=> !vB (l.getD m zV)) (b:=false) l.length 0
 cases hs:Ywr (R:=Bool⊕Unit) (fun m=>bif !vB (l.getD m zV)then some (.inl false)else none) l.length 0 (.inr ())with
 |inl b=>rw[hs]at h3;simp only[alt2];rw[show b=_ from h3];cases anyN (fun m=> !vB (l.getD m zV)) l.length 0<;>rfl
 |inr u=>rw[hs]at h3;simp only[alt2];rw[show true=_ from h3];cases anyN (fun m=> !vB (l.getD m zV)) l.length 0<;>rfl
def fA(l:List ByteArray)(n:Nat):Bool:= !Yxp (l.getD n (YA4 #[]))||decide (0<=idxI (l.take n) (l.getD n (YA4 #[])))
abbrev zR:Int×Vals:=(0,[])
def Yw1(rows:Rws):Nat->Int
 |0=>0
 |n+1=>(rows.getD n zR).1
def fV(attrs:List ByteArray)(rows:Rws)(n:Nat):Option (Int⊕Unit):=
 bif decide ((rows.getD n zR).1<=Yw1 rows n)then some (.inl 1)else bif !decide (((rows.getD n zR).2.length:Int)=(attrs.length:Int))then some (.inl 6)else bif !vsB (rows.getD n zR).2 then some (.inl 1)else none
def Yxl(nm:ByteArray)(attrs:List ByteArray)(rows:Rws):Int:=
 bif !Yxp nm then 1 else bif decide ((16:Int)< (attrs.length:Int))then 3 else bif decide ((1000:Int)< (rows.length:Int))then 3 else bif anyN (fA attrs) attrs.length 0 then 1 else
  match Ywr (fV attrs rows) rows.length 0 (.inr ())with| .inl i=>i| .inr _=>0
theorem Yzb(nm:ByteArray)(attrs:List ByteArray)(rows:Rws):q11 loO nm attrs rows=some (Yxl nm attrs rows):=by
 have hm:maxEl=1073741824:=rfl
 unfold q11 Yxl
 rw[Ymj,Ywp]
 cases Yxp nm with
 |false=>rfl
 |true=>
  by_cases h1:(16:Int)< (attrs.length:Int)
  ·simp[h1]
  ·by_cases h2:(1000:Int)< (rows.length:Int)
   ·simp[h1,h2]
   ·simp only[h1,h2,decide_false,cond_false,YAT]
    have e20:YfP loO (attrs,(attrs.length:Int),0,nm,attrs,rows)=some (Ywr (R:=Int⊕ (ByteArray×List ByteArray×Rws)) (fun m=>bif fA attrs m then some (.inl 1)else none) attrs.length 0 (.inr (nm,attrs,rows))):=by
     refine YaE (fun n=>(attrs,(attrs.length:Int),(n:Int),nm,attrs,rows)) _ attrs.length _ rfl ?_ (fun n hn=> ?_)
     ·simp[Yd8]
     ·have e1:decide ((n:Int)< (attrs.length:Int))=true:=by simp;omega
      have e2:YA5 .i64 ((n:Int)+1)=((n+1:Nat):Int):=by rw[wr6 (by omega) (by omega)];omega
      simp only[Yd8,e1,cond_true,e2,YAX,Ymj,Ywp,List.drop_zero]
      rw[chkT _ (by omega),chkT _ (by omega),YvJ _ _ (by simp;omega),Ywp]
      unfold fA
      cases Yxp (attrs.getD n (YA4 #[]))<;>cases decide (0<=idxI (attrs.take n) (attrs.getD n (YA4 #[])))<;>rfl
    rw[e20,Ywp]
    have hsc: ∀k n,Ywr (R:=Int⊕ (ByteArray×List ByteArray×Rws)) (fun m=>bif fA attrs m then some (.inl 1)else none) k n (.inr (nm,attrs,rows))=bif anyN (fA attrs) k n then .inl 1 else .inr (nm,attrs,rows):=by
     intro k
     induction k with
     |zero=>intro n;rfl
     |succ k ih=>intro n;simp only[Ywr,anyN];cases fA attrs n with
      |true=>rfl
      |false=>simpa using ih (n+1)
    rw[hsc]
    cases anyN (fA attrs) attrs.length 0 with
    |true=>rfl
    |false=>
     simp only[cond_false,alt2]
     have e3:YfQ loO (0,rows,(rows.length:Int),0,nm,attrs,rows)=some (Ywr (fV attrs rows) rows.length 0 (.inr ())):=by
      refine YaE (fun n=>(Yw1 rows n,rows,(rows.length:Int),(n:Int),nm,attrs,rows)) _ rows.length _ rfl ?_ (fun n hn=> ?_)
      ·simp[Yd9]
      ·have e1:decide ((n:Int)< (rows.length:Int))=true:=by simp;omega
       have e2:YA5 .i64 ((n:Int)+1)=((n+1:Nat):Int):=by rw[wr6 (by omega) (by omega)];omega
       simp only[Yd9,e1,cond_true,e2,YAX]
       rw[chkT _ (by omega)]
       unfold fV
       by_cases g1:(rows.getD n zR).1<=Yw1 rows n
       ·simp only[g1,decide_true,cond_true]
       ·by_cases g2:((rows.getD n zR).2.length:Int)=(attrs.length:Int)
        ·simp only[g1,g2,decide_false,decide_true,cond_false,YAT]
         rw[Ymm _ (show(rows.getD n zR).2.length<=maxEl by omega),Ywp]
         cases vsB (rows.getD n zR).2<;>rfl
        ·simp only[g1,g2,decide_false,cond_false,YAU,cond_true]
     rw[e3,Ywp]
     cases Ywr (fV attrs rows) rows.length 0 (.inr ())<;>rfl
theorem YzK(nm:ByteArray)(attrs:List ByteArray)(rows:Rws):q51 loO nm attrs rows=some (Yxl nm attrs rows):=by
 have hm:maxEl=1073741824:=rfl
 unfold q51 Yxl
 rw[Ymk,Ywp]
 cases Yxp nm with
 |false=>rfl
 |true=>
  by_cases h1:(16:Int)< (attrs.length:Int)
  ·simp[h1]
  ·by_cases h2:(1000:Int)< (rows.length:Int)
   ·simp[h1,h2]
   ·simp only[h1,h2,decide_false,cond_false,YAT]
    have e20:YfZ loO (attrs,0)=some (Ywr (R:=Bool⊕Unit) (fun m=>bif fA attrs m then some (.inl false)else none) attrs.length 0 (.inr ())):=by
     refine YaE (fun n=>(attrs,(n:Int))) _ attrs.length _ rfl ?_ (fun n hn=> ?_)
     ·simp[Yef]
     ·have e1:decide ((n:Int)< (attrs.length:Int))=true:=by simp;omega
      have e2:YA5 .i64 ((n:Int)+1)=((n+1:Nat):Int):=by rw[wr6 (by omega) (by omega)];omega
      simp only[Yef,e1,cond_true,e2,YAX,Ymk,Ywp,List.drop_zero]
      rw[chkT _ (by omega),chkT _ (by omega),chkT _ (by omega),YvK _ _ (by simp;omega),Ywp]
      unfold fA
      cases Yxp (attrs.getD n (YA4 #[]))<;>cases decide (0<=idxI (attrs.take n) (attrs.getD n (YA4 #[])))<;>rfl
    have eN:q48 loO attrs=some (!anyN (fA attrs) attrs.length 0):=by
     unfold q48
     rw[e20,Ywp]
     have h3:=Ygh (p:=fA attrs) (b:=false) attrs.length 0
     cases hs:Ywr (R:=Bool⊕Unit) (fun m=>bif fA attrs m then some (.inl false)else none) attrs.length 0 (.inr ())with
     |inl b=>rw[hs]at h3;simp only[alt2];rw[show b=_ from h3];cases anyN (fA attrs) attrs.length 0<;>rfl
     |inr u=>rw[hs]at h3;simp only[alt2];rw[show true=_ from h3];cases anyN (fA attrs) attrs.length 0<;>rfl
    rw[eN,Ywp]
    cases anyN (fA attrs) attrs.length 0 with
    |true=>rfl
    |false=>
     simp only[cond_false,YAU,YAT]
     have e3:Yf1 loO (0,0,nm,attrs,rows)=some (Ywr (fV attrs rows) rows.length 0 (.inr ())):=by
      refine YaE (fun n=>(Yw1 rows n,(n:Int),nm,attrs,rows)) _ rows.length _ rfl ?_ (fun n hn=> ?_)
      ·simp[Yeh]
      ·have e1:decide ((n:Int)< (rows.length:Int))=true:=by simp;omega
       have e2:YA5 .i64 ((n:Int)+1)=((n+1:Nat):Int):=by rw[wr6 (by omega) (by omega)];omega
       simp only[Yeh,e1,cond_true,e2,YAX]
       rw[chkT _ (by omega)]
       unfold fV
       by_cases g1:(rows.getD n zR).1<=Yw1 rows n
       ·simp only[g1,decide_true,cond_true]
       ·by_cases g2:((rows.getD n zR).2.length:Int)=(attrs.length:Int)
        ·simp only[g1,g2,decide_false,decide_true,cond_false,YAT]
         rw[Ymn _ (show(rows.getD n zR).2.length<=maxEl by omega),Ywp]
         cases vsB (rows.getD n zR).2<;>rfl
        ·simp only[g1,g2,decide_false,cond_false,YAU,cond_true]
     rw[e3,Ywp]
     cases Ywr (fV attrs rows) rows.length 0 (.inr ())<;>rfl
end
end Go.Abs.G03
namespace Go.Abs.G03
open Go Go.Abs
noncomputable section
def SzV(l:Vals):Prop:=l.length<=maxEl/\ ∀v∈l,v.2.2.size<=maxEl
def SzR(l:Rws):Prop:=l.length<=maxEl/\ ∀r∈l,SzV r.2
theorem szV{l:Vals}(h:(Ty.l (cs [I,I,.s])).sz l<=1048576):SzV l:=by
 have hm:maxEl=1073741824:=rfl
 have e:(Ty.l (cs [I,I,.s])).sz l=(l.map fun v=>1+(1+((v.2.2.size+1)+0))).sum+1:=rfl
 rw[e]at h
 refine⟨?_,fun v hv=> ?_⟩
 ·have:=Ymg (f:=fun v:Int×Int×ByteArray=>1+(1+((v.2.2.size+1)+0))) (l:=l) (fun a _=>by omega)
  omega
 ·have:=Ymf (f:=fun v:Int×Int×ByteArray=>1+(1+((v.2.2.size+1)+0))) hv
  omega
theorem szR{l:Rws}(h:(Ty.l (cs [I,.l (cs [I,I,.s])])).sz l<=1048576):SzR l:=by
 have hm:maxEl=1073741824:=rfl
 have e:(Ty.l (cs [I,.l (cs [I,I,.s])])).sz l=(l.map fun r=>1+((Ty.l (cs [I,I,.s])).sz r.2+0)).sum+1:=rfl
 rw[e]at h
 refine⟨?_,fun r hr=> ?_⟩
 ·have:=Ymg (f:=fun r:Int×Vals=>1+((Ty.l (cs [I,I,.s])).sz r.2+0)) (l:=l) (fun a _=>by omega)
  omega
 ·have:=Ymf (f:=fun r:Int×Vals=>1+((Ty.l (cs [I,I,.s])).sz r.2+0)) hr
  exact szV (by omega)
def sg(a b:Int):Int:=bif decide (a<b)then-1 else bif decide (b<a)then 1 else 0
theorem Yeo(a b:Int):q57 loO a b=some (sg a b):=by
 unfold q57 sg
 by_cases h1:a<b<;>by_cases h2:b<a<;>simp[h1,h2]
theorem sg_zero{a b:Int}:sg a b=0↔a=b:=by
 unfold sg
 by_cases h1:a<b
 ·simp[h1];omega
 ·by_cases h2:b<a
  ·simp[h1,h2];omega
  ·simp[h1,h2];omega
def fS(a b:ByteArray)(n:Nat):Option (Int⊕ (ByteArray×ByteArray)):=bif !decide (Ywo a n=Ywo b n)then some (.inl (sg (Ywo a n) (Ywo b n)))else none
def cmpS(a b:ByteArray):Int:=match Ywr (fS a b) (min a.size b.size) 0 (.inr (a,b))with
 | .inl i=>i
 | .inr _=>sg a.size b.size
theorem YvM(a b:ByteArray)(ha:a.size<=maxEl)(hb:b.size<=maxEl):q58 loO a b=some (cmpS a b):=by
 have hm:maxEl=1073741824:=rfl
 have hL:Yf2 loO (a,b,0)=some (Ywr (fS a b) (min a.size b.size) 0 (.inr (a,b))):=by
  refine YaE (fun n=>(a,b,(n:Int))) _ (min a.size b.size) _ rfl ?_ (fun n hn=> ?_)
  ·rcases Nat.le_total a.size b.size with h|h
   ·rw[Nat.min_eq_left h];simp[YcX]
   ·rw[Nat.min_eq_right h]
    have e:decide ((b.size:Int)< (b.size:Int))=false:=by simp
    simp only[YcX,e,cond_false]
    cases decide ((b.size:Int)< (a.size:Int))<;>rfl
  ·have e1:decide ((n:Int)< (a.size:Int))=true:=by simp;omega
   have e1':decide ((n:Int)< (b.size:Int))=true:=by simp;omega
   have e2:YA5 .i64 ((n:Int)+1)=((n+1:Nat):Int):=by rw[wr6 (by omega) (by omega)];omega
   have r1:=Ymh a n
   have r2:=Ymh b n
   simp only[YcX,e1,e1',cond_true,e2,Yeo,Ywp,wr6 (show-9223372036854775808<=Ywo a n by omega) (by omega),wr6 (show-9223372036854775808<=Ywo b n by omega) (by omega)]
   rw[chkT _ (by omega),chkT _ (by omega),chkT _ (by omega),chkT _ (by omega)]
   unfold fS
   cases decide (Ywo a n=Ywo b n)<;>rfl
 unfold q58 cmpS
 rw[hL,Ywp]
 rcases Yc2 (f:=fS a b) (r0:=.inr (a,b)) (min a.size b.size) 0 with⟨m,r,h1,h2,h3,h4⟩| ⟨h1,h2⟩
 ·rw[h4]
  unfold fS at h3
  cases hd:decide (Ywo a m=Ywo b m)with
  |true=>rw[hd]at h3;cases h3
  |false=>rw[hd]at h3;injection h3 with h3;subst h3;rfl
 ·rw[h1];simp only[alt2,Yeo,Ywp]
theorem YvN{a b:ByteArray}:cmpS a b=0↔a=b:=by
 unfold cmpS
 rcases Yc2 (f:=fS a b) (r0:=.inr (a,b)) (min a.size b.size) 0 with⟨m,r,h1,h2,h3,h4⟩| ⟨h1,h2⟩
 ·rw[h4]
  unfold fS at h3
  by_cases hd:Ywo a m=Ywo b m
  ·simp[hd]at h3
  ·simp[hd]at h3
   subst h3
   simp only
   rw[sg_zero]
   exact⟨fun h=>absurd h hd,fun h=>by subst h;exact absurd rfl hd⟩
 ·rw[h1]
  simp only[sg_zero]
  constructor
  ·intro h
   have hs:a.size=b.size:=by omega
   refine YvE hs (fun n hn=> ?_)
   have:=h2 n (by omega) (by omega)
   unfold fS at this
   by_cases hd:Ywo a n=Ywo b n
   ·exact hd
   ·simp[hd]at this
  ·intro h;rw[h]
def cmpV(v w:Int×Int×ByteArray):Int:=bif !decide (sg v.1 w.1=0)then sg v.1 w.1 else bif !decide (sg v.2.1 w.2.1=0)then sg v.2.1 w.2.1 else cmpS v.2.2 w.2.2
theorem YvO(v w:Int×Int×ByteArray)(hv:v.2.2.size<=maxEl)(hw:w.2.2.size<=maxEl):q59 loO v.1 v.2.1 v.2.2 w.1 w.2.1 w.2.2=some (cmpV v w):=by
 unfold q59 cmpV
 simp only[Yeo,Ywp,YvM _ _ hv hw]
 cases decide (sg v.1 w.1=0)<;>cases decide (sg v.2.1 w.2.1=0)<;>rfl
theorem cmpV_zero{v w:Int×Int×ByteArray}:cmpV v w=0↔v=w:=by
 obtain⟨a,b,c⟩:=v
 obtain⟨a',b',c'⟩:=w
 unfold cmpV
 by_cases h1:sg a a'=0
 ·by_cases h2:sg b b'=0
  ·simp only[h1,h2,decide_true,YAT,cond_false,YvN]
   rw[sg_zero]at h1 h2
   simp[h1,h2]
  ·simp only[h1,h2,decide_true,decide_false,YAT,YAU,cond_false,cond_true]
   refine⟨fun h=>h.elim,fun h=> ?_⟩
   injection h with _ h;injection h with h _
   exact h2 (sg_zero.2 h)
 ·simp only[h1,decide_false,YAU,cond_true]
  refine⟨fun h=>h.elim,fun h=> ?_⟩
  injection h with h _
  exact h1 (sg_zero.2 h)
def fL(a b:Vals)(n:Nat):Option (Int⊕ (Vals×Vals)):=bif !decide (cmpV (a.getD n zV) (b.getD n zV)=0)then some (.inl (cmpV (a.getD n zV) (b.getD n zV)))else none
def cmpL(a b:Vals):Int:=match Ywr (fL a b) (min a.length b.length) 0 (.inr (a,b))with
 | .inl i=>i
 | .inr _=>sg a.length b.length
theorem YvP(a b:Vals)(ha:SzV a)(hb:SzV b):q60 loO a b=some (cmpL a b):=by
 have hm:maxEl=1073741824:=rfl
 have hal:=ha.1
 have hbl:=hb.1
 have hL:Yf3 loO (a,b,0)=some (Ywr (fL a b) (min a.length b.length) 0 (.inr (a,b))):=by
  refine YaE (fun n=>(a,b,(n:Int))) _ (min a.length b.length) _ rfl ?_ (fun n hn=> ?_)
  ·rcases Nat.le_total a.length b.length with h|h
   ·rw[Nat.min_eq_left h];simp[YcY]
   ·rw[Nat.min_eq_right h]
    have e:decide ((b.length:Int)< (b.length:Int))=false:=by simp
    simp only[YcY,e,cond_false]
    cases decide ((b.length:Int)< (a.length:Int))<;>rfl
  ·have e1:decide ((n:Int)< (a.length:Int))=true:=by simp;omega
   have e1':decide ((n:Int)< (b.length:Int))=true:=by simp;omega
   have e2:YA5 .i64 ((n:Int)+1)=((n+1:Nat):Int):=by rw[wr6 (by omega) (by omega)];omega
   have q1:=ha.2 (a.getD n zV) (Yc3 (by omega))
   have q2:=hb.2 (b.getD n zV) (Yc3 (by omega))
   simp only[YcY,e1,e1',cond_true,e2,YAX]
   rw[chkT _ (by omega),chkT _ (by omega),YvO _ _ q1 q2,Ywp]
   unfold fL
   cases decide (cmpV (a.getD n zV) (b.getD n zV)=0)<;>rfl
 unfold q60 cmpL
 rw[hL,Ywp]
 rcases Yc2 (f:=fL a b) (r0:=.inr (a,b)) (min a.length b.length) 0 with⟨m,r,h1,h2,h3,h4⟩| ⟨h1,h2⟩
 ·rw[h4]
  unfold fL at h3
  cases hd:decide (cmpV (a.getD m zV) (b.getD m zV)=0)with
  |true=>rw[hd]at h3;cases h3
  |false=>rw[hd]at h3;injection h3 with h3;subst h3;rfl
 ·rw[h1];simp only[alt2,Yeo,Ywp]
theorem YvQ{a b:Vals}:cmpL a b=0↔a=b:=by
 unfold cmpL
 rcases Yc2 (f:=fL a b) (r0:=.inr (a,b)) (min a.length b.length) 0 with⟨m,r,h1,h2,h3,h4⟩| ⟨h1,h2⟩
 ·rw[h4]
  unfold fL at h3
  by_cases hd:cmpV (a.getD m zV) (b.getD m zV)=0
  ·rw[decide_eq_true hd]at h3;cases h3
  ·rw[decide_eq_false hd]at h3;injection h3 with h3
   subst h3
   simp only
   exact⟨fun h=>absurd h hd,fun h=>by subst h;exact absurd (cmpV_zero.2 rfl) hd⟩
 ·rw[h1]
  simp only[sg_zero]
  constructor
  ·intro h
   have hs:a.length=b.length:=by omega
   refine YvF (d:=zV) hs (fun n hn=> ?_)
   have:=h2 n (by omega) (by omega)
   unfold fL at this
   by_cases hd:cmpV (a.getD n zV) (b.getD n zV)=0
   ·exact cmpV_zero.1 hd
   ·rw[decide_eq_false hd]at this;cases this
  ·intro h;rw[h]
theorem YvR(a b:Vals)(ha:SzV a)(hb:SzV b):q61 loO a b=some (decide (a=b)):=by
 unfold q61
 rw[YvP a b ha hb,Ywp]
 have:decide (cmpL a b=0)=decide (a=b):=by rw[decide_eq_decide];exact YvQ
 rw[this]
theorem YvS(a:List ByteArray)(ha:a.length<=maxEl):q64 loO a a=some true:=by
 have hm:maxEl=1073741824:=rfl
 have hL:Yf4 loO (a,a,0)=some (Ywr (R:=Bool⊕Unit) (fun _=>none) a.length 0 (.inr ())):=by
  refine YaE (fun n=>(a,a,(n:Int))) _ a.length _ rfl ?_ (fun n hn=> ?_)
  ·simp[Yei]
  ·have e1:decide ((n:Int)< (a.length:Int))=true:=by simp;omega
   have e2:YA5 .i64 ((n:Int)+1)=((n+1:Nat):Int):=by rw[wr6 (by omega) (by omega)];omega
   simp only[Yei,e1,cond_true,e2,decide_true,YAT,cond_false]
   rw[chkT _ (by omega),chkT _ (by omega)]
 unfold q64
 simp only[decide_true,YAT,cond_false]
 rw[hL,Ywp,Ygf _ _ (fun _ _ _=>rfl)];rfl
theorem Ymo(nm:ByteArray)(attrs:List ByteArray)(rows:Rws)(ha:attrs.length<=maxEl)(hr:SzR rows):q66 loO nm attrs rows nm attrs rows=some true:=by
 have hm:maxEl=1073741824:=rfl
 have hrl:=hr.1
 have hL:Yf5 loO (0,nm,attrs,rows,nm,attrs,rows)=some (Ywr (R:=Bool⊕Unit) (fun _=>none) rows.length 0 (.inr ())):=by
  refine YaE (fun n=>((n:Int),nm,attrs,rows,nm,attrs,rows)) _ rows.length _ rfl ?_ (fun n hn=> ?_)
  ·simp[Yej]
  ·have e1:decide ((n:Int)< (rows.length:Int))=true:=by simp;omega
   have e2:YA5 .i64 ((n:Int)+1)=((n+1:Nat):Int):=by rw[wr6 (by omega) (by omega)];omega
   have q:=hr.2 (rows.getD n zR) (Yc3 hn)
   simp only[Yej,q65,e1,cond_true,e2,decide_true,YAX,YvR _ _ q q,Ywp,YAT,cond_false]
   rw[chkT _ (by omega),chkT _ (by omega)]
 unfold q66
 simp only[decide_true,YAT,cond_false,YvS attrs ha,Ywp]
 rw[hL,Ywp,Ygf _ _ (fun _ _ _=>rfl)];rfl
end
end Go.Abs.G03
namespace Go.Abs.G03
open Go Go.Abs
noncomputable section
theorem _root_.Go.Abs.sz3{t1 t2 t3:Ty}{r:Cs}{x:(Cs.cons t1 (Cs.cons t2 (Cs.cons t3 r))).den}{N:Nat}(h:Cs.sz (Cs.cons t1 (Cs.cons t2 (Cs.cons t3 r))) x<=N):t3.sz (fstP _ (sndP _ (sndP _ x)))<=N:=by
 simp only[Cs.sz]at h;omega
theorem _root_.Go.Abs.sz5{t1 t2 t3 t4 t5:Ty}{r:Cs}{x:(Cs.cons t1 (Cs.cons t2 (Cs.cons t3 (Cs.cons t4 (Cs.cons t5 r))))).den}{N:Nat}(h:Cs.sz (Cs.cons t1 (Cs.cons t2 (Cs.cons t3 (Cs.cons t4 (Cs.cons t5 r))))) x<=N):t5.sz (fstP _ (sndP _ (sndP _ (sndP _ (sndP _ x)))))<=N:=by
 simp only[Cs.sz]at h;omega
theorem YvT(nm:ByteArray)(attrs:List ByteArray)(rows:Rws):q53 loO nm attrs rows=some (decide (rows.length<=12)&&decide (attrs.length<=20)):=by
 unfold q53
 have e1:decide ((rows.length:Int)<=12)=decide (rows.length<=12):=by rw[decide_eq_decide];omega
 have e2:decide ((attrs.length:Int)<=20)=decide (attrs.length<=20):=by rw[decide_eq_decide];omega
 rw[e1,e2]
 cases decide (rows.length<=12)<;>rfl
def pId(rows:Rws)(id:Int)(m:Nat):Bool:=decide ((rows.getD m zR).1=id)
def YxG(rows:Rws)(id:Int):Int×Bool:=(max (idxR (pId rows id) rows.length 0) 0,decide (0<=idxR (pId rows id) rows.length 0))
theorem YzL(nm:ByteArray)(attrs:List ByteArray)(rows:Rws)(id:Int)(hr:rows.length<=maxEl):q81 loO nm attrs rows id=some (YxG rows id):=by
 have hm:maxEl=1073741824:=rfl
 have hL:Yf6 loO (rows,(rows.length:Int),0,id)=some (Ywr (R:=(Int×Int)⊕Int) (fun m=>bif pId rows id m then some (.inl ((m:Int),id))else none) rows.length 0 (.inr id)):=by
  refine YaE (fun n=>(rows,(rows.length:Int),(n:Int),id)) _ rows.length _ rfl ?_ (fun n hn=> ?_)
  ·simp[Yek]
  ·have e1:decide ((n:Int)< (rows.length:Int))=true:=by simp;omega
   have e2:YA5 .i64 ((n:Int)+1)=((n+1:Nat):Int):=by rw[wr6 (by omega) (by omega)];omega
   simp only[Yek,e1,cond_true,e2,YAX,q79,Ywp]
   rw[chkT _ (by omega)]
   unfold pId
   cases decide ((rows.getD n zR).1=id)<;>rfl
 have hI:q80 loO rows id=some (idxR (pId rows id) rows.length 0,id):=by
  unfold q80 idxR
  rw[hL,Ywp]
  have:=Yme (f:=fun m=>bif pId rows id m then some (Sum.inl (m:Int))else none) (fun x:Int⊕Unit=>match x with| .inl i=>(Sum.inl (i,id):(Int×Int)⊕Int)| .inr _=>.inr id) (r0:=.inr ()) rows.length 0
  have e:(fun m=>(bif pId rows id m then some (Sum.inl (m:Int))else none:Option (Int⊕Unit)).map fun x:Int⊕Unit=>match x with| .inl i=>(Sum.inl (i,id):(Int×Int)⊕Int)| .inr _=>.inr id)=fun m=>bif pId rows id m then some (.inl ((m:Int),id))else none:=by
   funext m;cases pId rows id m<;>rfl
  rw[e]at this
  rw[<-this]
  cases Ywr (R:=Int⊕Unit) (fun m=>bif pId rows id m then some (Sum.inl (m:Int))else none) rows.length 0 (.inr ())<;>rfl
 unfold q81 YxG
 rw[hI,Ywp]
theorem YzZ(nm:ByteArray)(attrs:List ByteArray)(rows:Rws)(id:Int)(hr:rows.length<=maxEl):q82 loO nm attrs rows id=some (YxG rows id):=by
 have hm:maxEl=1073741824:=rfl
 have hL:Yf7 loO (id,0,nm,attrs,rows)=some (Ywr (R:=(Int×Bool)⊕Unit) (fun m=>bif pId rows id m then some (.inl ((m:Int),true))else none) rows.length 0 (.inr ())):=by
  refine YaE (fun n=>(id,(n:Int),nm,attrs,rows)) _ rows.length _ rfl ?_ (fun n hn=> ?_)
  ·simp[Yel]
  ·have e1:decide ((n:Int)< (rows.length:Int))=true:=by simp;omega
   have e2:YA5 .i64 ((n:Int)+1)=((n+1:Nat):Int):=by rw[wr6 (by omega) (by omega)];omega
   simp only[Yel,e1,cond_true,e2,YAX]
   rw[chkT _ (by omega)]
   unfold pId
   cases decide ((rows.getD n zR).1=id)<;>rfl
 unfold q82 YxG
 rw[hL,Ywp]
 have: ∀k n,(match Ywr (R:=(Int×Bool)⊕Unit) (fun m=>bif pId rows id m then some (.inl ((m:Int),true))else none) k n (.inr ())with| .inl x=>(some (x.1,x.2):Option (Int×Bool))| .inr _=>some (0,false))=some (max (idxR (pId rows id) k n) 0,decide (0<=idxR (pId rows id) k n)):=by
  intro k
  induction k with
  |zero=>intro n;rfl
  |succ k ih=>
   intro n
   have:=ih (n+1)
   unfold idxR at this⊢
   simp only[Ywr]
   by_cases hp:pId rows id n=true
   ·simp[hp]
   ·simp only[Bool.not_eq_true]at hp;simpa[hp]using this
 rw[<-this]
 cases Ywr (R:=(Int×Bool)⊕Unit) (fun m=>bif pId rows id m then some (.inl ((m:Int),true))else none) rows.length 0 (.inr ())<;>rfl
theorem Ymp(r:Int×Vals)(h:SzV r.2):q87 loO r.1 r.2=some r:=by
 unfold q87 q86
 have:(YAB r.2.length maxEl&&YAB 1 3)=true:=by simp;exact h.1
 rw[this];rfl
theorem Ymq(r:Int×Vals)(h:SzV r.2):q91 loO r.1 r.2=some r:=by
 unfold q91
 rw[chkT _ h.1]
theorem YzM(nm:ByteArray)(attrs:List ByteArray)(rows rows1:Rws)(ha:attrs.length<=maxEl)(hr:SzR rows1):q95 loO nm attrs rows rows1=some (nm,attrs,rows1):=by
 have hm:maxEl=1073741824:=rfl
 have hrl:=hr.1
 have hL:Yf8 loO (rows1,(rows1.length:Int),0,YA4 #[],[],[],nm,attrs,[])=some (YA4 #[],[],[],nm,attrs,rows1):=by
  refine Yl9 (N:=rows1.length) (st:=fun n=>(rows1,(rows1.length:Int),(n:Int),YA4 #[],[],[],nm,attrs,rows1.take n)) rfl ?_ (fun n hn=> ?_)
  ·simp[Yem]
  ·have e1:decide ((n:Int)< (rows1.length:Int))=true:=by simp;omega
   have e2:YA5 .i64 ((n:Int)+1)=((n+1:Nat):Int):=by rw[wr6 (by omega) (by omega)];omega
   simp only[Yem,e1,cond_true,e2,YAX,Ymp _ (hr.2 (rows1.getD n zR) (Yc3 hn)),Ywp]
   rw[chkT _ (by omega),chkT _ (by simp;omega),Ygi (d:=zR) hn]
 unfold q95 q19
 have:(YAB attrs.length maxEl&&YAB 1 1)=true:=by simp;exact ha
 simp only[this,cond_true,Ywp]
 rw[hL];rfl
theorem Yz0(nm:ByteArray)(attrs:List ByteArray)(rows rows1:Rws)(ha:attrs.length<=maxEl)(hr:SzR rows1):q105 loO nm attrs rows rows1=some (nm,attrs,rows1):=by
 have hm:maxEl=1073741824:=rfl
 have hrl:=hr.1
 have hL:Ygc loO (rows1,0,YA4 #[],[],[],nm,attrs,[])=some (YA4 #[],[],[],nm,attrs,rows1):=by
  refine Yl9 (N:=rows1.length) (st:=fun n=>(rows1,(n:Int),YA4 #[],[],[],nm,attrs,rows1.take n)) rfl ?_ (fun n hn=> ?_)
  ·simp[Yen]
  ·have e1:decide ((n:Int)< (rows1.length:Int))=true:=by simp;omega
   have e2:YA5 .i64 ((n:Int)+1)=((n+1:Nat):Int):=by rw[wr6 (by omega) (by omega)];omega
   simp only[Yen,e1,cond_true,e2,YAX,Ymq _ (hr.2 (rows1.getD n zR) (Yc3 hn)),Ywp]
   rw[chkT _ (by omega),chkT _ (by simp;omega),Ygi (d:=zR) hn]
 unfold q105
 rw[chkT _ ha,hL];rfl
theorem YvU(A B:Rws)(h:A.length+B.length<=1000):q97 loO [A,B]=some (A++B):=by
 have hm:maxEl=1073741824:=rfl
 have e0:([A,B].length:Int)=2:=rfl
 have w1:YA5 .i64 ((0:Int)+1)=1:=by rw[wr6 (by omega) (by omega)];rfl
 have w2:YA5 .i64 ((1:Int)+1)=2:=by rw[wr6 (by omega) (by omega)];rfl
 have w3:YA5 .i64 ((0:Int)+(A.length:Int))=(A.length:Int):=by rw[wr6 (by omega) (by omega)];omega
 have w4:YA5 .i64 ((A.length:Int)+(B.length:Int))=(A.length:Int)+(B.length:Int):=wr6 (by omega) (by omega)
 have c0:decide ((0:Int)<2)=true:=rfl
 have c1:decide ((1:Int)<2)=true:=rfl
 have c2:decide ((2:Int)<2)=false:=rfl
 have g0:[A,B].getD (0:Int).toNat []=A:=rfl
 have g1:[A,B].getD (1:Int).toNat []=B:=rfl
 have n1:decide ((A.length:Int)<0)=false:=by rw[decide_eq_false_iff_not];omega
 have n2:decide ((A.length:Int)+(B.length:Int)<0)=false:=by rw[decide_eq_false_iff_not];omega
 have hL11:Yf9 loO ([A,B],0,[A,B],2,0)=some ([A,B],(A.length:Int)+(B.length:Int)):=by
  show YwP _ _=_
  rw[YaD];simp only[YcZ,c0,cond_true,e0,g0,w3,n1,cond_false,w1]
  rw[chkT _ (by omega)];simp only
  rw[YaD];simp only[YcZ,c1,cond_true,e0,g1,w4,n2,cond_false,w2]
  rw[chkT _ (by omega)];simp only
  rw[YaD];simp only[YcZ,c2,cond_false]
 have hL3:Yga loO ([A,B],2,0,[])=some (A++B):=by
  show YwP _ _=_
  rw[YaD];simp only[Yc0,c0,cond_true,e0,g0,w1]
  rw[chkT _ (by omega),chkT _ (by simp;omega)];simp only
  rw[YaD];simp only[Yc0,c1,cond_true,e0,g1,w2]
  rw[chkT _ (by omega),chkT _ (by simp;omega)];simp only
  rw[YaD];simp only[Yc0,c2,cond_false,YAr]
 unfold q97
 rw[e0,hL11,Ywp]
 have hG:q96 loO ((A.length:Int)+(B.length:Int))=some []:=by
  unfold q96
  have:(decide (0<=(A.length:Int)+(B.length:Int))&&decide ((A.length:Int)+(B.length:Int)<=1048576))=true:=by simp;omega
  rw[this];rfl
 rw[hG,Ywp]
 simp only[e0]
 rw[hL3];rfl
end
end Go.Abs.G03
namespace Go.Abs.G03
open Go Go.Abs
noncomputable section
def YxL(attrs:List ByteArray)(rows:Rws):Prop:=(∀m,m<rows.length->0< (rows.getD m zR).1/\ (rows.getD m zR).2.length=attrs.length/\vsB (rows.getD m zR).2=true)/\ ∀a b,a<b->b<rows.length->(rows.getD a zR).1< (rows.getD b zR).1
theorem YvV{attrs:List ByteArray}{rows:Rws}:(∀m,m<rows.length->fV attrs rows m=none)↔YxL attrs rows:=by
 have one: ∀m,fV attrs rows m=none↔ (Yw1 rows m< (rows.getD m zR).1/\ (rows.getD m zR).2.length=attrs.length/\vsB (rows.getD m zR).2=true):=by
  intro m
  unfold fV
  by_cases h1:(rows.getD m zR).1<=Yw1 rows m
  ·simp only[h1,decide_true,cond_true];constructor
   ·intro h;cases h
   ·rintro⟨h,_⟩;omega
  ·by_cases h2:((rows.getD m zR).2.length:Int)=(attrs.length:Int)
   ·simp only[h1,h2,decide_false,cond_false,decide_true,YAT]
    cases vsB (rows.getD m zR).2 with
    |true=>
     simp only[YAT,cond_false,true_iff,and_true]
     exact⟨by omega,by omega⟩
    |false=>
     simp only[YAU,cond_true]
     constructor
     ·intro h;cases h
     ·rintro⟨_,_,h⟩;cases h
   ·simp only[h1,h2,decide_false,cond_false,YAU,cond_true]
    constructor
    ·intro h;cases h
    ·rintro⟨_,h,_⟩;omega
 constructor
 ·intro h
  have h': ∀m,m<rows.length->Yw1 rows m< (rows.getD m zR).1/\ (rows.getD m zR).2.length=attrs.length/\vsB (rows.getD m zR).2=true:=fun m hm=>(one m).1 (h m hm)
  have hpos: ∀m,m<rows.length->0< (rows.getD m zR).1:=by
   intro m
   induction m with
   |zero=>intro hm;exact(h' 0 hm).1
   |succ m ih=>intro hm;have:=ih (by omega);have:=(h' (m+1) hm).1;simp only[Yw1]at this;omega
  refine⟨fun m hm=>⟨hpos m hm,(h' m hm).2⟩,fun a b hab=> ?_⟩
  induction b with
  |zero=>omega
  |succ b ih=>
   intro hb
   have h1:=(h' (b+1) hb).1
   simp only[Yw1]at h1
   by_cases e:a=b
   ·subst e;exact h1
   ·have:=ih (by omega) (by omega);omega
 ·rintro⟨h1,h2⟩ m hm
  refine(one m).2 ⟨?_,(h1 m hm).2⟩
  cases m with
  |zero=>exact(h1 0 hm).1
  |succ m=>exact h2 m (m+1) (by omega) hm
theorem Ymr{f:Nat->Option (Int⊕Unit)}(hf: ∀m i,f m=some i->i≠ .inl 0/\i≠ .inr ()): ∀k n,(match Ywr f k n (.inr ())with| .inl i=>i| .inr _=>(0:Int))=0↔ ∀m,n<=m->m<n+k->f m=none
 |0,n=>by simp[Ywr];intro m h1 h2;omega
 |k+1,n=>by
  simp only[Ywr]
  cases hn:f n with
  |some i=>
   have:=hf n i hn
   constructor
   ·intro h
    cases i with
    |inl z=>simp only at h;subst h;exact absurd rfl this.1
    |inr u=>cases u;exact absurd rfl this.2
   ·intro h;have:=h n (YAz _) (by omega);rw[hn]at this;cases this
  |none=>
   have ih:=Ymr hf k (n+1)
   simp only
   rw[ih]
   constructor
   ·intro h m h1 h2
    by_cases e:m=n
    ·rw[e];exact hn
    ·exact h m (by omega) (by omega)
   ·intro h m h1 h2;exact h m (by omega) (by omega)
theorem YvW{attrs:List ByteArray}{rows:Rws}(m:Nat)(i:Int⊕Unit)(h:fV attrs rows m=some i):i≠ .inl 0/\i≠ .inr ():=by
 unfold fV at h
 cases h1:decide ((rows.getD m zR).1<=Yw1 rows m)<;>rw[h1]at h
 ·cases h2:(!decide (((rows.getD m zR).2.length:Int)=(attrs.length:Int)))<;>rw[h2]at h
  ·cases h3:(!vsB (rows.getD m zR).2)<;>rw[h3]at h
   ·cases h
   ·injection h with h;subst h;simp
  ·injection h with h;subst h;simp
 ·injection h with h;subst h;simp
def Yyl(nm:ByteArray)(attrs:List ByteArray):Prop:=Yxp nm=true/\attrs.length<=16/\anyN (fA attrs) attrs.length 0=false
theorem Yms(nm:ByteArray)(attrs:List ByteArray)(rows:Rws):Yxl nm attrs rows=0↔Yyl nm attrs/\rows.length<=1000/\YxL attrs rows:=by
 unfold Yxl Yyl
 cases h0:Yxp nm with
 |false=>simp
 |true=>
  by_cases h1:(16:Int)< (attrs.length:Int)
  ·simp only[h1,YAT,cond_false,decide_true,cond_true]
   constructor
   ·intro h;cases h
   ·rintro⟨⟨_,h,_⟩,_⟩;omega
  ·by_cases h2:(1000:Int)< (rows.length:Int)
   ·simp only[h1,h2,YAT,cond_false,decide_true,decide_false,cond_true]
    constructor
    ·intro h;cases h
    ·rintro⟨_,h,_⟩;omega
   ·simp only[h1,h2,YAT,cond_false,decide_false]
    cases h3:anyN (fA attrs) attrs.length 0 with
    |true=>simp
    |false=>
     simp only[cond_false]
     refine(Ymr (YvW (attrs:=attrs) (rows:=rows)) rows.length 0).trans ?_
     rw[<-YvV]
     constructor
     ·intro h;exact⟨⟨trivial,by omega,trivial⟩,by omega,fun m hm=>h m (YAJ _) (by omega)⟩
     ·rintro⟨_,_,h⟩ m _ hm;exact h m (by omega)
def Pos(rows:Rws)(id:Int)(p:Nat):Prop:=p<=rows.length/\ (∀i,i<p->(rows.getD i zR).1<id)/\ ∀i,p<=i->i<rows.length->id< (rows.getD i zR).1
def insR(rows:Rws)(p:Nat)(r:Int×Vals):Rws:=rows.take p++([r]++rows.drop p)
theorem Yce{rows:Rws}{p:Nat}{r:Int×Vals}(h:p<=rows.length):(insR rows p r).length=rows.length+1:=by simp[insR];omega
theorem Ya0{rows:Rws}{p:Nat}{r:Int×Vals}(h:p<=rows.length)(m:Nat):(insR rows p r).getD m zR=if m<p then rows.getD m zR else if m=p then r else rows.getD (m-1) zR:=by
 unfold insR
 have hl:(rows.take p).length=p:=by simp;omega
 simp only[List.getD_eq_getElem?_getD]
 by_cases h1:m<p
 ·rw[if_pos h1,Yz5 (by omega),YAc,if_pos h1]
 ·rw[if_neg h1,Yz8 (by omega),hl]
  by_cases h2:m=p
  ·subst h2;simp
  ·rw[if_neg h2]
   obtain⟨k,rfl⟩: ∃k,m=p+1+k:=⟨m-p-1,by omega⟩
   rw[Yz8 (by simp;omega),YAi]
   have e:p+(p+1+k-p-[r].length)=p+1+k-1:=by simp;omega
   rw[e]
theorem Ymt{rows:Rws}{p:Nat}{r:Int×Vals}(hp:p<=rows.length)(hl:rows.length<=1000)(h:SzR rows)(hr:SzV r.2):SzR (insR rows p r):=by
 have hm:maxEl=1073741824:=rfl
 refine⟨by rw[Yce hp];omega,fun q hq=> ?_⟩
 simp only[insR,List.mem_append,YAq]at hq
 rcases hq with h'|h'|h'
 ·exact h.2 q (List.mem_of_mem_take h')
 ·rw[h'];exact hr
 ·exact h.2 q (List.mem_of_mem_drop h')
theorem YvX{attrs:List ByteArray}{rows:Rws}{p:Nat}{r:Int×Vals}(h:YxL attrs rows)(hp:Pos rows r.1 p)(h0:0<r.1)(h1:r.2.length=attrs.length)(h2:vsB r.2=true):YxL attrs (insR rows p r):=by
 have hpl:=hp.1
 refine⟨fun m hm=> ?_,fun a b hab hb=> ?_⟩
 ·rw[Yce hpl]at hm
  rw[Ya0 hpl]
  by_cases e1:m<p
  ·rw[if_pos e1];exact h.1 m (by omega)
  ·rw[if_neg e1]
   by_cases e2:m=p
   ·rw[if_pos e2];exact⟨h0,h1,h2⟩
   ·rw[if_neg e2];exact h.1 (m-1) (by omega)
 ·rw[Yce hpl]at hb
  rw[Ya0 hpl,Ya0 hpl]
  by_cases a1:a<p
  ·rw[if_pos a1]
   by_cases b1:b<p
   ·rw[if_pos b1];exact h.2 a b hab (by omega)
   ·rw[if_neg b1]
    by_cases b2:b=p
    ·rw[if_pos b2];exact hp.2.1 a a1
    ·rw[if_neg b2]
     have c1:=hp.2.1 a a1
     have c2:=hp.2.2 (b-1) (by omega) (by omega)
     omega
  ·rw[if_neg a1,if_neg (show¬b<p by omega),if_neg (show¬b=p by omega)]
   by_cases a2:a=p
   ·rw[if_pos a2];exact hp.2.2 (b-1) (by omega) (by omega)
   ·rw[if_neg a2];exact h.2 (a-1) (b-1) (by omega) (by omega)
theorem w64(n:Int):YA5 .u64 n=n % 18446744073709551616:=by
 have e:(2:Int)^IntKind.bits .u64=18446744073709551616:=rfl
 have s:IntKind.signed .u64=false:=rfl
 simp only[YA5,e,s,Bool.false_and];rfl
theorem YvY(i j:Nat)(hi:i<=100000)(hj:j<=100000):YA5 .i64 ((YA5 .u64 (YA5 .i64 ((i:Int)+(j:Int)))).fdiv (2^(min (1:Int).toNat (IntKind.bits .u64))))=(((i+j)/2:Nat):Int):=by
 have e1:(2:Int)^(min (1:Int).toNat (IntKind.bits .u64))=2:=rfl
 have e2:YA5 .i64 ((i:Int)+(j:Int))=(i:Int)+(j:Int):=wr6 (by omega) (by omega)
 rw[e1,e2,w64,Int.emod_eq_of_lt (by omega) (by omega),Int.fdiv_eq_ediv_of_nonneg _ (by omega)]
 rw[wr6 (by omega) (by omega)]
 omega
theorem YvZ{rows:Rws}{id:Int}{h1:ByteArray}{h2:List ByteArray}(hn:rows.length<=1000)(hs: ∀a b,a<b->b<rows.length->(rows.getD a zR).1< (rows.getD b zR).1)(hne: ∀m,m<rows.length->(rows.getD m zR).1≠id):
  ∀k i j,j-i<=k->i<=j->j<=rows.length->(∀m,m<i->(rows.getD m zR).1<id)->(∀m,j<=m->m<rows.length->id< (rows.getD m zR).1)->
   ∃p,Pos rows id p/\YwP (YbR loO) (id,(rows.length:Int),(i:Int),(j:Int),rows,h1,h2)=some (id,(rows.length:Int),(p:Int),rows,h1,h2):=by
 intro k
 induction k with
 |zero=>
  intro i j hk hij hj hlo hhi
  refine⟨i,⟨by omega,hlo,fun m h3 h4=>hhi m (by omega) h4⟩,?_⟩
  rw[YaD]
  have e1:decide ((i:Int)< (j:Int))=false:=by simp;omega
  simp only[YbR,e1,cond_false]
 |succ k ih=>
  intro i j hk hij hj hlo hhi
  by_cases he:i=j
  ·exact ih i j (by omega) hij hj hlo hhi
  ·have hlt:(i+j)/2<j:=by omega
   have hge:i<=(i+j)/2:=by omega
   have hhalf:=YvY i j (by omega) (by omega)
   generalize(i+j)/2=h at hlt hge hhalf
   have e1:decide ((i:Int)< (j:Int))=true:=by simp;omega
   have e2:YA5 .i64 ((h:Int)+1)=((h+1:Nat):Int):=by rw[wr6 (by omega) (by omega)];omega
   by_cases hc:(rows.getD h zR).1<id
   ·obtain⟨p,hp,e⟩:=ih (h+1) j (by omega) (by omega) hj (fun m hm=>by
     by_cases hmh:m=h
     ·rw[hmh];exact hc
     ·have:=hs m h (by omega) (by omega);omega) hhi
    refine⟨p,hp,?_⟩
    rw[YaD]
    have hI:q101 loO (rows.getD h zR).1 (rows.getD h zR).2 id=some (-1):=by unfold q101;rw[decide_eq_true hc];rfl
    simp only[YbR,e1,cond_true,hhalf,YAX,hI,Ywp,e2]
    rw[chkT _ (by omega),chkT _ (by omega)]
    simp only[show decide ((-1:Int)<0)=true from rfl,cond_true]
    exact e
   ·have hgt:id< (rows.getD h zR).1:=by have:=hne h (by omega);omega
    obtain⟨p,hp,e⟩:=ih i h (by omega) (by omega) (by omega) hlo (fun m hm hml=>by
     by_cases hmh:m=h
     ·rw[hmh];exact hgt
     ·have:=hs h m (by omega) hml;omega)
    refine⟨p,hp,?_⟩
    rw[YaD]
    have hI:q101 loO (rows.getD h zR).1 (rows.getD h zR).2 id=some 1:=by unfold q101;rw[decide_eq_false hc,decide_eq_true hgt];rfl
    simp only[YbR,e1,cond_true,hhalf,YAX,hI,Ywp]
    rw[chkT _ (by omega),chkT _ (by omega)]
    simp only[show decide ((1:Int)<0)=false from rfl,cond_false]
    exact e
theorem Yv0{rows:Rws}{id:Int}{h1:ByteArray}{h2:List ByteArray}(hn:rows.length<=1000)(hs: ∀a b,a<b->b<rows.length->(rows.getD a zR).1< (rows.getD b zR).1)(hne: ∀m,m<rows.length->(rows.getD m zR).1≠id):
  ∃p b,Pos rows id p/\q102 loO id rows h1 h2=some ((p:Int),b,rows,h1,h2):=by
 obtain⟨p,hp,e⟩:=YvZ (h1:=h1) (h2:=h2) hn hs hne rows.length 0 rows.length (by omega) (by omega) (YAz _) (fun m h=>by omega) (fun m h3 h4=>by omega)
 unfold q102 Ygb
 have e:loO.run (YbR loO) (id,(rows.length:Int),0,(rows.length:Int),rows,h1,h2)=some (id,(rows.length:Int),(p:Int),rows,h1,h2):=e
 rw[e,Ywp]
 by_cases hpl:p<rows.length
 ·have e1:decide ((p:Int)< (rows.length:Int))=true:=by simp;omega
  have hgt:=hp.2.2 p (YAz _) hpl
  have hI:q101 loO (rows.getD p zR).1 (rows.getD p zR).2 id=some 1:=by unfold q101;rw[decide_eq_false (by omega),decide_eq_true hgt];rfl
  refine⟨p,decide ((1:Int)=0),hp,?_⟩
  simp only[e1,cond_true,YAX,hI,Ywp]
  rw[chkT _ (by omega)]
 ·have e1:decide ((p:Int)< (rows.length:Int))=false:=by simp;omega
  refine⟨p,false,hp,?_⟩
  simp only[e1,cond_false]
theorem Yv1{rows:Rws}{r:Int×Vals}{k:Nat}(hk:k<rows.length):
  ((insR rows (k+1) r).set (k+1) ((insR rows (k+1) r).getD k zR)).set k ((insR rows (k+1) r).getD (k+1) zR)=insR rows k r:=by
 rw[Ya0 (by omega),Ya0 (by omega),if_pos (by omega),if_neg (by omega),if_pos rfl]
 have ht:rows.take (k+1)=rows.take k++[rows.getD k zR]:=Ygi (d:=zR) hk
 have hd:rows.drop k=rows.getD k zR::rows.drop (k+1):=by
  rw[List.drop_eq_getElem_cons hk,List.getD_eq_getElem?_getD,Yz3 hk];rfl
 have hl:(rows.take k).length=k:=by simp;omega
 unfold insR
 rw[ht,hd]
 generalize rows.getD k zR=c
 generalize rows.drop (k+1)=B
 generalize rows.take k=A at hl
 subst hl
 have e1:(A++[c]++([r]++B)).set (A.length+1) c=A++[c]++([c]++B):=by
  rw[List.set_append_right _ _ (by simp)]
  simp
 rw[e1]
 have e2:A++[c]++([c]++B)=A++(c::c::B):=by simp
 rw[e2,List.set_append_right _ _ (by simp)]
 simp
theorem YzN{rows:Rws}{r:Int×Vals}{p:Nat}{nm:ByteArray}{attrs:List ByteArray}(hn:rows.length<=1000)(hp:Pos rows r.1 p): ∀d k,k=p+d->k<=rows.length->
  YwP (Ycc loO) ((k:Int),YA4 #[],[],[],nm,attrs,insR rows k r)=some (YA4 #[],[],[],nm,attrs,insR rows p r):=by
 intro d
 induction d with
 |zero=>
  intro k hk hkl
  have hk:k=p:=by omega
  subst hk
  rw[YaD]
  by_cases h0:k=0
  ·subst h0
   simp only[Ycc,show decide ((0:Int)< ((0:Nat):Int))=false from rfl,cond_false]
  ·obtain⟨q,rfl⟩: ∃q,k=q+1:=⟨k-1,by omega⟩
   have e1:decide ((0:Int)< ((q+1:Nat):Int))=true:=decide_eq_true (by omega)
   have e2:YA5 .i64 (((q+1:Nat):Int)-1)=(q:Int):=(wr6 (by omega) (by omega)).trans (by omega)
   have hl:=Yce (r:=r) hp.1
   have e3:decide (((insR rows (q+1) r).getD (q+1) zR).1< ((insR rows (q+1) r).getD q zR).1)=false:=by
    rw[Ya0 hp.1,Ya0 hp.1,if_neg (by omega),if_pos rfl,if_pos (by omega)]
    have:=hp.2.1 q (by omega)
    exact decide_eq_false (by omega)
   simp only[Ycc,e1,cond_true,e2,YAX,e3,cond_false]
   rw[chkT _ (by omega),chkT _ (by omega)]
 |succ d ih=>
  intro k hk hkl
  obtain⟨q,rfl⟩: ∃q,k=q+1:=⟨k-1,by omega⟩
  have:=ih q (by omega) (by omega)
  rw[YaD]
  have e1:decide ((0:Int)< ((q+1:Nat):Int))=true:=decide_eq_true (by omega)
  have e2:YA5 .i64 (((q+1:Nat):Int)-1)=(q:Int):=(wr6 (by omega) (by omega)).trans (by omega)
  have hl:=Yce (r:=r) hkl
  have e3:decide (((insR rows (q+1) r).getD (q+1) zR).1< ((insR rows (q+1) r).getD q zR).1)=true:=by
   rw[Ya0 hkl,Ya0 hkl,if_neg (by omega),if_pos rfl,if_pos (by omega)]
   have:=hp.2.2 q (by omega) (by omega)
   exact decide_eq_true (by omega)
  simp only[Ycc,e1,cond_true,e2,YAX,e3]
  rw[chkT _ (by omega),chkT _ (by omega),chkT _ (by omega),chkT _ (by omega),chkT _ (by omega),chkT _ (by rw[YAu];omega),Yv1 (by omega)]
  exact this
end
end Go.Abs.G03
namespace Go.Abs.G03
open Go Go.Abs
noncomputable section
theorem Yv2{rows:Rws}{id:Int}(h:(YxG rows id).2=false): ∀m,m<rows.length->(rows.getD m zR).1≠id:=by
 unfold YxG at h
 simp only at h
 rw[Ygg]at h
 have: ∀k n,anyN (pId rows id) k n=false-> ∀m,n<=m->m<n+k->pId rows id m=false:=by
  intro k
  induction k with
  |zero=>intro n _ m h1 h2;omega
  |succ k ih=>
   intro n hn m h1 h2
   simp only[anyN,Bool.or_eq_false_iff]at hn
   by_cases e:m=n
   ·rw[e];exact hn.1
   ·exact ih (n+1) hn.2 m (by omega) (by omega)
 intro m hm
 have:=this rows.length 0 h m (YAJ _) (by omega)
 unfold pId at this
 simpa using this
theorem Yv3{rows:Rws}{id:Int}{p:Nat}(hp:p<rows.length)(he:(rows.getD p zR).1=id)(hb: ∀m,m<p->(rows.getD m zR).1≠id):YxG rows id=((p:Int),true):=by
 have key: ∀k n,n<=p->p<n+k->idxR (pId rows id) k n=(p:Int):=by
  intro k
  induction k with
  |zero=>intro n h1 h2;omega
  |succ k ih=>
   intro n h1 h2
   unfold idxR
   simp only[Ywr]
   by_cases e:n=p
   ·subst e
    have:pId rows id n=true:=by unfold pId;exact decide_eq_true he
    simp[this]
   ·have:pId rows id n=false:=by unfold pId;exact decide_eq_false (hb n (by omega))
    rw[this]
    have:=ih (n+1) (by omega) (by omega)
    unfold idxR at this
    simpa using this
 have:=key rows.length 0 (YAJ _) (by omega)
 unfold YxG
 rw[this]
 have e1:max (p:Int) 0=(p:Int):=by omega
 rw[e1]
 have:decide (0<=(p:Int))=true:=decide_eq_true (by omega)
 rw[this]
def InsC(nm:ByteArray)(attrs:List ByteArray)(rows:Rws)(r:Int×Vals)(y:ByteArray×List ByteArray×Rws×Int):Prop:=y.2.2.2=0->Yyl nm attrs/\YxL attrs rows/\rows.length<1000/\0<r.1/\r.2.length=attrs.length/\vsB r.2=true/\ ∃p,Pos rows r.1 p/\y=(nm,attrs,insR rows p r,0)
theorem Yv4(nm:ByteArray)(attrs:List ByteArray)(rows:Rws)(r:Int×Vals)(hr:SzR rows)(hrv:SzV r.2):
  ∃y:ByteArray×List ByteArray×Rws×Int,q104 loO nm attrs rows r.1 r.2=some y/\q106 loO nm attrs rows r.1 r.2=some y/\y.2.1.length<=maxEl/\SzR y.2.2.1/\
   InsC nm attrs rows r y:=by
 have hm:maxEl=1073741824:=rfl
 have hz: ∀e:Int,e≠0-> ∃y:ByteArray×List ByteArray×Rws×Int,(some (YA4 #[],[],[],e):Option (ByteArray×List ByteArray×Rws×Int))=some y/\ (some (YA4 #[],[],[],e):Option (ByteArray×List ByteArray×Rws×Int))=some y/\y.2.1.length<=maxEl/\SzR y.2.2.1/\
   InsC nm attrs rows r y:=
  fun e he=>⟨_,rfl,rfl,by simp,⟨by simp,fun r h=>by cases h⟩,fun h=>absurd h he⟩
 unfold q104 q106
 simp only[Yzb,YzK,Ywp,YzL _ _ _ _ hr.1,YzZ _ _ _ _ hr.1]
 by_cases hv:Yxl nm attrs rows=0
 ·obtain⟨v1,v2,v3⟩:=(Yms _ _ _).1 hv
  simp only[hv,decide_true,YAT,cond_false]
  by_cases hl:(r.2.length:Int)=(attrs.length:Int)
  ·simp only[hl,decide_true,YAT,cond_false]
   have v12:=v1.2.1
   by_cases h0:r.1<=0
   ·simp only[h0,decide_true,cond_true];exact hz 1 (by omega)
   ·simp only[h0,decide_false,cond_false,Ymm _ hrv.1,Ymn _ hrv.1,Ywp]
    cases hvs:vsB r.2 with
    |false=>simp only[YAU,cond_true];exact hz 1 (by omega)
    |true=>
     simp only[YAT,cond_false]
     cases hk:(YxG rows r.1).2 with
     |true=>simp only[cond_true];exact hz 5 (by omega)
     |false=>
      simp only[cond_false]
      by_cases h3:(1000:Int)<=(rows.length:Int)
      ·simp only[h3,decide_true,cond_true];exact hz 3 (by omega)
      ·simp only[h3,decide_false,cond_false]
       have hne:=Yv2 hk
       obtain⟨p,b,hp,hbs⟩:=Yv0 (h1:=nm) (h2:=attrs) v2 v3.2 hne
       rw[YzM _ _ _ _ (by omega) hr,Ywp,hbs,Ywp,chkT _ rfl,chkT _ rfl,Ymp _ hrv,Ywp]
       have hins:q103 loO (p:Int) [r] rows nm attrs=some (nm,attrs,insR rows p r):=by
        unfold q103 Yx4 YyX
        have hpl:=hp.1
        have:(decide (0<=(p:Int))&& (YAB (p:Int).toNat rows.length&& (YAy [r].length 1&&YAA rows.length maxEl)))=true:=by
         simp[Nat.blt_eq];omega
        simp only[this,cond_true]
        rfl
       rw[hins,Ywp,chkT _ rfl]
       rw[Yz0 _ _ _ _ (by omega) hr,Ywp,Ymq _ hrv,Ywp,chkT _ (by simp only[YAm];omega)]
       have e1:YA5 .i64 (((rows++[r]).length:Int)-1)=(rows.length:Int):=(wr6 (by simp only[YAf,YAm];omega) (by simp only[YAf,YAm];omega)).trans (by simp)
       have e2:rows++[r]=insR rows rows.length r:=by simp[insR]
       rw[e1,e2]
       have hL:Ygd loO ((rows.length:Int),YA4 #[],[],[],nm,attrs,insR rows rows.length r)=some (YA4 #[],[],[],nm,attrs,insR rows p r):=
        YzN v2 hp (rows.length-p) rows.length (by have:=hp.1;omega) (YAz _)
       rw[hL,Ywp]
       refine⟨_,rfl,rfl,by simp;omega,Ymt hp.1 v2 hr hrv,fun _=>⟨v1,v3,by omega,by omega,by omega,hvs,p,hp,rfl⟩⟩
  ·simp only[hl,decide_false,YAU,cond_true];exact hz 6 (by omega)
 ·simp only[hv,decide_false,YAU,cond_true];exact hz _ hv
theorem Yv5(nm:ByteArray)(attrs:List ByteArray)(rows:Rws)(r:Int×Vals){p:Nat}(hr:SzR rows)(hrv:SzV r.2)(v1:Yyl nm attrs)(v3:YxL attrs rows)(hl:rows.length<1000)(h0:0<r.1)(h1:r.2.length=attrs.length)(h2:vsB r.2=true)(hp:Pos rows r.1 p):
  q98 loO nm attrs (insR rows p r) r.1=some (nm,attrs,rows,0):=by
 have hm:maxEl=1073741824:=rfl
 have hlen:=Yce (r:=r) hp.1
 have hpl:=hp.1
 have v12:=v1.2.1
 have hv:Yxl nm attrs (insR rows p r)=0:=(Yms _ _ _).2 ⟨v1,by omega,YvX v3 hp h0 h1 h2⟩
 have hs:=Ymt (r:=r) hpl (by omega) hr hrv
 have hf:YxG (insR rows p r) r.1=((p:Int),true):=Yv3 (by omega) (by rw[Ya0 hpl,if_neg (by omega),if_pos rfl]) (fun m hm'=>by
  rw[Ya0 hpl,if_pos hm']
  have:=hp.2.1 m hm';omega)
 unfold q98
 simp only[Yzb,Ywp,YzL _ _ _ _ hs.1,hv,hf,decide_true,YAT,cond_false]
 have e2:YA5 .i64 ((p:Int)+1)=((p+1:Nat):Int):=(wr6 (by omega) (by omega)).trans (by omega)
 simp only[e2,YAX,List.drop_zero,YAt]
 have t1:(insR rows p r).take p=rows.take p:=by
  unfold insR
  have hl:(rows.take p).length=p:=by simp;omega
  exact List.take_left' hl
 have t2:(insR rows p r).drop (p+1)=rows.drop p:=by
  unfold insR
  have hl:(rows.take p++[r]).length=p+1:=by simp;omega
  rw[<-YAd]
  exact List.drop_left' hl
 rw[t1,t2,chkT _ (by omega),chkT _ (by omega),YvU _ _ (by simp;omega),Ywp,List.take_append_drop,YzM _ _ _ _ (by omega) hr,Ywp]
theorem insert_law(nm:ByteArray)(attrs:List ByteArray)(rows:Rws)(i:Int)(vs:Vals)(hr:SzR rows)(hrv:SzV vs):q108 loO nm attrs rows i vs=some true:=by
 have hm:maxEl=1073741824:=rfl
 unfold q108
 simp only[aw,Ywp,YvT,YAT,cond_false]
 cases hf:(decide (rows.length<=12)&&decide (attrs.length<=20))with
 |false=>rfl
 |true=>
  simp only[YAS,decide_eq_true_eq]at hf
  simp only[YAT,cond_false]
  obtain⟨y,h1,h2,h3,h4,h5⟩:=Yv4 nm attrs rows (i,vs) hr hrv
  simp only at h1 h2
  simp only[h1,h2,Ywp,decide_true,cond_true,YAT,cond_false,Ymo _ _ _ h3 h4]
  by_cases he:y.2.2.2=0
  ·obtain⟨v1,v3,hl,h0,h6,h7,p,hp,hy⟩:=h5 he
   simp only[he,decide_true,YAT,cond_false]
   subst hy
   simp only
   have:=Yv5 nm attrs rows (i,vs) hr hrv v1 v3 hl h0 h6 h7 hp
   simp only at this
   rw[this,Ywp]
   simp only[decide_true,cond_true]
   rw[Ymo _ _ _ (by omega) hr,Ywp]
  ·simp only[he,decide_false,YAU,cond_true]
end
end Go.Abs.G03
