/- Helpers of the plain laws: loops as states by number, tables, short words. No condition. -/
import Derived.Test.YtkgoecnchnbbfaaB
import Derived.Test.YtkgoecnchnbbfaaG
set_option linter.unusedVariables false
set_option linter.unusedSimpArgs false
set_option linter.unusedSectionVars false
open List renaming getElem?_eq_getElem → YzO, getElem?_append_left → YzQ, map_cons → YzR, getElem?_append_right → YzT, map_nil → YzU, getElem?_take → YzX, length_append → YzZ, getElem?_drop → Yz3, length_map → Yz5, length_singleton → Yz7, mem_map → Yz8, mem_singleton → Yz9, length_set → YAe
open Nat renaming beq → YAj, le_refl → YAk, blt → YAl, ble → YAm, zero_le → YAu
open Option renaming bind → YAv, bind_some → YAy
open Bool renaming and_eq_true → YAD, not_true → YAE, not_false → YAF
open Int renaming toNat_natCast → YAI
open ByteArray renaming mk → YAP
open Go.IntKind renaming wrap → YAQ
namespace Go.Abs
theorem wr6{n:Int}(h0: -9223372036854775808<=n)(h1:n<9223372036854775808):YAQ .i64 n=n:=by
 have e:(2:Int)^IntKind.bits .i64=18446744073709551616:=rfl
 have e':(2:Int)^(IntKind.bits .i64-1)=9223372036854775808:=rfl
 have s:IntKind.signed .i64=true:=rfl
 simp only[YAQ,e,e',s,Bool.true_and,ge_iff_le,decide_eq_true_eq]
 omega
theorem chkT{β:Type}{p:Prop}[Decidable p](x:Option β)(h:p):chk p x=x:=by simp[chk,h]
theorem Ywc{α β:Type}(a:α)(f:α->Option β):YAv (some a) f=f a:=rfl
theorem Yl4{S R:Type}{step:S->Option (S⊕R)}(st:Nat->S)(N:Nat)(r:R)(he:step (st N)=some (.inr r))(hs: ∀n,n<N->step (st n)=some (.inl (st (n+1)))): ∀k n,n+k=N->YwG step (st n)=some r
 |0,n,h=>by rw[Ya7];simp_all
 |k+1,n,h=>by rw[Ya7,hs n (by omega)];exact Yl4 st N r he hs k (n+1) (by omega)
theorem Ygb{S R:Type}{step:S->Option (S⊕R)}{st:Nat->S}{N:Nat}{r:R}{s:S}(hst:s=st 0)(he:step (st N)=some (.inr r))(hs: ∀n,n<N->step (st n)=some (.inl (st (n+1)))):YwG step s=some r:=by
 subst hst;exact Yl4 st N r he hs N 0 (by omega)
def tab{α:Type}(n:Nat)(f:Nat->α):List α:=(List.range n).map f
def bl(s:ByteArray):List UInt8:=s.data.toList
theorem Yve(a b:ByteArray)(i j:Nat):(Ywa a i=Ywa b j)↔a.data.getD i 0=b.data.getD j 0:=by
 simp only[Ywa,YAI]
 constructor
 ·intro h
  have:(a.data.getD i 0).toNat=(b.data.getD j 0).toNat:=by omega
  exact UInt8.toNat_inj.1 this
 simp_all
end Go.Abs
namespace Go.Abs.G03
open Go Go.Abs
set_option maxRecDepth 100000
theorem Yvl{v4_0:ByteArray}{v4_1:List ByteArray}{v4_2:List (Int×List (Int×Int×ByteArray))}{out8:ByteArray}{clk:Int}{ents:List (Int×ByteArray×List (Int×Int×ByteArray))}{m2:Bool}{h4:List ByteArray}{h5:List (Int×List (Int×Int×ByteArray))}
  {y} (hd:(ents.map (·.1)).Nodup) (hl:ents.length<=maxEl)
  (hy:Yca loO (v4_0,v4_1,v4_2,out8,clk,ents,m2,ents.map (·.2.1),clk,clk,[],false,h4,h5)=some y):
  Yd8 loO (v4_0,v4_1,v4_2,out8,clk,ents,m2,[],h4,h5)=some y:=by
 show rngF Yd7 (YcV loO) (Yca loO) (v4_0,v4_1,v4_2,out8,clk,ents,m2,[],clk,clk,[],false,h4,h5)=some y
 refine YpP (Yvf (p:=Yd7) (t:=YcV loO) (r:=Yca loO) (fun sn=>(v4_0,v4_1,v4_2,out8,clk,ents,m2,sn.map (kAt (YAP #[]) ents),clk,clk,sn,false,h4,h5)) (B:=ents.map (·.1)) (c:=clk) hd (fun sn=>rfl) (fun sn b hb hn hsd hsB=> ?_) (fun sn hp=> ?_))
 ·obtain⟨e,he⟩:=Yvj hb
  have hlen:sn.length<ents.length:=by
   have h1:(sn++[b]).Nodup:=by
    rw[List.nodup_append]
    exact⟨hsd,by simp,fun x hx y hy=>by rw[Yz9]at hy;subst hy;intro e;subst e;exact hn hx⟩
   have:=List.Nodup.length_le_of_subset h1 (l₂:=ents.map (·.1)) (fun a ha=>by
    rcases List.mem_append.1 ha with ha|ha
    ·exact hsB a ha
    ·rw[Yz9]at ha;subst ha;exact hb)
   simp at this;omega
  simp only[YcV,addI,List.getLast?_append,List.getLast?_singleton,Option.some_or,YAy,he,chk,decide_true,cond_true,Yz5,Yz7]
  have:decide (sn.length+1<=maxEl)=true:=by simp;omega
  simp only[this,cond_true,List.map_append,YzR,YzU,kAt,he]
 ·have hperm:(sn.map (kAt (YAP #[]) ents)).Perm (ents.map (·.2.1)):=by
   rw[<-Yvk (d:=YAP #[]) hd];exact hp.map _
  rw[<-hy]
  show YAv (q35 loO (sn.map (kAt (YAP #[]) ents))) _=YAv (q35 loO (ents.map (·.2.1))) _
  have e1:q35 loO (sn.map (kAt (YAP #[]) ents))=q35 loO (ents.map (·.2.1)):=Yvi hperm
  rw[e1]
  have e2:=hperm.length_eq
  congr 1
  funext y152
  rw[e2]
def nodB:List Int->Bool
 | []=>true
 |a::r=> !(r.any fun b=>decide (b=a))&&nodB r
theorem Yl6: ∀{l:List Int},nodB l=true->l.Nodup
 | [],_=>List.nodup_nil
 |a::r,h=>by
  simp only[nodB,YAD,Bool.not_eq_true',List.any_eq_false,decide_eq_true_eq]at h
  exact List.nodup_cons.2 ⟨fun hm=>h.1 a hm rfl,Yl6 h.2⟩
def j17C(lo:Lo):(ByteArray× (List ByteArray)× (List (Int× (List (Int×Int×ByteArray))))×ByteArray×Int× (List (Int×ByteArray× (List (Int×Int×ByteArray))))×Bool× (List ByteArray)× (List ByteArray)× (List (Int× (List (Int×Int×ByteArray)))))->Option ((Int×ByteArray× (List ByteArray)× (List (Int× (List (Int×Int×ByteArray)))))):=fun x=>match x with
 | (v4_0,v4_1,v4_2,out8,clk,ents,m2,keys,h4,h5)=>bif keys.isEmpty&& (nodB (ents.map (·.1))&&YAm ents.length maxEl)then Yca lo (v4_0,v4_1,v4_2,out8,clk,ents,m2,ents.map (·.2.1),clk,clk,[],false,h4,h5)else none
theorem Yvm{x y}(h:j17C loO x=some y):Yd8 loO x=some y:=by
 obtain⟨v4_0,v4_1,v4_2,out8,clk,ents,m2,keys,h4,h5⟩:=x
 unfold j17C at h
 obtain⟨e,hk⟩:=Yaa h
 simp only[YAD,List.isEmpty_iff]at e
 obtain⟨rfl,e1,e2⟩:=e
 exact Yvl (Yl6 e1) (by simpa using e2) hk
def Yx9(lo:Lo)(a0_0:ByteArray)(a0_1:List ByteArray)(a0_2:List (Int× (List (Int×Int×ByteArray))))(b1_0:ByteArray)(b1_1:List ByteArray)(b1_2:List (Int× (List (Int×Int×ByteArray)))):Option (ByteArray× (List ByteArray)× (List (Int× (List (Int×Int×ByteArray))))×Int):=
 YAv (q11 lo a0_0 a0_1 a0_2) fun y77=>bif(!decide (y77=(0:Int)))then(some ((YAP #[]),([]:List ByteArray),([]:List (Int× (List (Int×Int×ByteArray)))),y77))else(YAv (q11 lo b1_0 b1_1 b1_2) fun y78=>bif(!decide (y78=(0:Int)))then(some ((YAP #[]),([]:List ByteArray),([]:List (Int× (List (Int×Int×ByteArray)))),y78))else(YAv (q19 lo a0_1) fun y79=>YAv (YfT lo (b1_1,(b1_1.length:Int),(0:Int),a0_0,a0_1,a0_2,b1_0,b1_1,b1_2,(YAP #[]),([]:List ByteArray),([]:List (Int× (List (Int×Int×ByteArray)))),a0_0,[],y79,[])) fun y81=>bif(decide ((16:Int)< (y81.2.2.2.2.2.2.2.2.2.2.2.1.length:Int)))then(some ((YAP #[]),([]:List ByteArray),([]:List (Int× (List (Int×Int×ByteArray)))),(3:Int)))else(YAv (YfU lo (y81.2.2.2.2.2.2.2.2.2.2.1,y81.2.2.1,(y81.2.2.1.length:Int),(0:Int),y81.2.2.2.1,y81.2.2.2.2.1,y81.2.2.2.2.2.1,y81.2.2.2.2.2.2.1,y81.2.2.2.2.2.2.2.1,y81.2.2.2.2.2.2.2.2.1,y81.2.2.2.2.2.2.2.2.2.1,(0:Int),([]:List (Int×ByteArray× (List (Int×Int×ByteArray)))),false,y81.2.2.2.2.2.2.2.2.2.2.2.1,y81.2.2.2.2.2.2.2.2.2.2.2.2)) fun y87=>alt2 y87 (fun y88=>some (y88.2.1,y88.2.2.1,y88.2.2.2,y88.1)) (fun y89=>YAv (j17C lo (y89.1,y89.2.1,y89.2.2.1,y89.2.2.2.1,y89.2.2.2.2.1,y89.2.2.2.2.2.1,y89.2.2.2.2.2.2.1,[],y89.2.2.2.2.2.2.2.1,y89.2.2.2.2.2.2.2.2)) fun y154=>some (y154.2.1,y154.2.2.1,y154.2.2.2,y154.1)))))
theorem YcY{α β:Type}{a:Option α}{f g:α->Option β}{y:β}(h: ∀z,f z=some y->g z=some y):YAv a f=some y->YAv a g=some y:=by
 cases a with
 |none=>intro h;cases h
 |some z=>exact h z
theorem Ygc{β:Type}{b:Bool}{x x' z:Option β}{y:β}(h:x=some y->x'=some y):(bif b then z else x)=some y->(bif b then z else x')=some y:=by
 cases b with
 |true=>exact id
 |false=>exact h
theorem Yl7{a0 a1 a2 b0 b1 b2 y}:Yx9 loO a0 a1 a2 b0 b1 b2=some y->q36 loO a0 a1 a2 b0 b1 b2=some y:=by
 unfold Yx9 q36
 refine YcY fun _=>Ygc (YcY fun _=>Ygc (YcY fun _=>YcY fun _=>Ygc (YcY fun z=> ?_)))
 cases z with
 |inl z=>exact id
 |inr z=>
  simp only[alt2]
  intro h
  cases hj:j17C loO (z.1,z.2.1,z.2.2.1,z.2.2.2.1,z.2.2.2.2.1,z.2.2.2.2.2.1,z.2.2.2.2.2.2.1,[],z.2.2.2.2.2.2.2.1,z.2.2.2.2.2.2.2.2)with
  |none=>rw[hj]at h;cases h
  |some q=>rw[hj]at h;rw[Yvm hj];exact h
abbrev Vals:=List (Int×Int×ByteArray)
abbrev Rws:=List (Int×Vals)
noncomputable def E6:ByteArray×List ByteArray×Rws:=(q2 (loM 400)).getD ⟨YAP #[],[],[]⟩
noncomputable def E51:ByteArray×List ByteArray×Rws×Int:=(q18 (loM 400) E6.1 E6.2.1 E6.2.2 1).getD ⟨YAP #[],[],[],0⟩
noncomputable def E52:ByteArray×List ByteArray×Rws×Int:=(q18 (loM 400) E6.1 E6.2.1 E6.2.2 2).getD ⟨YAP #[],[],[],0⟩
noncomputable def E155:ByteArray×List ByteArray×Rws×Int:=(Yx9 (loM 400) E6.1 E6.2.1 E6.2.2 E52.1 E52.2.1 E52.2.2.1).getD ⟨YAP #[],[],[],0⟩
noncomputable def E156:ByteArray×List ByteArray×Rws×Int:=(Yx9 (loM 400) E51.1 E51.2.1 E51.2.2.1 E52.1 E52.2.1 E52.2.2.1).getD ⟨YAP #[],[],[],0⟩
theorem aw:q44 loO=some true:=by
 have e6:q2 loO=some E6:=(congrArg q2 (Ycc 400)).symm.trans (by kernel_rfl)
 have e51:q18 loO E6.1 E6.2.1 E6.2.2 1=some E51:=(congrArg (fun l=>q18 l E6.1 E6.2.1 E6.2.2 1) (Ycc 400)).symm.trans (by kernel_rfl)
 have e52:q18 loO E6.1 E6.2.1 E6.2.2 2=some E52:=(congrArg (fun l=>q18 l E6.1 E6.2.1 E6.2.2 2) (Ycc 400)).symm.trans (by kernel_rfl)
 have e155:q36 loO E6.1 E6.2.1 E6.2.2 E52.1 E52.2.1 E52.2.2.1=some E155:=Yl7 ((congrArg (fun l=>Yx9 l E6.1 E6.2.1 E6.2.2 E52.1 E52.2.1 E52.2.2.1) (Ycc 400)).symm.trans (by kernel_rfl))
 have e156:q36 loO E51.1 E51.2.1 E51.2.2.1 E52.1 E52.2.1 E52.2.2.1=some E156:=Yl7 ((congrArg (fun l=>Yx9 l E51.1 E51.2.1 E51.2.2.1 E52.1 E52.2.1 E52.2.2.1) (Ycc 400)).symm.trans (by kernel_rfl))
 unfold q44
 rw[e6,Ywc,e51,Ywc,e52,Ywc,e155,Ywc,e156,Ywc,<-Ycc 400]
 show(_:Option Bool)=some true
 kernel_rfl
end Go.Abs.G03
namespace Go.Abs
def Ywd{R:Type}(f:Nat->Option R):Nat->Nat->R->R
 |0,_,r0=>r0
 |k+1,n,r0=>match f n with
  |some r=>r
  |none=>Ywd f k (n+1) r0
theorem Yl8{R:Type}{f g:Nat->Option R}{r0:R}: ∀(k n:Nat),(∀m,n<=m->m<n+k->f m=g m)->Ywd f k n r0=Ywd g k n r0
 |0,n,h=>rfl
 |k+1,n,h=>by
  simp only[Ywd]
  rw[h n (YAk _) (by omega),Yl8 k (n+1) (fun m h1 h2=>h m (by omega) (by omega))]
theorem YaD{S R:Type}{step:S->Option (S⊕R)}(st:Nat->S)(f:Nat->Option R)(N:Nat)(r0:R){s:S}(hst:s=st 0)(he:step (st N)=some (.inr r0))
  (hs: ∀n,n<N->step (st n)=some (match f n with|some r=>.inr r|none=>.inl (st (n+1)))):YwG step s=some (Ywd f N 0 r0):=by
 subst hst
 have: ∀k n,n+k=N->YwG step (st n)=some (Ywd f k n r0):=by
  intro k
  induction k with
  |zero=>intro n h;rw[Ya7];simp only[Nat.add_zero]at h;subst h;rw[he];rfl
  |succ k ih=>
   intro n h
   rw[Ya7,hs n (by omega)]
   simp only[Ywd]
   grind
 simp_all
theorem Ygd{R:Type}{f:Nat->Option R}{r0:R}: ∀(k n:Nat),(∀m,n<=m->m<n+k->f m=none)->Ywd f k n r0=r0
 |0,n,h=>rfl
 |k+1,n,h=>by
  simp only[Ywd]
  rw[h n (YAk _) (by omega)]
  exact Ygd k (n+1) (fun m h1 h2=>h m (by omega) (by omega))
theorem Yl9{R R':Type}{f:Nat->Option R}(u:R->R'){r0:R}: ∀(k n:Nat),u (Ywd f k n r0)=Ywd (fun m=>(f m).map u) k n (u r0)
 |0,n=>rfl
 |k+1,n=>by
  simp only[Ywd]
  cases f n with
  |some r=>rfl
  |none=>exact Yl9 u k (n+1)
def anyN(p:Nat->Bool):Nat->Nat->Bool
 |0,_=>false
 |k+1,n=>p n||anyN p k (n+1)
def idxR(p:Nat->Bool)(k n:Nat):Int:=match Ywd (R:=Int⊕Unit) (fun m=>bif p m then some (.inl (m:Int))else none) k n (.inr ())with
 | .inl i=>i
 | .inr _=> -1
theorem Yge(p:Nat->Bool): ∀k n,decide (0<=idxR p k n)=anyN p k n
 |0,n=>rfl
 |k+1,n=>by
  have:=Yge p k (n+1)
  unfold idxR at this⊢
  simp only[Ywd,anyN]
  grind
theorem Ygf{p:Nat->Bool}{b:Bool}: ∀k n,(match Ywd (R:=Bool⊕Unit) (fun m=>bif p m then some (.inl b)else none) k n (.inr ())with| .inl x=>x| .inr _=> !b)=(bif anyN p k n then b else !b)
 |0,n=>rfl
 |k+1,n=>by
  simp only[Ywd,anyN]
  cases p n with
  |true=>rfl
  |false=>simpa using Ygf (p:=p) (b:=b) k (n+1)
theorem YcZ{R:Type}{f:Nat->Option R}{r0:R}: ∀(k n:Nat),(∃m r,n<=m/\m<n+k/\f m=some r/\Ywd f k n r0=r)\/(Ywd f k n r0=r0/\ ∀m,n<=m->m<n+k->f m=none)
 |0,n=>.inr ⟨rfl,fun m h1 h2=>by omega⟩
 |k+1,n=>by
  simp only[Ywd]
  cases hf:f n with
  |some r=>grind
  |none=>
   rcases YcZ (f:=f) (r0:=r0) k (n+1)with⟨m,r,h1,h2,h3,h4⟩| ⟨h1,h2⟩
   ·grind
   grind
theorem Yvn{α:Type}{f:α->Nat}{l:List α}{a:α}(h:a∈l):f a<=(l.map f).sum:=by
 induction l with
 |nil=>cases h
 |cons b r ih=>
  grind
theorem Yvo{α:Type}{f:α->Nat}{l:List α}(h: ∀a∈l,1<=f a):l.length<=(l.map f).sum:=by
 induction l with
 |nil=>simp
 |cons b r ih=>
  grind
theorem Yma(s:ByteArray)(i:Int):0<=Ywa s i/\Ywa s i<256:=by
 unfold Ywa
 have:=(s.data.getD i.toNat 0).toNat_lt
 omega
theorem Yc0{α:Type}{l:List α}{n:Nat}{d:α}(h:n<l.length):l.getD n d∈l:=by
 simp_all
theorem Yvp{a b:ByteArray}(hs:a.size=b.size)(h: ∀n:Nat,n<a.size->Ywa a n=Ywa b n):a=b:=by
 have:a.data=b.data:=by
  apply Array.ext hs
  intro i h1 h2
  have:=h i h1
  rw[Yve]at this
  unfold Array.getD at this
  rw[dif_pos h1,dif_pos h2]at this
  trivial
 cases a;simp_all
theorem Yvq{α:Type}{a b:List α}{d:α}(hs:a.length=b.length)(h: ∀n,n<a.length->a.getD n d=b.getD n d):a=b:=by
 apply List.ext_getElem hs
 simp_all
theorem Ygg{α:Type}{l:List α}{n:Nat}{d:α}(h:n<l.length):l.take (n+1)=l.take n++[l.getD n d]:=by
 simp_all
end Go.Abs
namespace Go.Abs.G03
open Go Go.Abs
noncomputable section
def lt(c:Int):Bool:=decide (97<=c)&&decide (c<=122)||decide (65<=c)&&decide (c<=90)||decide (c=95)
theorem Ymb(c:Int):q45 loO c=some (lt c):=by
 unfold q45 lt
 by_cases h1:(97:Int)<=c<;>by_cases h2:c<=(122:Int)<;>by_cases h3:(65:Int)<=c<;>by_cases h4:c<=(90:Int)<;>simp[h1,h2,h3,h4]
def fN(s:ByteArray)(n:Nat):Option (Bool⊕Unit):=
 bif lt (Ywa s n)then none else bif decide (n=0)then some (.inl false)else bif decide (Ywa s n<48)then some (.inl false)else bif decide ((57:Int)<Ywa s n)then some (.inl false)else none
theorem Yvr(s:ByteArray)(hs:s.size<=24):YfK loO (s,(s.size:Int),0)=some (Ywd (fN s) s.size 0 (.inr ())):=by
 refine YaD (fun n=>(s,(s.size:Int),(n:Int))) (fN s) s.size (.inr ()) rfl ?_ (fun n hn=> ?_)
 ·simp[Yd2]
 ·have e1:decide ((n:Int)< (s.size:Int))=true:=by simp;omega
  have e2:YAQ .i64 ((n:Int)+1)=((n+1:Nat):Int):=by rw[wr6 (by omega) (by omega)];omega
  simp only[Yd2,e1,cond_true,e2]
  rw[chkT _ (by omega)]
  unfold fN lt
  have e3:decide ((n:Int)=0)=decide (n=0):=by simp
  simp only[e3]
  generalize Ywa s n=c
  by_cases h1:(97:Int)<=c<;>by_cases h2:c<=(122:Int)<;>by_cases h3:(65:Int)<=c<;>by_cases h4:c<=(90:Int)<;>by_cases h5:c=95<;>by_cases h6:n=0<;>by_cases h7:c<48<;>by_cases h8:(57:Int)<c<;>simp[h1,h2,h3,h4,h5,h6,h7,h8]
def nul:ByteArray:=YAP #[110,117,108,108]
def Yxa(s:ByteArray):Bool:=
 bif decide (s=YAP #[])then false else bif decide ((24:Int)< (s.size:Int))then false else bif decide (s=nul)then false else
  match Ywd (fN s) s.size 0 (.inr ())with| .inl b=>b| .inr _=>true
theorem Ymc(s:ByteArray):q3 loO s=some (Yxa s):=by
 unfold q3 Yxa nul
 by_cases h1:s=YAP #[]
 ·simp[h1]
 ·by_cases h2:(24:Int)< (s.size:Int)
  ·simp[h1,h2]
  ·by_cases h3:s=YAP #[110,117,108,108]
   ·simp[h1,h2,h3]
   ·simp only[h1,h2,h3,decide_false,cond_false]
    rw[Yvr s (by omega)]
    simp only[Ywc]
    cases Ywd (fN s) s.size 0 (.inr ())<;>rfl
def fR(s:ByteArray)(n:Nat):Option (Bool⊕Unit):=
 bif lt (Ywa s n)then none else bif decide (Ywa s n<48)then some (.inl false)else bif decide ((57:Int)<Ywa s n)then some (.inl false)else none
theorem Yvs(s:ByteArray)(hs:s.size<=24):YfV loO (s,0)=some (Ywd (fR s) s.size 0 (.inr ())):=by
 refine YaD (fun n=>(s,(n:Int))) (fR s) s.size (.inr ()) rfl ?_ (fun n hn=> ?_)
 ·simp[Yea]
 ·have e1:decide ((n:Int)< (s.size:Int))=true:=by simp;omega
  have e2:YAQ .i64 ((n:Int)+1)=((n+1:Nat):Int):=by rw[wr6 (by omega) (by omega)];omega
  simp only[Yea,e1,cond_true,e2,Ymb,Ywc]
  rw[chkT _ (by omega)]
  unfold fR
  generalize Ywa s n=c
  have h0:(0:Int)<=(n:Int)/\ (n:Int)< (s.size:Int):=by omega
  cases lt c<;>by_cases h7:c<48<;>by_cases h8:(57:Int)<c<;>simp[h7,h8,chkT,h0]
theorem YzH(s:ByteArray):s.size=0↔s=YAP #[]:=by
 constructor
 ·intro h
  have:s.data= #[]:=Array.eq_empty_of_size_eq_zero h
  cases s;simp_all
 ·intro h;subst h;rfl
theorem Ymd(s:ByteArray):q46 loO s=some (Yxa s):=by
 unfold q46 Yxa nul
 by_cases h1:s=YAP #[]
 ·subst h1;rfl
 ·have h1':s.size≠0:=fun h=>h1 ((YzH s).1 h)
  by_cases h2:(24:Int)< (s.size:Int)
  ·have: ¬ (s.size:Int)=0:=by omega
   simp[h1,h2,this]
  ·have h0: ¬ (s.size:Int)=0:=by omega
   simp only[h1,h2,h0,decide_false,cond_false,Ymb,Ywc]
   rw[chkT _ (by omega)]
   have hz:Ywa s 0=Ywa s ((0:Nat):Int):=rfl
   have hsz:s.size=(s.size-1)+1:=by omega
   cases hl:lt (Ywa s 0)with
   |false=>
    have:Ywd (fN s) s.size 0 (.inr ())= .inl false:=by
     rw[hsz];simp only[Ywd,fN,<-hz,hl];rfl
    rw[this]
    by_cases h3:s=YAP #[110,117,108,108]<;>simp[h3]
   |true=>
    have:Ywd (fN s) s.size 0 (.inr ())=Ywd (fR s) s.size 0 (.inr ()):=Yl8 _ _ (fun m _ _=>by
     unfold fN fR
     by_cases hm:m=0
     ·subst hm;rw[<-hz,hl];rfl
     ·simp[hm])
    rw[this,Yvs s (by omega)]
    by_cases h3:s=YAP #[110,117,108,108]
    ·simp[h3]
    ·simp only[h3,decide_false,cond_false,YAE,Ywc]
     cases Ywd (fR s) s.size 0 (.inr ())<;>rfl
def idxI(l:List ByteArray)(v:ByteArray):Int:=idxR (fun m=>decide (v=l.getD m (YAP #[]))) l.length 0
theorem Yvt(l:List ByteArray)(v:ByteArray)(hl:l.length<=maxEl):q4 loO l v=some (idxI l v):=by
 have hm:maxEl=1073741824:=rfl
 have:YfL loO (l,v,(l.length:Int),0)=some (Ywd (R:=Int⊕Unit) (fun m=>bif decide (v=l.getD m (YAP #[]))then some (.inl (m:Int))else none) l.length 0 (.inr ())):=by
  refine YaD (fun n=>(l,v,(l.length:Int),(n:Int))) _ l.length (Sum.inr ()) rfl ?_ (fun n hn=> ?_)
  ·simp[Yd3]
  ·have e1:decide ((n:Int)< (l.length:Int))=true:=by simp;omega
   have e2:YAQ .i64 ((n:Int)+1)=((n+1:Nat):Int):=by rw[wr6 (by omega) (by omega)];omega
   simp only[Yd3,e1,cond_true,e2,YAI]
   rw[chkT _ (by omega)]
   cases decide (v=l.getD n (YAP #[]))<;>rfl
 unfold q4 idxI idxR
 rw[this,Ywc]
 cases Ywd (R:=Int⊕Unit) (fun m=>bif decide (v=l.getD m (YAP #[]))then some (.inl (m:Int))else none) l.length 0 (.inr ())<;>rfl
theorem Yvu(l:List ByteArray)(v:ByteArray)(hl:l.length<=maxEl):q5 loO l v=some (decide (0<=idxI l v)):=by
 unfold q5;rw[Yvt l v hl];rfl
theorem Yvv(l:List ByteArray)(v:ByteArray)(hl:l.length<=maxEl):q47 loO l v=some (idxI l v):=by
 have hm:maxEl=1073741824:=rfl
 have:YfW loO (l,v,0)=some (Ywd (R:=Int⊕Unit) (fun m=>bif decide (v=l.getD m (YAP #[]))then some (.inl (m:Int))else none) l.length 0 (.inr ())):=by
  refine YaD (fun n=>(l,v,(n:Int))) _ l.length (Sum.inr ()) rfl ?_ (fun n hn=> ?_)
  ·simp[Yeb]
  ·have e1:decide ((n:Int)< (l.length:Int))=true:=by simp;omega
   have e2:YAQ .i64 ((n:Int)+1)=((n+1:Nat):Int):=by rw[wr6 (by omega) (by omega)];omega
   have e3:decide (l.getD n (YAP #[])=v)=decide (v=l.getD n (YAP #[])):=by simp only[eq_comm]
   simp only[Yeb,e1,cond_true,e2,YAI,e3]
   rw[chkT _ (by omega)]
   cases decide (v=l.getD n (YAP #[]))<;>rfl
 unfold q47 idxI idxR
 rw[this,Ywc]
 cases Ywd (R:=Int⊕Unit) (fun m=>bif decide (v=l.getD m (YAP #[]))then some (.inl (m:Int))else none) l.length 0 (.inr ())<;>rfl
def vB(v:Int×Int×ByteArray):Bool:=(q6 loO v.1 v.2.1 v.2.2).getD false
theorem Yme(a b:Int)(c:ByteArray):q6 loO a b c=some (vB (a,b,c)):=by
 unfold vB q6
 by_cases h0:a=0<;>by_cases h1:a=1<;>by_cases h2:a=2<;>by_cases h3:a=3<;>by_cases h4:b=0<;>by_cases h5:1<=b<;>simp[h0,h1,h2,h3,h4,h5]
theorem Yvw(a b:Int)(c:ByteArray):q49 loO a b c=some (vB (a,b,c)):=Yme a b c
abbrev zV:Int×Int×ByteArray:=(0,0,YAP #[])
def vsB(l:Vals):Bool:= !anyN (fun m=> !vB (l.getD m zV)) l.length 0
theorem Ymf(l:Vals)(hl:l.length<=maxEl):q10 loO l=some (vsB l):=by
 have hm:maxEl=1073741824:=rfl
 have:YfM loO (l,(l.length:Int),0)=some (Ywd (R:=Int⊕Unit) (fun m=>bif !vB (l.getD m zV)then some (.inl (m:Int))else none) l.length 0 (.inr ())):=by
  refine YaD (fun n=>(l,(l.length:Int),(n:Int))) _ l.length (Sum.inr ()) rfl ?_ (fun n hn=> ?_)
  ·simp[Yd4]
  ·have e1:decide ((n:Int)< (l.length:Int))=true:=by simp;omega
   have e2:YAQ .i64 ((n:Int)+1)=((n+1:Nat):Int):=by rw[wr6 (by omega) (by omega)];omega
   simp only[Yd4,e1,cond_true,e2,YAI,q7,Yme,Ywc]
   rw[chkT _ (by omega)]
   cases vB (l.getD n zV)<;>rfl
 have h2:q8 loO l=some (idxR (fun m=> !vB (l.getD m zV)) l.length 0):=by
  unfold q8 idxR
  rw[this,Ywc]
  cases Ywd (R:=Int⊕Unit) (fun m=>bif !vB (l.getD m zV)then some (.inl (m:Int))else none) l.length 0 (.inr ())<;>rfl
 unfold q10 q9 vsB
 rw[h2,Ywc,Ywc,Yge]
theorem Ymg(l:Vals)(hl:l.length<=maxEl):q50 loO l=some (vsB l):=by
 have hm:maxEl=1073741824:=rfl
 have:YfY loO (l,0)=some (Ywd (R:=Bool⊕Unit) (fun m=>bif !vB (l.getD m zV)then some (.inl false)else none) l.length 0 (.inr ())):=by
  refine YaD (fun n=>(l,(n:Int))) _ l.length (Sum.inr ()) rfl ?_ (fun n hn=> ?_)
  ·simp[Yed]
  ·have e1:decide ((n:Int)< (l.length:Int))=true:=by simp;omega
   have e2:YAQ .i64 ((n:Int)+1)=((n+1:Nat):Int):=by rw[wr6 (by omega) (by omega)];omega
   simp only[Yed,e1,cond_true,e2,YAI,Yvw,Ywc]
   rw[chkT _ (by omega)]
   cases vB (l.getD n zV)<;>rfl
 unfold q50 vsB
 rw[this,Ywc]
 have h3:=Ygf (p:=fun m=> !vB (l.getD m zV)) (b:=false) l.length 0
 cases hs:Ywd (R:=Bool⊕Unit) (fun m=>bif !vB (l.getD m zV)then some (.inl false)else none) l.length 0 (.inr ())with
 |inl b=>rw[hs]at h3;simp only[alt2];rw[show b=_ from h3];cases anyN (fun m=> !vB (l.getD m zV)) l.length 0<;>rfl
 |inr u=>rw[hs]at h3;simp only[alt2];rw[show true=_ from h3];cases anyN (fun m=> !vB (l.getD m zV)) l.length 0<;>rfl
def fA(l:List ByteArray)(n:Nat):Bool:= !Yxa (l.getD n (YAP #[]))||decide (0<=idxI (l.take n) (l.getD n (YAP #[])))
abbrev zR:Int×Vals:=(0,[])
def YwN(rows:Rws):Nat->Int
 |0=>0
 |n+1=>(rows.getD n zR).1
def fV(attrs:List ByteArray)(rows:Rws)(n:Nat):Option (Int⊕Unit):=
 bif decide ((rows.getD n zR).1<=YwN rows n)then some (.inl 1)else bif !decide (((rows.getD n zR).2.length:Int)=(attrs.length:Int))then some (.inl 6)else bif !vsB (rows.getD n zR).2 then some (.inl 1)else none
def Yxm(nm:ByteArray)(attrs:List ByteArray)(rows:Rws):Int:=
 bif !Yxa nm then 1 else bif decide ((16:Int)< (attrs.length:Int))then 3 else bif decide ((1000:Int)< (rows.length:Int))then 3 else bif anyN (fA attrs) attrs.length 0 then 1 else
  match Ywd (fV attrs rows) rows.length 0 (.inr ())with| .inl i=>i| .inr _=>0
theorem Yzv(nm:ByteArray)(attrs:List ByteArray)(rows:Rws):q11 loO nm attrs rows=some (Yxm nm attrs rows):=by
 have hm:maxEl=1073741824:=rfl
 unfold q11 Yxm
 rw[Ymc,Ywc]
 cases Yxa nm with
 |false=>rfl
 |true=>
  by_cases h1:(16:Int)< (attrs.length:Int)
  ·simp[h1]
  ·by_cases h2:(1000:Int)< (rows.length:Int)
   ·simp[h1,h2]
   ·simp only[h1,h2,decide_false,cond_false,YAE]
    have e20:YfN loO (attrs,(attrs.length:Int),0,nm,attrs,rows)=some (Ywd (R:=Int⊕ (ByteArray×List ByteArray×Rws)) (fun m=>bif fA attrs m then some (.inl 1)else none) attrs.length 0 (.inr (nm,attrs,rows))):=by
     refine YaD (fun n=>(attrs,(attrs.length:Int),(n:Int),nm,attrs,rows)) _ attrs.length _ rfl ?_ (fun n hn=> ?_)
     ·simp[Yd5]
     ·have e1:decide ((n:Int)< (attrs.length:Int))=true:=by simp;omega
      have e2:YAQ .i64 ((n:Int)+1)=((n+1:Nat):Int):=by rw[wr6 (by omega) (by omega)];omega
      simp only[Yd5,e1,cond_true,e2,YAI,Ymc,Ywc,List.drop_zero]
      rw[chkT _ (by omega),chkT _ (by omega),Yvu _ _ (by simp;omega),Ywc]
      unfold fA
      cases Yxa (attrs.getD n (YAP #[]))<;>cases decide (0<=idxI (attrs.take n) (attrs.getD n (YAP #[])))<;>rfl
    rw[e20,Ywc]
    have hsc: ∀k n,Ywd (R:=Int⊕ (ByteArray×List ByteArray×Rws)) (fun m=>bif fA attrs m then some (.inl 1)else none) k n (.inr (nm,attrs,rows))=bif anyN (fA attrs) k n then .inl 1 else .inr (nm,attrs,rows):=by
     intro k
     induction k with
     |zero=>intro n;rfl
     |succ k ih=>intro n;simp only[Ywd,anyN];cases fA attrs n with
      |true=>rfl
      |false=>simpa using ih (n+1)
    rw[hsc]
    cases anyN (fA attrs) attrs.length 0 with
    |true=>rfl
    |false=>
     simp only[cond_false,alt2]
     have e3:YfO loO (0,rows,(rows.length:Int),0,nm,attrs,rows)=some (Ywd (fV attrs rows) rows.length 0 (.inr ())):=by
      refine YaD (fun n=>(YwN rows n,rows,(rows.length:Int),(n:Int),nm,attrs,rows)) _ rows.length _ rfl ?_ (fun n hn=> ?_)
      ·simp[Yd6]
      ·have e1:decide ((n:Int)< (rows.length:Int))=true:=by simp;omega
       have e2:YAQ .i64 ((n:Int)+1)=((n+1:Nat):Int):=by rw[wr6 (by omega) (by omega)];omega
       simp only[Yd6,e1,cond_true,e2,YAI]
       rw[chkT _ (by omega)]
       unfold fV
       by_cases g1:(rows.getD n zR).1<=YwN rows n
       ·simp only[g1,decide_true,cond_true]
       ·by_cases g2:((rows.getD n zR).2.length:Int)=(attrs.length:Int)
        ·simp only[g1,g2,decide_false,decide_true,cond_false,YAE]
         rw[Ymf _ (show(rows.getD n zR).2.length<=maxEl by omega),Ywc]
         cases vsB (rows.getD n zR).2<;>rfl
        ·simp only[g1,g2,decide_false,cond_false,YAF,cond_true]
     rw[e3,Ywc]
     cases Ywd (fV attrs rows) rows.length 0 (.inr ())<;>rfl
theorem Yzw(nm:ByteArray)(attrs:List ByteArray)(rows:Rws):q51 loO nm attrs rows=some (Yxm nm attrs rows):=by
 have hm:maxEl=1073741824:=rfl
 unfold q51 Yxm
 rw[Ymd,Ywc]
 cases Yxa nm with
 |false=>rfl
 |true=>
  by_cases h1:(16:Int)< (attrs.length:Int)
  ·simp[h1]
  ·by_cases h2:(1000:Int)< (rows.length:Int)
   ·simp[h1,h2]
   ·simp only[h1,h2,decide_false,cond_false,YAE]
    have e20:YfX loO (attrs,0)=some (Ywd (R:=Bool⊕Unit) (fun m=>bif fA attrs m then some (.inl false)else none) attrs.length 0 (.inr ())):=by
     refine YaD (fun n=>(attrs,(n:Int))) _ attrs.length _ rfl ?_ (fun n hn=> ?_)
     ·simp[Yec]
     ·have e1:decide ((n:Int)< (attrs.length:Int))=true:=by simp;omega
      have e2:YAQ .i64 ((n:Int)+1)=((n+1:Nat):Int):=by rw[wr6 (by omega) (by omega)];omega
      simp only[Yec,e1,cond_true,e2,YAI,Ymd,Ywc,List.drop_zero]
      rw[chkT _ (by omega),chkT _ (by omega),chkT _ (by omega),Yvv _ _ (by simp;omega),Ywc]
      unfold fA
      cases Yxa (attrs.getD n (YAP #[]))<;>cases decide (0<=idxI (attrs.take n) (attrs.getD n (YAP #[])))<;>rfl
    have eN:q48 loO attrs=some (!anyN (fA attrs) attrs.length 0):=by
     unfold q48
     rw[e20,Ywc]
     have h3:=Ygf (p:=fA attrs) (b:=false) attrs.length 0
     cases hs:Ywd (R:=Bool⊕Unit) (fun m=>bif fA attrs m then some (.inl false)else none) attrs.length 0 (.inr ())with
     |inl b=>rw[hs]at h3;simp only[alt2];rw[show b=_ from h3];cases anyN (fA attrs) attrs.length 0<;>rfl
     |inr u=>rw[hs]at h3;simp only[alt2];rw[show true=_ from h3];cases anyN (fA attrs) attrs.length 0<;>rfl
    rw[eN,Ywc]
    cases anyN (fA attrs) attrs.length 0 with
    |true=>rfl
    |false=>
     simp only[cond_false,YAF,YAE]
     have e3:YfZ loO (0,0,nm,attrs,rows)=some (Ywd (fV attrs rows) rows.length 0 (.inr ())):=by
      refine YaD (fun n=>(YwN rows n,(n:Int),nm,attrs,rows)) _ rows.length _ rfl ?_ (fun n hn=> ?_)
      ·simp[Yee]
      ·have e1:decide ((n:Int)< (rows.length:Int))=true:=by simp;omega
       have e2:YAQ .i64 ((n:Int)+1)=((n+1:Nat):Int):=by rw[wr6 (by omega) (by omega)];omega
       simp only[Yee,e1,cond_true,e2,YAI]
       rw[chkT _ (by omega)]
       unfold fV
       by_cases g1:(rows.getD n zR).1<=YwN rows n
       ·simp only[g1,decide_true,cond_true]
       ·by_cases g2:((rows.getD n zR).2.length:Int)=(attrs.length:Int)
        ·simp only[g1,g2,decide_false,decide_true,cond_false,YAE]
         rw[Ymg _ (show(rows.getD n zR).2.length<=maxEl by omega),Ywc]
         cases vsB (rows.getD n zR).2<;>rfl
        ·simp only[g1,g2,decide_false,cond_false,YAF,cond_true]
     rw[e3,Ywc]
     cases Ywd (fV attrs rows) rows.length 0 (.inr ())<;>rfl
end
end Go.Abs.G03
namespace Go.Abs.G03
open Go Go.Abs
noncomputable section
def SzV(l:Vals):Prop:=l.length<=maxEl/\ ∀v∈l,v.2.2.size<=maxEl
def SzR(l:Rws):Prop:=l.length<=maxEl/\ ∀r∈l,SzV r.2
theorem szV{l:Vals}(h:(Ty.l (cs [I,I,.s])).sz l<=1048576):SzV l:=by
 have hm:maxEl=1073741824:=rfl
 have e:(Ty.l (cs [I,I,.s])).sz l=(l.map fun v=>1+(1+((v.2.2.size+1)+0))).sum+1:=rfl
 rw[e]at h
 refine⟨?_,fun v hv=> ?_⟩
 ·have:=Yvo (f:=fun v:Int×Int×ByteArray=>1+(1+((v.2.2.size+1)+0))) (l:=l) (fun a _=>by omega)
  omega
 ·have:=Yvn (f:=fun v:Int×Int×ByteArray=>1+(1+((v.2.2.size+1)+0))) hv
  omega
def sg(a b:Int):Int:=bif decide (a<b)then-1 else bif decide (b<a)then 1 else 0
theorem Yem(a b:Int):q57 loO a b=some (sg a b):=by
 unfold q57 sg
 by_cases h1:a<b<;>by_cases h2:b<a<;>simp[h1,h2]
theorem sg_zero{a b:Int}:sg a b=0↔a=b:=by
 unfold sg
 by_cases h1:a<b
 ·simp[h1];omega
 ·by_cases h2:b<a
  ·simp[h1,h2];omega
  ·simp[h1,h2];omega
def fS(a b:ByteArray)(n:Nat):Option (Int⊕ (ByteArray×ByteArray)):=bif !decide (Ywa a n=Ywa b n)then some (.inl (sg (Ywa a n) (Ywa b n)))else none
def cmpS(a b:ByteArray):Int:=match Ywd (fS a b) (min a.size b.size) 0 (.inr (a,b))with
 | .inl i=>i
 | .inr _=>sg a.size b.size
theorem Yvx(a b:ByteArray)(ha:a.size<=maxEl)(hb:b.size<=maxEl):q58 loO a b=some (cmpS a b):=by
 have hm:maxEl=1073741824:=rfl
 have hL:Yf0 loO (a,b,0)=some (Ywd (fS a b) (min a.size b.size) 0 (.inr (a,b))):=by
  refine YaD (fun n=>(a,b,(n:Int))) _ (min a.size b.size) _ rfl ?_ (fun n hn=> ?_)
  ·rcases Nat.le_total a.size b.size with h|h
   ·rw[Nat.min_eq_left h];simp[YcW]
   ·rw[Nat.min_eq_right h]
    have e:decide ((b.size:Int)< (b.size:Int))=false:=by simp
    simp only[YcW,e,cond_false]
    cases decide ((b.size:Int)< (a.size:Int))<;>rfl
  ·have e1:decide ((n:Int)< (a.size:Int))=true:=by simp;omega
   have e1':decide ((n:Int)< (b.size:Int))=true:=by simp;omega
   have e2:YAQ .i64 ((n:Int)+1)=((n+1:Nat):Int):=by rw[wr6 (by omega) (by omega)];omega
   have r1:=Yma a n
   have r2:=Yma b n
   simp only[YcW,e1,e1',cond_true,e2,Yem,Ywc,wr6 (show-9223372036854775808<=Ywa a n by omega) (by omega),wr6 (show-9223372036854775808<=Ywa b n by omega) (by omega)]
   rw[chkT _ (by omega),chkT _ (by omega),chkT _ (by omega),chkT _ (by omega)]
   unfold fS
   cases decide (Ywa a n=Ywa b n)<;>rfl
 unfold q58 cmpS
 rw[hL,Ywc]
 rcases YcZ (f:=fS a b) (r0:=.inr (a,b)) (min a.size b.size) 0 with⟨m,r,h1,h2,h3,h4⟩| ⟨h1,h2⟩
 ·rw[h4]
  unfold fS at h3
  cases hd:decide (Ywa a m=Ywa b m)with
  |true=>rw[hd]at h3;cases h3
  |false=>rw[hd]at h3;injection h3 with h3;subst h3;rfl
 ·rw[h1];simp only[alt2,Yem,Ywc]
theorem Yvy{a b:ByteArray}:cmpS a b=0↔a=b:=by
 unfold cmpS
 rcases YcZ (f:=fS a b) (r0:=.inr (a,b)) (min a.size b.size) 0 with⟨m,r,h1,h2,h3,h4⟩| ⟨h1,h2⟩
 ·rw[h4]
  unfold fS at h3
  by_cases hd:Ywa a m=Ywa b m
  ·simp[hd]at h3
  ·simp[hd]at h3
   subst h3
   simp only
   rw[sg_zero]
   exact⟨fun h=>absurd h hd,fun h=>by subst h;exact absurd rfl hd⟩
 ·rw[h1]
  simp only[sg_zero]
  constructor
  ·intro h
   have hs:a.size=b.size:=by omega
   refine Yvp hs (fun n hn=> ?_)
   have:=h2 n (by omega) (by omega)
   unfold fS at this
   by_cases hd:Ywa a n=Ywa b n
   ·exact hd
   ·simp[hd]at this
  ·intro h;rw[h]
def cmpV(v w:Int×Int×ByteArray):Int:=bif !decide (sg v.1 w.1=0)then sg v.1 w.1 else bif !decide (sg v.2.1 w.2.1=0)then sg v.2.1 w.2.1 else cmpS v.2.2 w.2.2
theorem Yvz(v w:Int×Int×ByteArray)(hv:v.2.2.size<=maxEl)(hw:w.2.2.size<=maxEl):q59 loO v.1 v.2.1 v.2.2 w.1 w.2.1 w.2.2=some (cmpV v w):=by
 unfold q59 cmpV
 simp only[Yem,Ywc,Yvx _ _ hv hw]
 cases decide (sg v.1 w.1=0)<;>cases decide (sg v.2.1 w.2.1=0)<;>rfl
theorem cmpV_zero{v w:Int×Int×ByteArray}:cmpV v w=0↔v=w:=by
 obtain⟨a,b,c⟩:=v
 obtain⟨a',b',c'⟩:=w
 unfold cmpV
 by_cases h1:sg a a'=0
 ·by_cases h2:sg b b'=0
  ·simp only[h1,h2,decide_true,YAE,cond_false,Yvy]
   rw[sg_zero]at h1 h2
   simp[h1,h2]
  ·simp only[h1,h2,decide_true,decide_false,YAE,YAF,cond_false,cond_true]
   refine⟨fun h=>h.elim,fun h=> ?_⟩
   injection h with _ h;injection h with h _
   exact h2 (sg_zero.2 h)
 ·simp only[h1,decide_false,YAF,cond_true]
  refine⟨fun h=>h.elim,fun h=> ?_⟩
  injection h with h _
  exact h1 (sg_zero.2 h)
def fL(a b:Vals)(n:Nat):Option (Int⊕ (Vals×Vals)):=bif !decide (cmpV (a.getD n zV) (b.getD n zV)=0)then some (.inl (cmpV (a.getD n zV) (b.getD n zV)))else none
def cmpL(a b:Vals):Int:=match Ywd (fL a b) (min a.length b.length) 0 (.inr (a,b))with
 | .inl i=>i
 | .inr _=>sg a.length b.length
theorem YvA(a b:Vals)(ha:SzV a)(hb:SzV b):q60 loO a b=some (cmpL a b):=by
 have hm:maxEl=1073741824:=rfl
 have hal:=ha.1
 have hbl:=hb.1
 have hL:Yf1 loO (a,b,0)=some (Ywd (fL a b) (min a.length b.length) 0 (.inr (a,b))):=by
  refine YaD (fun n=>(a,b,(n:Int))) _ (min a.length b.length) _ rfl ?_ (fun n hn=> ?_)
  ·rcases Nat.le_total a.length b.length with h|h
   ·rw[Nat.min_eq_left h];simp[YcX]
   ·rw[Nat.min_eq_right h]
    have e:decide ((b.length:Int)< (b.length:Int))=false:=by simp
    simp only[YcX,e,cond_false]
    cases decide ((b.length:Int)< (a.length:Int))<;>rfl
  ·have e1:decide ((n:Int)< (a.length:Int))=true:=by simp;omega
   have e1':decide ((n:Int)< (b.length:Int))=true:=by simp;omega
   have e2:YAQ .i64 ((n:Int)+1)=((n+1:Nat):Int):=by rw[wr6 (by omega) (by omega)];omega
   have q1:=ha.2 (a.getD n zV) (Yc0 (by omega))
   have q2:=hb.2 (b.getD n zV) (Yc0 (by omega))
   simp only[YcX,e1,e1',cond_true,e2,YAI]
   rw[chkT _ (by omega),chkT _ (by omega),Yvz _ _ q1 q2,Ywc]
   unfold fL
   cases decide (cmpV (a.getD n zV) (b.getD n zV)=0)<;>rfl
 unfold q60 cmpL
 rw[hL,Ywc]
 rcases YcZ (f:=fL a b) (r0:=.inr (a,b)) (min a.length b.length) 0 with⟨m,r,h1,h2,h3,h4⟩| ⟨h1,h2⟩
 ·rw[h4]
  unfold fL at h3
  cases hd:decide (cmpV (a.getD m zV) (b.getD m zV)=0)with
  |true=>rw[hd]at h3;cases h3
  |false=>rw[hd]at h3;injection h3 with h3;subst h3;rfl
 ·rw[h1];simp only[alt2,Yem,Ywc]
theorem YvB{a b:Vals}:cmpL a b=0↔a=b:=by
 unfold cmpL
 rcases YcZ (f:=fL a b) (r0:=.inr (a,b)) (min a.length b.length) 0 with⟨m,r,h1,h2,h3,h4⟩| ⟨h1,h2⟩
 ·rw[h4]
  unfold fL at h3
  by_cases hd:cmpV (a.getD m zV) (b.getD m zV)=0
  ·rw[decide_eq_true hd]at h3;cases h3
  ·rw[decide_eq_false hd]at h3;injection h3 with h3
   subst h3
   simp only
   exact⟨fun h=>absurd h hd,fun h=>by subst h;exact absurd (cmpV_zero.2 rfl) hd⟩
 ·rw[h1]
  simp only[sg_zero]
  constructor
  ·intro h
   have hs:a.length=b.length:=by omega
   refine Yvq (d:=zV) hs (fun n hn=> ?_)
   have:=h2 n (by omega) (by omega)
   unfold fL at this
   by_cases hd:cmpV (a.getD n zV) (b.getD n zV)=0
   ·exact cmpV_zero.1 hd
   ·rw[decide_eq_false hd]at this;cases this
  ·intro h;rw[h]
theorem YvC(a b:Vals)(ha:SzV a)(hb:SzV b):q61 loO a b=some (decide (a=b)):=by
 unfold q61
 rw[YvA a b ha hb,Ywc]
 have:decide (cmpL a b=0)=decide (a=b):=by rw[decide_eq_decide];exact YvB
 rw[this]
theorem YvD(a:List ByteArray)(ha:a.length<=maxEl):q64 loO a a=some true:=by
 have hm:maxEl=1073741824:=rfl
 have hL:Yf2 loO (a,a,0)=some (Ywd (R:=Bool⊕Unit) (fun _=>none) a.length 0 (.inr ())):=by
  refine YaD (fun n=>(a,a,(n:Int))) _ a.length _ rfl ?_ (fun n hn=> ?_)
  ·simp[Yef]
  ·have e1:decide ((n:Int)< (a.length:Int))=true:=by simp;omega
   have e2:YAQ .i64 ((n:Int)+1)=((n+1:Nat):Int):=by rw[wr6 (by omega) (by omega)];omega
   simp only[Yef,e1,cond_true,e2,decide_true,YAE,cond_false]
   rw[chkT _ (by omega),chkT _ (by omega)]
 unfold q64
 simp only[decide_true,YAE,cond_false]
 rw[hL,Ywc,Ygd _ _ (fun _ _ _=>rfl)];rfl
theorem YvE(nm:ByteArray)(attrs:List ByteArray)(rows:Rws)(ha:attrs.length<=maxEl)(hr:SzR rows):q66 loO nm attrs rows nm attrs rows=some true:=by
 have hm:maxEl=1073741824:=rfl
 have hrl:=hr.1
 have hL:Yf3 loO (0,nm,attrs,rows,nm,attrs,rows)=some (Ywd (R:=Bool⊕Unit) (fun _=>none) rows.length 0 (.inr ())):=by
  refine YaD (fun n=>((n:Int),nm,attrs,rows,nm,attrs,rows)) _ rows.length _ rfl ?_ (fun n hn=> ?_)
  ·simp[Yeg]
  ·have e1:decide ((n:Int)< (rows.length:Int))=true:=by simp;omega
   have e2:YAQ .i64 ((n:Int)+1)=((n+1:Nat):Int):=by rw[wr6 (by omega) (by omega)];omega
   have q:=hr.2 (rows.getD n zR) (Yc0 hn)
   simp only[Yeg,q65,e1,cond_true,e2,decide_true,YAI,YvC _ _ q q,Ywc,YAE,cond_false]
   rw[chkT _ (by omega),chkT _ (by omega)]
 unfold q66
 simp only[decide_true,YAE,cond_false,YvD attrs ha,Ywc]
 rw[hL,Ywc,Ygd _ _ (fun _ _ _=>rfl)];rfl
end
end Go.Abs.G03
namespace Go.Abs.G03
open Go Go.Abs
noncomputable section
theorem _root_.Go.Abs.sz3{t1 t2 t3:Ty}{r:Cs}{x:(Cs.cons t1 (Cs.cons t2 (Cs.cons t3 r))).den}{N:Nat}(h:Cs.sz (Cs.cons t1 (Cs.cons t2 (Cs.cons t3 r))) x<=N):t3.sz (fstP _ (sndP _ (sndP _ x)))<=N:=by
 simp only[Cs.sz]at h;omega
def pId(rows:Rws)(id:Int)(m:Nat):Bool:=decide ((rows.getD m zR).1=id)
def YxY(rows:Rws)(id:Int):Int×Bool:=(max (idxR (pId rows id) rows.length 0) 0,decide (0<=idxR (pId rows id) rows.length 0))
theorem YzI(nm:ByteArray)(attrs:List ByteArray)(rows:Rws)(id:Int)(hr:rows.length<=maxEl):q81 loO nm attrs rows id=some (YxY rows id):=by
 have hm:maxEl=1073741824:=rfl
 have hL:Yf4 loO (rows,(rows.length:Int),0,id)=some (Ywd (R:=(Int×Int)⊕Int) (fun m=>bif pId rows id m then some (.inl ((m:Int),id))else none) rows.length 0 (.inr id)):=by
  refine YaD (fun n=>(rows,(rows.length:Int),(n:Int),id)) _ rows.length _ rfl ?_ (fun n hn=> ?_)
  ·simp[Yeh]
  ·have e1:decide ((n:Int)< (rows.length:Int))=true:=by simp;omega
   have e2:YAQ .i64 ((n:Int)+1)=((n+1:Nat):Int):=by rw[wr6 (by omega) (by omega)];omega
   simp only[Yeh,e1,cond_true,e2,YAI,q79,Ywc]
   rw[chkT _ (by omega)]
   unfold pId
   cases decide ((rows.getD n zR).1=id)<;>rfl
 have hI:q80 loO rows id=some (idxR (pId rows id) rows.length 0,id):=by
  unfold q80 idxR
  rw[hL,Ywc]
  have:=Yl9 (f:=fun m=>bif pId rows id m then some (Sum.inl (m:Int))else none) (fun x:Int⊕Unit=>match x with| .inl i=>(Sum.inl (i,id):(Int×Int)⊕Int)| .inr _=>.inr id) (r0:=.inr ()) rows.length 0
  have e:(fun m=>(bif pId rows id m then some (Sum.inl (m:Int))else none:Option (Int⊕Unit)).map fun x:Int⊕Unit=>match x with| .inl i=>(Sum.inl (i,id):(Int×Int)⊕Int)| .inr _=>.inr id)=fun m=>bif pId rows id m then some (.inl ((m:Int),id))else none:=by
   funext m;cases pId rows id m<;>rfl
  rw[e]at this
  rw[<-this]
  cases Ywd (R:=Int⊕Unit) (fun m=>bif pId rows id m then some (Sum.inl (m:Int))else none) rows.length 0 (.inr ())<;>rfl
 unfold q81 YxY
 rw[hI,Ywc]
theorem YzJ(nm:ByteArray)(attrs:List ByteArray)(rows:Rws)(id:Int)(hr:rows.length<=maxEl):q82 loO nm attrs rows id=some (YxY rows id):=by
 have hm:maxEl=1073741824:=rfl
 have hL:Yf5 loO (id,0,nm,attrs,rows)=some (Ywd (R:=(Int×Bool)⊕Unit) (fun m=>bif pId rows id m then some (.inl ((m:Int),true))else none) rows.length 0 (.inr ())):=by
  refine YaD (fun n=>(id,(n:Int),nm,attrs,rows)) _ rows.length _ rfl ?_ (fun n hn=> ?_)
  ·simp[Yei]
  ·have e1:decide ((n:Int)< (rows.length:Int))=true:=by simp;omega
   have e2:YAQ .i64 ((n:Int)+1)=((n+1:Nat):Int):=by rw[wr6 (by omega) (by omega)];omega
   simp only[Yei,e1,cond_true,e2,YAI]
   rw[chkT _ (by omega)]
   unfold pId
   cases decide ((rows.getD n zR).1=id)<;>rfl
 unfold q82 YxY
 rw[hL,Ywc]
 have: ∀k n,(match Ywd (R:=(Int×Bool)⊕Unit) (fun m=>bif pId rows id m then some (.inl ((m:Int),true))else none) k n (.inr ())with| .inl x=>(some (x.1,x.2):Option (Int×Bool))| .inr _=>some (0,false))=some (max (idxR (pId rows id) k n) 0,decide (0<=idxR (pId rows id) k n)):=by
  intro k
  induction k with
  |zero=>intro n;rfl
  |succ k ih=>
   intro n
   have:=ih (n+1)
   unfold idxR at this⊢
   simp only[Ywd]
   by_cases hp:pId rows id n=true
   ·simp[hp]
   ·simp only[Bool.not_eq_true]at hp;simpa[hp]using this
 rw[<-this]
 cases Ywd (R:=(Int×Bool)⊕Unit) (fun m=>bif pId rows id m then some (.inl ((m:Int),true))else none) rows.length 0 (.inr ())<;>rfl
theorem Ymh(r:Int×Vals)(h:SzV r.2):q87 loO r.1 r.2=some r:=by
 unfold q87 q86
 have:(YAm r.2.length maxEl&&YAm 1 3)=true:=by simp;exact h.1
 rw[this];rfl
theorem Ymi(r:Int×Vals)(h:SzV r.2):q91 loO r.1 r.2=some r:=by
 unfold q91
 rw[chkT _ h.1]
theorem YzK(nm:ByteArray)(attrs:List ByteArray)(rows rows1:Rws)(ha:attrs.length<=maxEl)(hr:SzR rows1):q95 loO nm attrs rows rows1=some (nm,attrs,rows1):=by
 have hm:maxEl=1073741824:=rfl
 have hrl:=hr.1
 have hL:Yf6 loO (rows1,(rows1.length:Int),0,YAP #[],[],[],nm,attrs,[])=some (YAP #[],[],[],nm,attrs,rows1):=by
  refine Ygb (N:=rows1.length) (st:=fun n=>(rows1,(rows1.length:Int),(n:Int),YAP #[],[],[],nm,attrs,rows1.take n)) rfl ?_ (fun n hn=> ?_)
  ·simp[Yej]
  ·have e1:decide ((n:Int)< (rows1.length:Int))=true:=by simp;omega
   have e2:YAQ .i64 ((n:Int)+1)=((n+1:Nat):Int):=by rw[wr6 (by omega) (by omega)];omega
   simp only[Yej,e1,cond_true,e2,YAI,Ymh _ (hr.2 (rows1.getD n zR) (Yc0 hn)),Ywc]
   rw[chkT _ (by omega),chkT _ (by simp;omega),Ygg (d:=zR) hn]
 unfold q95 q19
 have:(YAm attrs.length maxEl&&YAm 1 1)=true:=by simp;exact ha
 simp only[this,cond_true,Ywc]
 rw[hL];rfl
theorem YzL(nm:ByteArray)(attrs:List ByteArray)(rows rows1:Rws)(ha:attrs.length<=maxEl)(hr:SzR rows1):q105 loO nm attrs rows rows1=some (nm,attrs,rows1):=by
 have hm:maxEl=1073741824:=rfl
 have hrl:=hr.1
 have hL:Yf8 loO (rows1,0,YAP #[],[],[],nm,attrs,[])=some (YAP #[],[],[],nm,attrs,rows1):=by
  refine Ygb (N:=rows1.length) (st:=fun n=>(rows1,(n:Int),YAP #[],[],[],nm,attrs,rows1.take n)) rfl ?_ (fun n hn=> ?_)
  ·simp[Yek]
  ·have e1:decide ((n:Int)< (rows1.length:Int))=true:=by simp;omega
   have e2:YAQ .i64 ((n:Int)+1)=((n+1:Nat):Int):=by rw[wr6 (by omega) (by omega)];omega
   simp only[Yek,e1,cond_true,e2,YAI,Ymi _ (hr.2 (rows1.getD n zR) (Yc0 hn)),Ywc]
   rw[chkT _ (by omega),chkT _ (by simp;omega),Ygg (d:=zR) hn]
 unfold q105
 rw[chkT _ ha,hL];rfl
end
end Go.Abs.G03
namespace Go.Abs.G03
open Go Go.Abs
noncomputable section
def Yyx(attrs:List ByteArray)(rows:Rws):Prop:=(∀m,m<rows.length->0< (rows.getD m zR).1/\ (rows.getD m zR).2.length=attrs.length/\vsB (rows.getD m zR).2=true)/\ ∀a b,a<b->b<rows.length->(rows.getD a zR).1< (rows.getD b zR).1
theorem YvF{attrs:List ByteArray}{rows:Rws}:(∀m,m<rows.length->fV attrs rows m=none)↔Yyx attrs rows:=by
 have one: ∀m,fV attrs rows m=none↔ (YwN rows m< (rows.getD m zR).1/\ (rows.getD m zR).2.length=attrs.length/\vsB (rows.getD m zR).2=true):=by
  intro m
  unfold fV
  by_cases h1:(rows.getD m zR).1<=YwN rows m
  ·simp only[h1,decide_true,cond_true];constructor
   ·intro h;cases h
   ·rintro⟨h,_⟩;omega
  ·by_cases h2:((rows.getD m zR).2.length:Int)=(attrs.length:Int)
   ·simp only[h1,h2,decide_false,cond_false,decide_true,YAE]
    cases vsB (rows.getD m zR).2 with
    |true=>
     simp only[YAE,cond_false,true_iff,and_true]
     exact⟨by omega,by omega⟩
    |false=>
     simp only[YAF,cond_true]
     constructor
     ·intro h;cases h
     ·rintro⟨_,_,h⟩;cases h
   ·simp only[h1,h2,decide_false,cond_false,YAF,cond_true]
    constructor
    ·intro h;cases h
    ·rintro⟨_,h,_⟩;omega
 constructor
 ·intro h
  have h': ∀m,m<rows.length->YwN rows m< (rows.getD m zR).1/\ (rows.getD m zR).2.length=attrs.length/\vsB (rows.getD m zR).2=true:=fun m hm=>(one m).1 (h m hm)
  have hpos: ∀m,m<rows.length->0< (rows.getD m zR).1:=by
   intro m
   induction m with
   |zero=>intro hm;exact(h' 0 hm).1
   |succ m ih=>intro hm;have:=ih (by omega);have:=(h' (m+1) hm).1;simp only[YwN]at this;omega
  refine⟨fun m hm=>⟨hpos m hm,(h' m hm).2⟩,fun a b hab=> ?_⟩
  induction b with
  |zero=>omega
  |succ b ih=>
   intro hb
   have h1:=(h' (b+1) hb).1
   simp only[YwN]at h1
   by_cases e:a=b
   ·subst e;exact h1
   ·have:=ih (by omega) (by omega);omega
 ·rintro⟨h1,h2⟩ m hm
  refine(one m).2 ⟨?_,(h1 m hm).2⟩
  cases m with
  |zero=>exact(h1 0 hm).1
  |succ m=>exact h2 m (m+1) (by omega) hm
theorem Ymj{f:Nat->Option (Int⊕Unit)}(hf: ∀m i,f m=some i->i≠ .inl 0/\i≠ .inr ()): ∀k n,(match Ywd f k n (.inr ())with| .inl i=>i| .inr _=>(0:Int))=0↔ ∀m,n<=m->m<n+k->f m=none
 |0,n=>by simp[Ywd];intro m h1 h2;omega
 |k+1,n=>by
  simp only[Ywd]
  cases hn:f n with
  |some i=>
   have:=hf n i hn
   constructor
   ·intro h
    cases i with
    |inl z=>simp only at h;subst h;exact absurd rfl this.1
    |inr u=>cases u;exact absurd rfl this.2
   ·intro h;have:=h n (YAk _) (by omega);rw[hn]at this;cases this
  |none=>
   have ih:=Ymj hf k (n+1)
   simp only
   rw[ih]
   constructor
   ·intro h m h1 h2
    by_cases e:m=n
    ·rw[e];exact hn
    ·exact h m (by omega) (by omega)
   ·intro h m h1 h2;exact h m (by omega) (by omega)
theorem YvG{attrs:List ByteArray}{rows:Rws}(m:Nat)(i:Int⊕Unit)(h:fV attrs rows m=some i):i≠ .inl 0/\i≠ .inr ():=by
 unfold fV at h
 cases h1:decide ((rows.getD m zR).1<=YwN rows m)<;>rw[h1]at h
 ·cases h2:(!decide (((rows.getD m zR).2.length:Int)=(attrs.length:Int)))<;>rw[h2]at h
  ·cases h3:(!vsB (rows.getD m zR).2)<;>rw[h3]at h
   ·cases h
   ·injection h with h;subst h;simp
  ·injection h with h;subst h;simp
 ·injection h with h;subst h;simp
def Yyy(nm:ByteArray)(attrs:List ByteArray):Prop:=Yxa nm=true/\attrs.length<=16/\anyN (fA attrs) attrs.length 0=false
theorem YvH(nm:ByteArray)(attrs:List ByteArray)(rows:Rws):Yxm nm attrs rows=0↔Yyy nm attrs/\rows.length<=1000/\Yyx attrs rows:=by
 unfold Yxm Yyy
 cases h0:Yxa nm with
 |false=>simp
 |true=>
  by_cases h1:(16:Int)< (attrs.length:Int)
  ·simp only[h1,YAE,cond_false,decide_true,cond_true]
   constructor
   ·intro h;cases h
   ·rintro⟨⟨_,h,_⟩,_⟩;omega
  ·by_cases h2:(1000:Int)< (rows.length:Int)
   ·simp only[h1,h2,YAE,cond_false,decide_true,decide_false,cond_true]
    constructor
    ·intro h;cases h
    ·rintro⟨_,h,_⟩;omega
   ·simp only[h1,h2,YAE,cond_false,decide_false]
    cases h3:anyN (fA attrs) attrs.length 0 with
    |true=>simp
    |false=>
     simp only[cond_false]
     refine(Ymj (YvG (attrs:=attrs) (rows:=rows)) rows.length 0).trans ?_
     rw[<-YvF]
     constructor
     ·intro h;exact⟨⟨trivial,by omega,trivial⟩,by omega,fun m hm=>h m (YAu _) (by omega)⟩
     ·rintro⟨_,_,h⟩ m _ hm;exact h m (by omega)
def Pos(rows:Rws)(id:Int)(p:Nat):Prop:=p<=rows.length/\ (∀i,i<p->(rows.getD i zR).1<id)/\ ∀i,p<=i->i<rows.length->id< (rows.getD i zR).1
def insR(rows:Rws)(p:Nat)(r:Int×Vals):Rws:=rows.take p++([r]++rows.drop p)
theorem Ygh{rows:Rws}{p:Nat}{r:Int×Vals}(h:p<=rows.length):(insR rows p r).length=rows.length+1:=by simp[insR];omega
theorem Ycd{rows:Rws}{p:Nat}{r:Int×Vals}(h:p<=rows.length)(m:Nat):(insR rows p r).getD m zR=if m<p then rows.getD m zR else if m=p then r else rows.getD (m-1) zR:=by
 unfold insR
 have hl:(rows.take p).length=p:=by simp;omega
 simp only[List.getD_eq_getElem?_getD]
 by_cases h1:m<p
 ·rw[if_pos h1,YzQ (by omega),YzX,if_pos h1]
 ·rw[if_neg h1,YzT (by omega),hl]
  by_cases h2:m=p
  ·subst h2;simp
  ·rw[if_neg h2]
   obtain⟨k,rfl⟩: ∃k,m=p+1+k:=⟨m-p-1,by omega⟩
   rw[YzT (by simp;omega),Yz3]
   have e:p+(p+1+k-p-[r].length)=p+1+k-1:=by simp;omega
   rw[e]
theorem YvI{rows:Rws}{p:Nat}{r:Int×Vals}(hp:p<=rows.length)(hl:rows.length<=1000)(h:SzR rows)(hr:SzV r.2):SzR (insR rows p r):=by
 have hm:maxEl=1073741824:=rfl
 refine⟨by rw[Ygh hp];omega,fun q hq=> ?_⟩
 simp only[insR,List.mem_append,Yz9]at hq
 rcases hq with h'|h'|h'
 ·exact h.2 q (List.mem_of_mem_take h')
 ·rw[h'];exact hr
 ·exact h.2 q (List.mem_of_mem_drop h')
theorem w64(n:Int):YAQ .u64 n=n % 18446744073709551616:=by
 have e:(2:Int)^IntKind.bits .u64=18446744073709551616:=rfl
 have s:IntKind.signed .u64=false:=rfl
 simp only[YAQ,e,s,Bool.false_and];rfl
theorem YvJ(i j:Nat)(hi:i<=100000)(hj:j<=100000):YAQ .i64 ((YAQ .u64 (YAQ .i64 ((i:Int)+(j:Int)))).fdiv (2^(min (1:Int).toNat (IntKind.bits .u64))))=(((i+j)/2:Nat):Int):=by
 have e1:(2:Int)^(min (1:Int).toNat (IntKind.bits .u64))=2:=rfl
 have e2:YAQ .i64 ((i:Int)+(j:Int))=(i:Int)+(j:Int):=wr6 (by omega) (by omega)
 rw[e1,e2,w64,Int.emod_eq_of_lt (by omega) (by omega),Int.fdiv_eq_ediv_of_nonneg _ (by omega)]
 rw[wr6 (by omega) (by omega)]
 omega
theorem YvK{rows:Rws}{id:Int}{h1:ByteArray}{h2:List ByteArray}(hn:rows.length<=1000)(hs: ∀a b,a<b->b<rows.length->(rows.getD a zR).1< (rows.getD b zR).1)(hne: ∀m,m<rows.length->(rows.getD m zR).1≠id):
  ∀k i j,j-i<=k->i<=j->j<=rows.length->(∀m,m<i->(rows.getD m zR).1<id)->(∀m,j<=m->m<rows.length->id< (rows.getD m zR).1)->
   ∃p,Pos rows id p/\YwG (YbQ loO) (id,(rows.length:Int),(i:Int),(j:Int),rows,h1,h2)=some (id,(rows.length:Int),(p:Int),rows,h1,h2):=by
 intro k
 induction k with
 |zero=>
  intro i j hk hij hj hlo hhi
  refine⟨i,⟨by omega,hlo,fun m h3 h4=>hhi m (by omega) h4⟩,?_⟩
  rw[Ya7]
  have e1:decide ((i:Int)< (j:Int))=false:=by simp;omega
  simp only[YbQ,e1,cond_false]
 |succ k ih=>
  intro i j hk hij hj hlo hhi
  by_cases he:i=j
  ·exact ih i j (by omega) hij hj hlo hhi
  ·have hlt:(i+j)/2<j:=by omega
   have hge:i<=(i+j)/2:=by omega
   have hhalf:=YvJ i j (by omega) (by omega)
   generalize(i+j)/2=h at hlt hge hhalf
   have e1:decide ((i:Int)< (j:Int))=true:=by simp;omega
   have e2:YAQ .i64 ((h:Int)+1)=((h+1:Nat):Int):=by rw[wr6 (by omega) (by omega)];omega
   by_cases hc:(rows.getD h zR).1<id
   ·obtain⟨p,hp,e⟩:=ih (h+1) j (by omega) (by omega) hj (fun m hm=>by
     by_cases hmh:m=h
     ·rw[hmh];exact hc
     ·have:=hs m h (by omega) (by omega);omega) hhi
    refine⟨p,hp,?_⟩
    rw[Ya7]
    have hI:q101 loO (rows.getD h zR).1 (rows.getD h zR).2 id=some (-1):=by unfold q101;rw[decide_eq_true hc];rfl
    simp only[YbQ,e1,cond_true,hhalf,YAI,hI,Ywc,e2]
    rw[chkT _ (by omega),chkT _ (by omega)]
    simp only[show decide ((-1:Int)<0)=true from rfl,cond_true]
    exact e
   ·have hgt:id< (rows.getD h zR).1:=by have:=hne h (by omega);omega
    obtain⟨p,hp,e⟩:=ih i h (by omega) (by omega) (by omega) hlo (fun m hm hml=>by
     by_cases hmh:m=h
     ·rw[hmh];exact hgt
     ·have:=hs h m (by omega) hml;omega)
    refine⟨p,hp,?_⟩
    rw[Ya7]
    have hI:q101 loO (rows.getD h zR).1 (rows.getD h zR).2 id=some 1:=by unfold q101;rw[decide_eq_false hc,decide_eq_true hgt];rfl
    simp only[YbQ,e1,cond_true,hhalf,YAI,hI,Ywc]
    rw[chkT _ (by omega),chkT _ (by omega)]
    simp only[show decide ((1:Int)<0)=false from rfl,cond_false]
    exact e
theorem YvL{rows:Rws}{id:Int}{h1:ByteArray}{h2:List ByteArray}(hn:rows.length<=1000)(hs: ∀a b,a<b->b<rows.length->(rows.getD a zR).1< (rows.getD b zR).1)(hne: ∀m,m<rows.length->(rows.getD m zR).1≠id):
  ∃p b,Pos rows id p/\q102 loO id rows h1 h2=some ((p:Int),b,rows,h1,h2):=by
 obtain⟨p,hp,e⟩:=YvK (h1:=h1) (h2:=h2) hn hs hne rows.length 0 rows.length (by omega) (by omega) (YAk _) (fun m h=>by omega) (fun m h3 h4=>by omega)
 unfold q102 Yf7
 have e:loO.run (YbQ loO) (id,(rows.length:Int),0,(rows.length:Int),rows,h1,h2)=some (id,(rows.length:Int),(p:Int),rows,h1,h2):=e
 rw[e,Ywc]
 by_cases hpl:p<rows.length
 ·have e1:decide ((p:Int)< (rows.length:Int))=true:=by simp;omega
  have hgt:=hp.2.2 p (YAk _) hpl
  have hI:q101 loO (rows.getD p zR).1 (rows.getD p zR).2 id=some 1:=by unfold q101;rw[decide_eq_false (by omega),decide_eq_true hgt];rfl
  refine⟨p,decide ((1:Int)=0),hp,?_⟩
  simp only[e1,cond_true,YAI,hI,Ywc]
  rw[chkT _ (by omega)]
 ·have e1:decide ((p:Int)< (rows.length:Int))=false:=by simp;omega
  refine⟨p,false,hp,?_⟩
  simp only[e1,cond_false]
theorem YvM{rows:Rws}{r:Int×Vals}{k:Nat}(hk:k<rows.length):
  ((insR rows (k+1) r).set (k+1) ((insR rows (k+1) r).getD k zR)).set k ((insR rows (k+1) r).getD (k+1) zR)=insR rows k r:=by
 rw[Ycd (by omega),Ycd (by omega),if_pos (by omega),if_neg (by omega),if_pos rfl]
 have ht:rows.take (k+1)=rows.take k++[rows.getD k zR]:=Ygg (d:=zR) hk
 have hd:rows.drop k=rows.getD k zR::rows.drop (k+1):=by
  rw[List.drop_eq_getElem_cons hk,List.getD_eq_getElem?_getD,YzO hk];rfl
 have hl:(rows.take k).length=k:=by simp;omega
 unfold insR
 rw[ht,hd]
 generalize rows.getD k zR=c
 generalize rows.drop (k+1)=B
 generalize rows.take k=A at hl
 subst hl
 have e1:(A++[c]++([r]++B)).set (A.length+1) c=A++[c]++([c]++B):=by
  rw[List.set_append_right _ _ (by simp)]
  simp
 rw[e1]
 have e2:A++[c]++([c]++B)=A++(c::c::B):=by simp
 rw[e2,List.set_append_right _ _ (by simp)]
 simp
theorem Yzx{rows:Rws}{r:Int×Vals}{p:Nat}{nm:ByteArray}{attrs:List ByteArray}(hn:rows.length<=1000)(hp:Pos rows r.1 p): ∀d k,k=p+d->k<=rows.length->
  YwG (Ycb loO) ((k:Int),YAP #[],[],[],nm,attrs,insR rows k r)=some (YAP #[],[],[],nm,attrs,insR rows p r):=by
 intro d
 induction d with
 |zero=>
  intro k hk hkl
  have hk:k=p:=by omega
  subst hk
  rw[Ya7]
  by_cases h0:k=0
  ·subst h0
   simp only[Ycb,show decide ((0:Int)< ((0:Nat):Int))=false from rfl,cond_false]
  ·obtain⟨q,rfl⟩: ∃q,k=q+1:=⟨k-1,by omega⟩
   have e1:decide ((0:Int)< ((q+1:Nat):Int))=true:=decide_eq_true (by omega)
   have e2:YAQ .i64 (((q+1:Nat):Int)-1)=(q:Int):=(wr6 (by omega) (by omega)).trans (by omega)
   have hl:=Ygh (r:=r) hp.1
   have e3:decide (((insR rows (q+1) r).getD (q+1) zR).1< ((insR rows (q+1) r).getD q zR).1)=false:=by
    rw[Ycd hp.1,Ycd hp.1,if_neg (by omega),if_pos rfl,if_pos (by omega)]
    have:=hp.2.1 q (by omega)
    exact decide_eq_false (by omega)
   simp only[Ycb,e1,cond_true,e2,YAI,e3,cond_false]
   rw[chkT _ (by omega),chkT _ (by omega)]
 |succ d ih=>
  intro k hk hkl
  obtain⟨q,rfl⟩: ∃q,k=q+1:=⟨k-1,by omega⟩
  have:=ih q (by omega) (by omega)
  rw[Ya7]
  have e1:decide ((0:Int)< ((q+1:Nat):Int))=true:=decide_eq_true (by omega)
  have e2:YAQ .i64 (((q+1:Nat):Int)-1)=(q:Int):=(wr6 (by omega) (by omega)).trans (by omega)
  have hl:=Ygh (r:=r) hkl
  have e3:decide (((insR rows (q+1) r).getD (q+1) zR).1< ((insR rows (q+1) r).getD q zR).1)=true:=by
   rw[Ycd hkl,Ycd hkl,if_neg (by omega),if_pos rfl,if_pos (by omega)]
   have:=hp.2.2 q (by omega) (by omega)
   exact decide_eq_true (by omega)
  simp only[Ycb,e1,cond_true,e2,YAI,e3]
  rw[chkT _ (by omega),chkT _ (by omega),chkT _ (by omega),chkT _ (by omega),chkT _ (by omega),chkT _ (by rw[YAe];omega),YvM (by omega)]
  exact this
end
end Go.Abs.G03
namespace Go.Abs.G03
open Go Go.Abs
noncomputable section
theorem YvN{rows:Rws}{id:Int}(h:(YxY rows id).2=false): ∀m,m<rows.length->(rows.getD m zR).1≠id:=by
 unfold YxY at h
 simp only at h
 rw[Yge]at h
 have: ∀k n,anyN (pId rows id) k n=false-> ∀m,n<=m->m<n+k->pId rows id m=false:=by
  intro k
  induction k with
  |zero=>intro n _ m h1 h2;omega
  |succ k ih=>
   intro n hn m h1 h2
   simp only[anyN,Bool.or_eq_false_iff]at hn
   by_cases e:m=n
   ·rw[e];exact hn.1
   ·exact ih (n+1) hn.2 m (by omega) (by omega)
 intro m hm
 have:=this rows.length 0 h m (YAu _) (by omega)
 unfold pId at this
 simpa using this
def InsC(nm:ByteArray)(attrs:List ByteArray)(rows:Rws)(r:Int×Vals)(y:ByteArray×List ByteArray×Rws×Int):Prop:=y.2.2.2=0->Yyy nm attrs/\Yyx attrs rows/\rows.length<1000/\0<r.1/\r.2.length=attrs.length/\vsB r.2=true/\ ∃p,Pos rows r.1 p/\y=(nm,attrs,insR rows p r,0)
theorem YvO(nm:ByteArray)(attrs:List ByteArray)(rows:Rws)(r:Int×Vals)(hr:SzR rows)(hrv:SzV r.2):
  ∃y:ByteArray×List ByteArray×Rws×Int,q104 loO nm attrs rows r.1 r.2=some y/\q106 loO nm attrs rows r.1 r.2=some y/\y.2.1.length<=maxEl/\SzR y.2.2.1/\
   InsC nm attrs rows r y:=by
 have hm:maxEl=1073741824:=rfl
 have hz: ∀e:Int,e≠0-> ∃y:ByteArray×List ByteArray×Rws×Int,(some (YAP #[],[],[],e):Option (ByteArray×List ByteArray×Rws×Int))=some y/\ (some (YAP #[],[],[],e):Option (ByteArray×List ByteArray×Rws×Int))=some y/\y.2.1.length<=maxEl/\SzR y.2.2.1/\
   InsC nm attrs rows r y:=
  fun e he=>⟨_,rfl,rfl,by simp,⟨by simp,fun r h=>by cases h⟩,fun h=>absurd h he⟩
 unfold q104 q106
 simp only[Yzv,Yzw,Ywc,YzI _ _ _ _ hr.1,YzJ _ _ _ _ hr.1]
 by_cases hv:Yxm nm attrs rows=0
 ·obtain⟨v1,v2,v3⟩:=(YvH _ _ _).1 hv
  simp only[hv,decide_true,YAE,cond_false]
  by_cases hl:(r.2.length:Int)=(attrs.length:Int)
  ·simp only[hl,decide_true,YAE,cond_false]
   have v12:=v1.2.1
   by_cases h0:r.1<=0
   ·simp only[h0,decide_true,cond_true];exact hz 1 (by omega)
   ·simp only[h0,decide_false,cond_false,Ymf _ hrv.1,Ymg _ hrv.1,Ywc]
    cases hvs:vsB r.2 with
    |false=>simp only[YAF,cond_true];exact hz 1 (by omega)
    |true=>
     simp only[YAE,cond_false]
     cases hk:(YxY rows r.1).2 with
     |true=>simp only[cond_true];exact hz 5 (by omega)
     |false=>
      simp only[cond_false]
      by_cases h3:(1000:Int)<=(rows.length:Int)
      ·simp only[h3,decide_true,cond_true];exact hz 3 (by omega)
      ·simp only[h3,decide_false,cond_false]
       have hne:=YvN hk
       obtain⟨p,b,hp,hbs⟩:=YvL (h1:=nm) (h2:=attrs) v2 v3.2 hne
       rw[YzK _ _ _ _ (by omega) hr,Ywc,hbs,Ywc,chkT _ rfl,chkT _ rfl,Ymh _ hrv,Ywc]
       have hins:q103 loO (p:Int) [r] rows nm attrs=some (nm,attrs,insR rows p r):=by
        unfold q103 YxO YyK
        have hpl:=hp.1
        have:(decide (0<=(p:Int))&& (YAm (p:Int).toNat rows.length&& (YAj [r].length 1&&YAl rows.length maxEl)))=true:=by
         simp[Nat.blt_eq];omega
        simp only[this,cond_true]
        rfl
       rw[hins,Ywc,chkT _ rfl]
       rw[YzL _ _ _ _ (by omega) hr,Ywc,Ymi _ hrv,Ywc,chkT _ (by simp only[Yz7];omega)]
       have e1:YAQ .i64 (((rows++[r]).length:Int)-1)=(rows.length:Int):=(wr6 (by simp only[YzZ,Yz7];omega) (by simp only[YzZ,Yz7];omega)).trans (by simp)
       have e2:rows++[r]=insR rows rows.length r:=by simp[insR]
       rw[e1,e2]
       have hL:Yf9 loO ((rows.length:Int),YAP #[],[],[],nm,attrs,insR rows rows.length r)=some (YAP #[],[],[],nm,attrs,insR rows p r):=
        Yzx v2 hp (rows.length-p) rows.length (by have:=hp.1;omega) (YAk _)
       rw[hL,Ywc]
       refine⟨_,rfl,rfl,by simp;omega,YvI hp.1 v2 hr hrv,fun _=>⟨v1,v3,by omega,by omega,by omega,hvs,p,hp,rfl⟩⟩
  ·simp only[hl,decide_false,YAF,cond_true];exact hz 6 (by omega)
 ·simp only[hv,decide_false,YAF,cond_true];exact hz _ hv
end
end Go.Abs.G03
namespace Go.Abs.G03
open Go Go.Abs
noncomputable section
theorem YvP(c:Int): ∃v:Int×Int×ByteArray,q71 loO c=some v/\v.2.2.size<=maxEl:=by
 unfold q71
 rw[chkT _ (by decide)]
 by_cases h0:c.tmod 12=0
 ·exact⟨_,by rw[decide_eq_true h0];rfl,by decide⟩
 rw[decide_eq_false h0]
 by_cases h1:c.tmod 12=1
 ·exact⟨_,by rw[decide_eq_true h1];rfl,by decide⟩
 rw[decide_eq_false h1]
 by_cases h2:c.tmod 12=2
 ·exact⟨_,by rw[decide_eq_true h2];rfl,by decide⟩
 rw[decide_eq_false h2]
 by_cases h3:c.tmod 12=3
 ·exact⟨_,by rw[decide_eq_true h3];rfl,by decide⟩
 rw[decide_eq_false h3]
 by_cases h4:c.tmod 12=4
 ·exact⟨_,by rw[decide_eq_true h4];rfl,by decide⟩
 rw[decide_eq_false h4]
 by_cases h5:c.tmod 12=5
 ·exact⟨_,by rw[decide_eq_true h5];rfl,by decide⟩
 rw[decide_eq_false h5]
 by_cases h6:c.tmod 12=6
 ·exact⟨_,by rw[decide_eq_true h6];rfl,by decide⟩
 rw[decide_eq_false h6]
 by_cases h7:c.tmod 12=7
 ·exact⟨_,by rw[decide_eq_true h7];rfl,by decide⟩
 rw[decide_eq_false h7]
 by_cases h8:c.tmod 12=8
 ·exact⟨_,by rw[decide_eq_true h8];rfl,by decide⟩
 rw[decide_eq_false h8]
 by_cases h9:c.tmod 12=9
 ·exact⟨_,by rw[decide_eq_true h9];rfl,by decide⟩
 rw[decide_eq_false h9]
 by_cases h10:c.tmod 12=10
 ·exact⟨_,by rw[decide_eq_true h10];rfl,by decide⟩
 rw[decide_eq_false h10]
 exact⟨_,rfl,by decide⟩
def ofV(c:Int):Int×Int×ByteArray:=(q71 loO c).getD zV
theorem Ymk(c:Int):q71 loO c=some (ofV c)/\ (ofV c).2.2.size<=maxEl:=by
 obtain⟨v,h,g⟩:=YvP c
 have:ofV c=v:=by unfold ofV;rw[h];rfl
 rw[this];exact⟨h,g⟩
def YxA(n:Nat):Rws:=(List.range n).map fun(i:Nat)=>(YAQ .i64 ((2:Int)*(YAQ .i64 ((i:Int)+(1:Int)))),[ofV (YAQ .u8 (i:Int))])
theorem Yml(n:Nat):(YxA n).length=n:=by simp[YxA]
theorem YvQ{n:Nat}(h:n<=2000):SzR (YxA n):=by
 have hm:maxEl=1073741824:=rfl
 refine⟨by rw[Yml];omega,fun r hr=> ?_⟩
 obtain⟨i,_,rfl⟩:=Yz8.1 hr
 refine⟨by simp only[Yz7];omega,fun v hv=> ?_⟩
 rw[Yz9.1 hv];exact(Ymk _).2
theorem full_law(n i:Int)(vs:Vals)(hrv:SzV vs):q107 loO n i vs=some true:=by
 have hm:maxEl=1073741824:=rfl
 unfold q107
 simp only[aw,Ywc,YAE,cond_false]
 rw[chkT _ (by decide)]
 have ht1: -4<n.tmod 4:=by have:=Int.lt_tmod_of_pos n (show(0:Int)<4 by omega);omega
 have ht2:n.tmod 4<4:=Int.tmod_lt_of_pos n (by omega)
 obtain⟨N,hN,hN2⟩: ∃N:Nat,YAQ .i64 ((997:Int)+(YAQ .i64 (n.tmod (4:Int))))=(N:Int)/\N<=1000:=by
  rw[wr6 (n:=n.tmod 4) (by omega) (by omega),wr6 (by omega) (by omega)]
  exact⟨(997+n.tmod 4).toNat,by omega,by omega⟩
 rw[hN]
 have hL:Yga loO ((N:Int),0,i,vs,YAP #[114],[YAP #[97]],[])=some (i,vs,YAP #[114],[YAP #[97]],YxA N):=by
  refine Ygb (N:=N) (st:=fun k=>((N:Int),(k:Int),i,vs,YAP #[114],[YAP #[97]],YxA k)) rfl ?_ (fun k hk=> ?_)
  ·simp[Yel]
  ·have e1:decide ((k:Int)< (N:Int))=true:=by simp;omega
   have e2:YAQ .i64 ((k:Int)+1)=((k+1:Nat):Int):=(wr6 (by omega) (by omega)).trans (by omega)
   have e3:YxA (k+1)=YxA k++[(YAQ .i64 ((2:Int)*(YAQ .i64 ((k:Int)+(1:Int)))),[ofV (YAQ .u8 (k:Int))])]:=by
    unfold YxA;rw[List.range_succ,List.map_append];rfl
   simp only[Yel,e1,cond_true,(Ymk _).1,Ywc]
   rw[chkT _ (by rw[Yml];simp only[Yz7];omega),<-e3,e2]
 rw[hL,Ywc]
 obtain⟨y,h1,h2,h3,h4,_⟩:=YvO (YAP #[114]) [YAP #[97]] (YxA N) (i,vs) (YvQ (by omega)) hrv
 simp only at h1 h2
 simp only[h1,h2,Ywc,decide_true,cond_true,YvE _ _ _ h3 h4]
end
end Go.Abs.G03
