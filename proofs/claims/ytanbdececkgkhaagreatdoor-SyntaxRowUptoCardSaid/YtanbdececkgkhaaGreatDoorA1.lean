/- Calls by contract. No condition. -/
import Derived.Test.YtanbdececkgkhaaGreatDoorA
import Derived.ProofKit
set_option linter.unusedVariables false
set_option linter.unusedSimpArgs false
set_option linter.unusedSectionVars false
open Option renaming some → U,none → zz
open Bool renaming true → zZ,false → zj
open List renaming getElem?_eq_some_iff → iP, mem_of_getElem? → jc, getElem?_eq_getElem → je, getElem?_map → jt, map_cons → kn, getElem?_append_left → ld, all_eq_true → ly, mem_iff_getElem? → mE, length_eq_zero_iff → mC, mem_map → mH, mem_cons → mT, getElem?_append_right → nF, length_cons → pL, getElem?_eq_none → qb, mem_cons_self → pM, mem_filter → qY, nil_append → qt, ext_getElem? → pT, any_eq_true → uK, mem_append → uE, mem_cons_of_mem → wD, getD_eq_getElem?_getD → vW, getElem?_replicate → vN
open Nat renaming beq → im, ble → iS, eq_of_beq_eq_true → jr, blt → js, le_refl → jG, mul_le_mul_right → lD, le_of_ble_eq_true → l9, lt_of_lt_of_le → mS, le_trans → nu, add_mul → nY, zero_le → sP
open Option renaming bind → d', map_eq_some_iff → lS, map_some → l_, bind_some → pK, isSome_iff_exists → pU, getD_some → qu, bind_eq_some_iff → xO, bind_none → Aq
open Bool renaming and_eq_true → iI, not_false → qz, or_eq_true → rG
open Array renaming getD_eq_getD_getElem? → mI, getElem?_eq_some_iff → pV, getElem?_eq_getElem → rH
open ByteArray renaming mk → a_
namespace Go.Abs
open Go Go.RowKit
def qc(P:Program)(fm:FM)(f:FuncId)(c:vP):Prop:=
 ∀args H r H',c args H r H'->kB P f=zZ/\ ∀(w:World) (L:Nat->Loc) (vs:Array Value),HR fm w L (hf H)->vs.size=args.length->
  (∀j a,args[j]?=U a->VR fm w L (vs.getD j undef) a)->
  Calls P f vs w λe w'=> ∃v d,e= .returned v/\iv L w w'/\hY L d w.heap.size/\HR fm w' d (hf H')/\VR fm w' d v r
structure jq(P:Program)(fm:FM)(C:Ctx):Prop where
 ok: ∀f,qc P fm f (C.C (fm f))
 nr: ∀f args H r,C.pf f=zZ->C.C f args H r H->(∀a∈args,NR a)/\NR r
 any: ∀f args r,C.pf f=zZ->C.C f args [] r []->C.C f args [zz] r [zz]
section
variable{P:Program}{fm:FM}{w:World}{L:Nat->Loc}
theorem Gq{J:Nat->Loc}(q: ∀b,b<w.heap.size-> ¬ma L b-> ¬ma J b){x:Value}{a:AV}(h:VR fm w L x a):NR a->VR fm w J x a:=by
 induction h with
 |v x=>intro _;exact .v x
 |u x=>intro _;exact .u x
 |emp A=>intro _;exact .emp A
 |lT A es c=>intro _;exact .lT A es c
 |rd b o c es l vals C D y E F d G h1 M I=>
  intro H;cases H with
  |rd es l H=>exact .rd b o c es l vals C D y E (q b d F) d G h1 (λi e j x K z=>I i e j x K z (H e (jc K) x (jc z)))
 |rp b o cs vals F d G h1 M I=>
  intro H;cases H with
  |rp cs H=>exact .rp b o cs vals (q b d F) d G h1 (λj x z=>I j x z (H x (jc z)))
 |jH g es cap a O len h N=>intro H;cases H
 |jo A a b h P=>intro H;cases H
 |ju A c a O len h N=>intro H;cases H
 |lg g es cap a i j h=>intro H;cases H
 |jN Q a i j h=>intro H;cases H
 |qT g a v h R S=>intro H;cases H
 |lL p a h=>intro H;cases H
 |rX g a h=>intro H;cases H
 |rY g a h=>intro H;cases H
 |mJ p a h=>intro H;cases H
 |agg xs cs B h1 h I=>
  intro H;cases H with
  |agg cs H=>exact .agg xs cs B h1 (λj a k=>I j a k (H a (jc k)))
 |iZ xs cs B h I=>
  intro H;cases H with
  |iZ cs H=>exact .iZ xs cs B (λj a k=>I j a k (H a (jc k)))
 |clo f xs cs B h I=>
  intro H;cases H with
  |clo T cs H=>exact .clo f xs cs B (λj a k=>I j a k (H a (jc k)))
 |er t p=>intro _;exact .er t p
theorem Wy{p:Nat->Loc}{W:World}{x:Value}{a:AV}(h:VR fm w L x a)(q:mY a):VR fm W p x a:=by
 induction q generalizing x with
 |v y=>rw[kI h];exact .v y
 |iZ l g=>
  obtain⟨xs,rfl,z,H⟩:=EL h;refine .iZ xs l z (λj c d=> ?_);obtain⟨y,rfl⟩:=g c (jc d);rw[kI (H j _ d)];exact .v y
 |emp=>cases h;exact .emp _
 |lT es=>
  cases h with
  |lT=>exact .lT _ _ _
  |rd b o c es l vals k=>exact absurd rfl k
 |agg l g I=>
  obtain⟨xs,rfl,z,H⟩:=wJ h;exact .agg xs l z (λj c d=>(H j c d).1) (λj c d=>I c (jc d) (H j c d).2)
 |NA l g I=>
  obtain⟨xs,rfl,z,H⟩:=EL h;exact .iZ xs l z (λj c d=>I c (jc d) (H j c d))
noncomputable def m'(L:Nat->Loc)(n:Nat)(Bw:Nat->Prop):Nat->Loc:=λk=>
 if k=0 then .hid (λb=>b<n/\ma L b/\ ¬Bw b)else .fresh
theorem uL{n:Nat}{Bw:Nat->Prop}{b:Nat}: ¬kN (m' L n Bw) b:=by
 rintro(⟨a,e,c,h⟩| ⟨a,i,h⟩)<;>(unfold m' at h;split at h<;>cases h)
theorem EN{n:Nat}{Bw:Nat->Prop}:m' L n Bw 0= .hid (λb=>b<n/\ma L b/\ ¬Bw b):=rfl
theorem Gr{n:Nat}{Bw:Nat->Prop}{b:Nat}(h:ma (m' L n Bw) b):ma L b/\ ¬Bw b/\b<n:=by
 rcases h with h| ⟨a,s,h,H⟩
 .exact absurd h uL
 .unfold m' at h;split at h
  .injection h with h;subst h;exact⟨H.2.1,H.2.2,H.1⟩
  .cases h
theorem N0(n:Nat)(p:n=w.heap.size)(Bw:Nat->Prop)(H:rZ fm w L):HR fm w (m' L n Bw) (hf [zz]):=by
 refine⟨λa o h=> ?_,λa h=> ?_,λa=> ?_,λa b g e c e' c' h=> ?_,λa s h g d=> ?_,λa o g es cap h1 h2 k=>absurd (.inl ⟨a,es,cap,k⟩) uL,λa i g h=>absurd (.inr ⟨a,i,h⟩) (uL (L:=L) (n:=n) (Bw:=Bw) (b:=g)),H.loc λb _ h=>(Gr h).1⟩
 .cases a<;>simp[hf]at h
 .unfold m' at h;rcases h with⟨_,_,_,h⟩| ⟨_,h⟩<;>(split at h<;>cases h)
 .unfold m';cases a<;>simp[hf]
 .exact absurd (.inl ⟨a,e,c,h⟩) uL
 .have:=Gr (L:=L) (n:=n) (Bw:=Bw) (b:=g) (.inr ⟨a,s,h,d⟩);exact⟨by omega,uL⟩
theorem yB{R:AV->AV->Prop}: ∀{as B:List AV},jX R as B->as.length=B.length/\ ∀(j:Nat) (b:AV),B[j]?=U b-> ∃a,as[j]?=U a/\R a b
 | [],[],_=>⟨rfl,λj b h=>by grind⟩
 |a::as,b::B,h=>by
  obtain⟨h1,h2⟩:=yB h.2;refine⟨by grind,λj c H=> ?_⟩;cases j with
  |zero=>simp at H;subst H;exact⟨a,rfl,h.1⟩
  |succ j=>simp_all
 | [],_::_,h=>h.elim
 |_::_,[],h=>h.elim
theorem YrL{α:Type}{l:List α}{n i:Nat}(h:l.length=n)(H:i<n): ∃e,l[i]?=U e:=
 ⟨l[i],je (by omega)⟩
theorem lQ{α β:Type}{l:List α}{l':List β}(h:l.length=l'.length){i:Nat}{e':β}(H:l'[i]?=U e'): ∃e,l[i]?=U e:=
 YrL h (iP.1 H).1
theorem BX{a b:AV}(N:Coe a b): ∀{x:Value},VR fm w L x a->VR fm w L x b:=by
 induction N with
 |refl a=>exact id
 |j_ es=>intro x h;obtain⟨A,rfl⟩:=uJ h;exact .lT A es 0
 |rd es l l' k O h I=>
  intro x d;rcases wK d with⟨rfl,A,c,rfl⟩| ⟨b,o,c,vals,rfl,B,P,z,Q,D,q,E,h1,F⟩
  .grind
  .have V: ∀(i:Nat) (e':List AV) (j:Nat) (Y:AV),l'[i]?=U e'->e'[j]?=U Y-> ∃e y,l[i]?=U e/\e[j]?=U y:=by
    grind
   rw[k];exact .rd b o c es l' vals (λe=>B (mC.1 (by simp_all))) (λe' G=>by
     obtain⟨i,J,W⟩:=List.mem_iff_getElem.1 G;have K:l'[i]?=U e':=by simp_all
     obtain⟨e,R⟩:=lQ k K;grind) z (by omega) D q
    (λi e' j Y J H=>by grind)
    (λi e' j Y J H=>by grind)
    (λi e' j Y J H=>by grind)
 |rp cs C k h I=>
  intro x d;obtain⟨b,o,vals,rfl,D,q,E,h1,F⟩:=BV d;exact .rp b o C vals D q
   (λj Y H=>by grind)
   (λj Y H=>by grind)
   (λj Y H=>by grind)
 |agg cs C k h I=>
  intro x d;obtain⟨xs,rfl,M,p⟩:=wJ d;exact .agg xs C (by omega) (λj Y H=>by grind)
   (λj Y H=>by grind)
 |iZ cs C k h I=>
  intro x d;obtain⟨xs,rfl,M,p⟩:=EL d;exact .iZ xs C (by omega) (λj Y H=>by obtain⟨y,S⟩:=lQ k H;grind)
 |clo f cs C k h I=>
  intro x d;obtain⟨g,xs,rfl,T,M,p⟩:=Gm d;subst T;exact .clo g xs C (by omega) (λj Y H=>by obtain⟨y,S⟩:=lQ k H;grind)
theorem EO{a b:AV}(y:Coe a b):NR b->NR a:=by
 induction y with
 |refl a=>exact id
 |j_ es=>intro _;exact .emp
 |rd es l l' p z h I=>
  intro H;cases H with
  |rd es l' H=>
   refine .rd es l (λe A x d=> ?_);obtain⟨i,w⟩:=mE.1 A;obtain⟨j,k⟩:=mE.1 d;obtain⟨e',g⟩:=lQ p.symm w;obtain⟨X,q⟩:=lQ (z i e e' w g).symm k;exact I i e e' j x X w g k q (H e' (jc g) X (jc q))
 |rp cs C p h I=>
  intro H;cases H with
  |rp C H=>
   refine .rp cs (λx d=> ?_);obtain⟨j,k⟩:=mE.1 d;grind
 |agg cs C p h I=>
  intro H;cases H with
  |agg C H=>
   refine .agg cs (λx d=> ?_);obtain⟨j,k⟩:=mE.1 d;grind
 |iZ cs C p h I=>
  intro H;cases H with
  |iZ C H=>
   refine .iZ cs (λx d=> ?_);obtain⟨j,k⟩:=mE.1 d;grind
 |clo f cs C p h I=>
  intro H;cases H with
  |clo f C H=>
   refine .clo f cs (λx d=> ?_);obtain⟨j,k⟩:=mE.1 d;grind
def Wz(a b:AV)(i O len:Nat)(o:iu):Prop:=
 (a= .ref i O len/\b= .rd (wd o.es) ((o.el.drop O).take len))\/
 ∃(cs ds:List AV) (k:Nat),a= .agg cs/\b= .agg ds/\cs[k]?=U (.ref i O len)/\ds[k]?=U (.rd (wd o.es) ((o.el.drop O).take len))
theorem YrM{a:AV}{i O len:Nat}{o:iu}(h:Wz a a i O len o):False:=by
 rcases h with⟨h1,h2⟩| ⟨cs,ds,k,h1,h2,H,d⟩
 .simp_all
 simp_all
theorem WA{h:HF}(M:HR fm w L h){x:Value}{i O len:Nat}{o:iu}(z:h i=U (U o))(R:O+len<=o.el.length)(S:VR fm w L x (.ref i O len)){Bw:Nat->Prop}
  (T: ∀g es cap,L i= .cells g es cap->Bw g) (E:NR (.rd (wd o.es) ((o.el.drop O).take len))):VR fm w (m' L w.heap.size Bw) x (.rd (wd o.es) ((o.el.drop O).take len)):=by
 have mv: ∀b,b<w.heap.size-> ¬ma L b-> ¬ma (m' L w.heap.size Bw) b:=λb _ h1 h2=>h1 (Gr h2).1;rcases td M z S with⟨g,es,cap,F,N,P,G⟩| ⟨A,_,F,_,N,P,G⟩
 .subst N;rw[G];by_cases B:len=0
  .subst B;simp;exact .lT _ _ _
  .have C:=M.obj i o z;rw[F]at C;obtain⟨_,I,V,W,d,cur,ty,Q,X,D⟩:=C;have K:=(pV.1 Q).1;have H: ∀k e,((o.el.drop O).take len)[k]?=U e->o.el[O+k]?=U e:=by
    grind
   have Y:((o.el.drop O).take len).length=len:=by grind
   have Z: ∀k e J y,((o.el.drop O).take len)[k]?=U e->e[J]?=U y->(O+k)*(wd o.es)+J<cur.size:=by
    intro k e J y p q;have h1:=H k e p;have h2:=(iP.1 h1).1;have h3:=d e (jc h1);have h4:=(iP.1 q).1;have h5:(O+k+1)*(wd o.es)<=cap*(wd o.es):=lD _ (by omega);grind
   cases E with
   |rd a0 l' hn=>
    have:=VR.rd (fm:=fm) (w:=w) (L:=m' L w.heap.size Bw) g (O*(wd o.es)) (cap-O) (wd o.es) ((o.el.drop O).take len) (λk J=>cur.getD ((O+k)*(wd o.es)+J) undef)
     (λe=>B (by simp_all)) (λe he=>d e (List.mem_of_mem_drop (List.mem_of_mem_take he))) I (by omega)
     (λho=>(Gr ho).2.1 (T g (wd o.es) cap F)) K
     (λk e J y p q=>by
      rw[cell_of_row w g _ cur ty (0,0) Q,<-nY];simp_all)
     (λk e J y p q=>(D _ e J y (H k e p) q).1)
     (λk e J y p q=>Gq mv (D _ e J y (H k e p) q).2 (hn e (jc p) y (jc q)))
    simp_all
 .rw[G,P];simp;exact .lT _ _ _
theorem YrN{cs:List AV}(h:NR (.agg cs)): ∀x∈cs,NR x:=by cases h;trivial
def BY(L:Nat->Loc)(h:HF)(args A:List AV)(g:Nat):Prop:= ∃(j:Nat) (a b:AV) (i O len:Nat) (o:iu) (es cap:Nat),args[j]?=U a/\A[j]?=U b/\Wz a b i O len o/\h i=U (U o)/\L i=Loc.cells g es cap
theorem WB{h:HF}{args:List AV}{g:Nat}: ¬BY L h args args g:=by
 rintro⟨j,a,b,i,O,len,o,es,cap,h1,h2,H,_,_⟩;rw[h1]at h2;injection h2 with h2
 subst h2;exact YrM H
theorem N1{h:HF}(X:HR fm w L h){vs:Array Value}{args A d:List AV}(N: ∀j a,args[j]?=U a->VR fm w L (vs.getD j undef) a)(Z:jX (vQ h) args A)(P:jX Coe A d)
  (Q: ∀a∈d,NR a) {j:Nat} {K:AV} (p:d[j]?=U K):VR fm w (m' L w.heap.size (BY L h args A)) (vs.getD j undef) K:=by
 obtain⟨Y,G⟩:=yB Z;obtain⟨R,y⟩:=yB P;obtain⟨b,z,I⟩:=y j K p;obtain⟨a,B,C⟩:=G j b z;have S:=N j a B;have D:=EO I (Q K (jc p));refine BX I ?_;have mv: ∀b,b<w.heap.size-> ¬ma L b-> ¬ma (m' L w.heap.size (BY L h args A)) b:=λb _ h1 h2=>h1 (Gr h2).1;rcases C with(rfl| ⟨i,O,len,o,rfl,H,E,rfl⟩)| ⟨cs,ds,rfl,rfl,T⟩
 .exact Gq mv S D
 .exact WA X H E S (λg es cap V=>⟨j,_,_,i,O,len,o,es,cap,B,z,.inl ⟨rfl,rfl⟩,H,V⟩) D
 .obtain⟨a0,F⟩:=yB T;obtain⟨xs,e,hs,q⟩:=wJ S;rw[e];refine .agg xs ds (by omega) (λk b M=> ?_) (λk b M=> ?_)
  .grind
  .obtain⟨a,W,C⟩:=F k b M;have J:=YrN D b (jc M);rcases C with rfl| ⟨i,O,len,o,rfl,H,E,rfl⟩
   .exact Gq mv (q k a W).2 J
   .exact WA X H E (q k _ W).2 (λg es cap V=>⟨j,_,_,i,O,len,o,es,cap,B,z,.inr ⟨cs,ds,k,rfl,rfl,W,M⟩,H,V⟩) J
theorem YrO{M:Nat->Loc}{h:HF}(X:HR fm w M h)(N: ∀b,kN M b-> ¬ma L b){a b:AV}(P:yp h a b): ∀{x:Value},VR fm w M x a->VR fm w L x b:=by
 induction P with
 |s a h=>intro x q;exact Wy q h
 |agg cs ds G h I=>
  intro x q;obtain⟨xs,rfl,hs,H⟩:=wJ q;exact .agg xs ds (by omega) (λj d hd=>(H j _ (je (by have:=(iP.1 hd).1;omega))).1)
   (λj d hd=>I j _ d (je (by have:=(iP.1 hd).1;omega)) hd (H j _ (je (by have:=(iP.1 hd).1;omega))).2)
 |iZ cs ds G h I=>
  intro x q;obtain⟨xs,rfl,hs,H⟩:=EL q;exact .iZ xs ds (by omega) (λj d hd=>I j _ d (je (by have:=(iP.1 hd).1;omega)) hd (H j _ (je (by have:=(iP.1 hd).1;omega))))
 |ref a O len o l Y a0 G P h I=>
  intro x q;rcases td X Y q with⟨g,es,cap,Q,Z,e2,S⟩| ⟨A,_,Q,_,Z,e2,S⟩
  .subst Z;rw[S];by_cases D:len=0
   .have:l=[]:=mC.1 (by omega);subst this D;exact .lT _ _ _
   .have E:=X.obj a o Y;rw[Q]at E;obtain⟨_,T,a1,a2,H,cur,ty,hg,a3,F⟩:=E;have V:=(pV.1 hg).1;have R: ∀{i:Nat} {e':List AV},l[i]?=U e'-> ∃e,o.el[O+i]?=U e/\e.length=wd o.es/\e'.length=wd o.es:=λ{i e'} B=>by
     have h1:=(iP.1 B).1;have h2:o.el[O+i]?=U (o.el[O+i]'(by omega)):=je (by omega);have z:=H _ (jc h2);exact⟨_,h2,z,(P i _ _ h2 B).symm.trans z⟩
    have K: ∀{i:Nat} {e':List AV} {j:Nat} {y:AV},l[i]?=U e'->e'[j]?=U y-> ∃e x,o.el[O+i]?=U e/\e[j]?=U x/\ (O+i)*(wd o.es)+j<cur.size:=λ{i e' j y} B p=>by
     obtain⟨e,h1,h2,z⟩:=R B;have h4:=(iP.1 p).1;have h5:(O+i+1)*(wd o.es)<=cap*(wd o.es):=lD _ (by have:=(iP.1 h1).1;omega);rw[nY]at h5;exact⟨e,e[j]'(by omega),h1,je (by omega),by omega⟩
    have:=VR.rd (fm:=fm) (w:=w) (L:=L) g (O*(wd o.es)) (cap-O) (wd o.es) l (λk J=>cur.getD ((O+k)*(wd o.es)+J) undef)
     (λe=>D (by rw[G,e];rfl)) (λe' W=>by obtain⟨i,B⟩:=mE.1 W;exact(R B).choose_spec.2.2) T (by omega)
     (N g (.inl ⟨a,_,_,Q⟩)) V
     (λk e' J y C p=>by
      obtain⟨e,x,h1,h2,z⟩:=K C p;rw[cell_of_row w g _ cur ty (0,0) hg,<-nY];exact BT z)
     (λk e' J y C p=>by
      obtain⟨e,x,h1,h2,z⟩:=K C p;exact(F _ e J x h1 h2).1)
     (λk e' J y C p=>by
      obtain⟨e,x,h1,h2,z⟩:=K C p;exact I k e e' J x y h1 C h2 p (F _ e J x h1 h2).2)
    rw[<-G]at this;exact this
  .have:l=[]:=mC.1 (by omega);subst this;rw[S];exact .lT _ _ _
theorem N2{C:Ctx}(Q:jq P fm C){f:FuncId}(J:C.pf (fm f)=zZ){h:HF}(B:HR fm w L h){vs:Array Value}{args A d:List AV}{r:AV}(a1:vs.size=args.length)
  (K: ∀j a,args[j]?=U a->VR fm w L (vs.getD j undef) a) (g:jX (vQ h) args A) (p:A=args\/mY r\/yq C (fm f) d r) (F:jX Coe A d) (hc:C.C (fm f) d [] r []):
  kB P f=zZ/\Calls P f vs w λe w'=> ∃v,e= .returned v/\iv L w w'/\HR fm w' L h/\VR fm w' L v r:=by
 have a0:=(yB g).1;have S:=(yB F).1;have M:=Q.any _ _ _ J hc;obtain⟨N,T⟩:=Q.nr _ _ _ _ J M;have D: ∀b,ma L b->b<w.heap.size:=λb H=>by
  rcases H with(⟨a,e,c,h1⟩| ⟨a,i,h1⟩)| ⟨a,s,h1,h2⟩
  .exact B.lF h1
  .exact B.Af h1
  .exact(B.hid a s h1 b h2).1
 by_cases E:yq C (fm f) d r
 .obtain⟨r0,H1,V,W⟩:=E;obtain⟨q,G⟩:=Q.ok f _ _ _ _ V;refine⟨q,(G w (m' L w.heap.size (BY L h args A)) vs (N0 _ rfl _ B.tab) (by omega) (λj b' y=>N1 B K g F N y)).mono ?_⟩;rintro e w' ⟨v,L',rfl,k,X,O,R⟩;have z:iv L w w':=⟨k.os,k.tape,k.output,k.size,λb g _=>k.lF b g uL,k.tY⟩;exact⟨v,rfl,z,B.mono z (λb g _=>k.lF b g uL),YrO O (λb ho H=>by have h1:=(X.r_ b ho).resolve_left uL;have h2:=D b H;omega) W R⟩
 replace p:A=args\/mY r:=p.imp id λh=>h.resolve_right E;obtain⟨q,G⟩:=Q.ok f _ _ _ _ M;refine⟨q,(G w (m' L w.heap.size (BY L h args A)) vs (N0 _ rfl _ B.tab) (by omega) (λj b' y=>N1 B K g F N y)).mono ?_⟩
 .rintro e w' ⟨v,L',rfl,k,X,O,R⟩;have z:iv L w w':=⟨k.os,k.tape,k.output,k.size,λb g _=>k.lF b g uL,k.tY⟩;refine⟨v,rfl,z,B.mono z (λb g _=>k.lF b g uL),?_⟩;rcases p with I|p
  ·
   refine Gq (λb g Y H=>Y ?_) R T;have D:=D b H;have Z: ¬BY L h args A b:=by rw[I];exact WB
   rcases X.old 0 (by rw[EN];exact λh=>by cases h)with h1| ⟨_,h1⟩
   .exact .inr ⟨0,_,h1.trans EN,D,H,Z⟩
   .exact absurd EN (h1 _)
  .exact Wy R p
theorem WC{os:Nat}{h:HF}{nid:Nat}(q:HR fm w L h)(W:h nid=zz){w':World}(B:iv L w w')(X: ∀b,b<w.heap.size->w'.heap[b]?=w.heap[b]?){g:Nat}(Y:w.heap.size<=g){cur:Array Value}{ty:TypeId}{es cap:Nat}{el:List (List AV)}
  (Z:w'.heap[g]?=U (.cells cur ty (0,0)))
  (G:0<es) (I:el.length<=cap) (J:cap<=maxLen) (K: ∀e∈el,e.length=es) (M:cur.size=cap*es)
  (N: ∀i e j x,el[i]?=U e->e[j]?=U x->(cur.getD (i*es+j) undef).oneCell'=zZ/\VR fm w' (λa=>if a=nid then .cells g es cap else L a) (cur.getD (i*es+j) undef) x) (O:es=wd os) (a0:0<os):
  hY L (λa=>if a=nid then .cells g es cap else L a) w.heap.size/\
   HR fm w' (λa=>if a=nid then .cells g es cap else L a) (iD h nid (.push (U ⟨os,el⟩))):=by
 have a1:L nid= .fresh:=(q.fresh nid).2 W;have p: ∀b,kN (λa=>if a=nid then .cells g es cap else L a) b->kN L b\/w.heap.size<=b:=λb y=>by
  rcases y with⟨a,e,c,H⟩| ⟨a,i,H⟩
  .dsimp only at H;by_cases e:a=nid
   .simp_all
   .simp[e]at H;exact .inl (.inl ⟨a,_,_,H⟩)
  .dsimp only at H;by_cases e:a=nid
   .simp_all
   .simp[e]at H;exact .inl (.inr ⟨a,i,H⟩)
 have z:hY L (λa=>if a=nid then .cells g es cap else L a) w.heap.size:=by
  refine⟨λa d=> ?_,λb y=> ?_,p⟩
  .grind
  .rcases y with y| ⟨a,d⟩
   .exact(p b y).imp .inl id
   .by_cases e:a=nid
    .simp_all
    .simp[e]at d;exact .inl (.inr ⟨a,d⟩)
 refine⟨z,?_⟩;have a2: ∀a g e c,L a= .cells g e c->g<w.heap.size:=λa g e c H=>q.lF H;refine⟨λa o A=> ?_,λa d=> ?_,λa=> ?_,λa b g e c e' c' d y=> ?_,λa s d g P=>by
  by_cases e:a=nid
  .simp_all
  .simp[e]at d;exact⟨mS (q.hid a s d g P).1 B.size,λhc=>(p g hc).elim (q.hid a s d g P).2 (λh=>by have:=(q.hid a s d g P).1;omega)⟩,λa o g E C h1 h2 F=> ?_,λa i g d=>by
  by_cases e:a=nid
  .simp_all
  .simp only[e,if_false]at d;obtain⟨⟨o,Q⟩,k⟩:=q.qU a i g d;refine⟨⟨o,by simp[iD,e,Q]⟩,λb j y=> ?_⟩;grind,q.tab.mono B z.own⟩
 .by_cases e:a=nid
  .subst e;simp[iD]at A;subst A;simp only[if_true];exact⟨O,G,I,J,K,cur,ty,Z,M,N⟩
  .simp[iD,e]at A;have D:=q.obj a o A;simp only[e,if_false];revert D;cases hL:L a with
   |fresh=>exact id
   |dead=>exact id
   |nil=>exact id
   |hid g=>exact id
   |cells g' E C=>
    rintro⟨h0,h1,h2,F,h4,cur',T,h5,h6,R⟩;refine⟨h0,h1,h2,F,h4,cur',T,?_,h6,λi e' j x S V=>⟨(R i e' j x S V).1,(R i e' j x S V).2.mono B z⟩⟩;grind
   |mp i g'=>
    intro hm;exact xL hm B z (λob h1=>by grind)
 .by_cases e:a=nid
  .subst e;exact⟨⟨os,el⟩,by simp[iD]⟩
  .simp only[e,if_false]at d;obtain⟨o,Q⟩:=q.live a d;exact⟨o,by simp[iD,e,Q]⟩
 .by_cases e:a=nid
  .subst e;simp[iD]
  .simp only[e,if_false,iD];exact q.fresh a
 .by_cases e1:a=nid<;>by_cases e2:b=nid
  .omega
  .grind
  .grind
  .simp only[e1,if_false]at d;simp only[e2,if_false]at y;exact q.inj a b _ _ _ _ _ d y
 .by_cases e:a=nid
  .subst e;simp[iD]at h1;grind
  .simp[iD,e]at h1;simp only[e,if_false]at F;exact B.tY _ _ (q.qw a o _ E C h1 h2 F)
theorem YrP{C:Ctx}(hC:jq P fm C){f:FuncId}{h:HF}(z:HR fm w L h){vs:Array Value}{args d k:List AV}{o:iu}{len nid:Nat}(hn:h nid=zz)(T:vs.size=args.length)
  (V: ∀j a,args[j]?=U a->VR fm w L (vs.getD j undef) a) (q:jX (vQ h) args d) (W:d=args\/EE o) (I:jX Coe d k) (hm:Ge C (fm f) k o len):
  kB P f=zZ/\Calls P f vs w λe w'=> ∃v X,e= .returned v/\iv L w w'/\hY L X w.heap.size/\HR fm w' X (iB h nid [.push (U o)])/\VR fm w' X v (.ref nid 0 len):=by
 obtain⟨Y,Z,a0,hc⟩:=hm;have J:=(yB q).1;have B:=(yB I).1;obtain⟨K,a1⟩:=hC.ok f _ _ _ _ (hc 1);refine⟨K,(a1 w (m' L w.heap.size (BY L h args d)) vs (N0 _ rfl _ z.tab) (by rw[T,J,B]) (λj b' M=>N1 z V q I Z M)).mono ?_⟩
 .rintro e w' ⟨v,L1,rfl,D,hs,E,hv⟩;have y:iv L w w':=⟨D.os,D.tape,D.output,D.size,λb q _=>D.lF b q uL,D.tY⟩;have N: ∀b,b<w.heap.size->w'.heap[b]?=w.heap[b]?:=λb q=>D.lF b q uL;have F:hf (List.replicate 1 zz++[U o]) 1=U (U o):=by
   simp[hf]
  rcases td E F hv with⟨g,es,cap,O,e1,e2,ex⟩| ⟨A,b,O,hA,e1,e2,ex⟩
  .have p:=E.obj _ o F;rw[O]at p;obtain⟨_,a2,a3,a4,Q,cur,ty,hg,a5,G⟩:=p;have a6:w.heap.size<=g:=(hs.r_ g (.inl ⟨_,_,_,O⟩)).resolve_left uL;have a7:d=args-> ∀b,b<w'.heap.size-> ¬ma L1 b-> ¬ma (λa=>if a=nid then .cells g es cap else L a) b:=by
    intro H b _ h1 h2;have old: ∀{b},b<w.heap.size->ma L b->ma L1 b:=λ{b} q ho=>by
     rcases hs.old 0 (by rw[EN];exact λh=>by cases h)with h1| ⟨_,h1⟩
     .exact .inr ⟨0,_,h1.trans EN,q,ho,by rw[H];exact WB⟩
     .exact absurd EN (h1 _)
    rcases h2 with(⟨a,e,c,h2⟩| ⟨a,i,h2⟩)| ⟨a,s,h2,h3⟩
    .by_cases ea:a=nid
     .simp only[ea,if_true]at h2;injection h2 with h2;subst h2;exact h1 (.inl (.inl ⟨_,_,_,O⟩))
     .simp only[ea,if_false]at h2;exact h1 (old (z.lF h2) (.inl (.inl ⟨a,e,c,h2⟩)))
    .by_cases ea:a=nid
     .simp only[ea,if_true]at h2;cases h2
     .simp only[ea,if_false]at h2;exact h1 (old (z.Af h2) (.inl (.inr ⟨a,i,h2⟩)))
    .by_cases ea:a=nid
     .simp only[ea,if_true]at h2;cases h2
     .simp only[ea,if_false]at h2;exact h1 (old (z.hid a s h2 b h3).1 (.inr ⟨a,s,h2,h3⟩))
   obtain⟨k1,k2⟩:=WC (os:=o.es) (el:=o.el) z hn y N a6 hg a2 a3 a4 Q a5
    (λi e j x R S=>⟨(G i e j x R S).1,by
     rcases W with H|hp
     .exact Gq (a7 H) (G i e j x R S).2 (a0 e (jc R) x (jc S))
     .obtain⟨v,rfl⟩:=hp e (jc R) x (jc S);rw[kI (G i e j _ R S).2];exact .v v⟩) e1 Y
   refine⟨v,_,rfl,y,k1,k2,?_⟩;rw[ex];exact .jH g es cap nid 0 len (by simp) e2
  .have p:=E.obj _ o F;rw[O]at p;subst e2;obtain⟨k1,k2⟩:=BU (z.mono y (λb q _=>N b q)) hn (es:=o.es) w.heap.size b (λh=>by omega);refine⟨v,_,rfl,y,k1,?_,?_⟩
   .have a8:o.el=[]:=p.1;have:o=⟨o.es,[]⟩:=by cases o;subst a8;rfl
    rw[this];exact k2
   .rw[ex];exact .jo A nid b (by simp) hA
end
end Go.Abs
namespace Go.Abs
open Go Go.RowKit
def oF(h:HF)(us:List jy):Prop:=
 us=[]\/(∃o,us=[.push o])\/(∃a o,us=[.set a o]/\h a≠zz)\/(∃a o p,us=[.set a o,.push p]/\h a≠zz)
theorem WD(h:HF):oF h []=True:=by simp[oF]
theorem Kh(h:HF)(o:Option iu):oF h [.push o]=True:=by simp[oF]
theorem WE(h:HF)(a:Nat)(o:Option iu)(H:h a≠zz):oF h [.set a o]:=.inr (.inr (.inl ⟨a,o,rfl,H⟩))
theorem WG(h:HF)(a:Nat)(o p:Option iu)(H:h a≠zz):oF h [.set a o,.push p]:=.inr (.inr (.inr ⟨a,o,p,rfl,H⟩))
theorem WH{es:Nat}{s:AV}{l:List (List AV)}{h:HF}{nid:Nat}{K:AV->List jy->Prop}(H:mu es s l h nid K):mu es s l h nid (λv us=>K v us/\oF h us):=by
 cases s<;>try exact H
 case emp=>simpa[EB,Kh]using H
 case ref a O len=>
  obtain⟨o,d,h1,h2,g,k,p,q⟩:=H;exact⟨o,d,h1,h2,g,k,p,q,WG _ _ _ _ (by simp_all)⟩
theorem YrQ{O:pa}{xs:List AV}{h:HF}{nid:Nat}{v:AV}{us:List jy}(H:xF O xs h nid=U (v,us)):oF h us:=by
 have app: ∀{os es s l o d},pc os es s l h nid=U (o,d)-> ∀p,oF h (d++[.push p]):=by
  intro os es s l o d g p;unfold pc at g;obtain⟨_,h1⟩:=ix g;split at h1
  .obtain⟨_,h2⟩:=ix h1;injection h2 with h2;injection h2 with _ h2;subst h2
   rw[qt,Kh];trivial
  .split at h1
   .rename_i o' k;obtain⟨_,h2⟩:=ix h1;injection h2 with h2;injection h2 with _ h2;subst h2
    exact WG _ _ _ _ (by simp_all)
   trivial
  trivial
 unfold xF at H;split at H
 all_goals(repeat' (first| (cases H;done)| (replace H:=(ix H).2)|split at H))
 all_goals
  injection H with H
  injection H with _ H
  subst H
  first
   | (rw[WD];trivial)
   | (rw[Kh];trivial)
   |exact app (by assumption) _
   |exact WE _ _ _ (λq=>by simp_all)
theorem WI{p:jA}{env:Env}{h:HF}{nid:Nat}{K:AV->List jy->Prop}(H:kA p env h nid K):kA p env h nid (λv us=>K v us/\oF h us):=by
 cases p
 case store n x y=>
  simp only[kA,jh]at H⊢;split at H<;>try trivial
  rename_i a i j e;obtain⟨o,g,e,k,cs,d,h1,h2,q⟩:=H;exact⟨o,g,e,k,cs,d,h1,h2,q,WE _ _ _ (by simp_all)⟩
 case app es s x=>
  simp only[kA,jh]at H⊢;split at H<;>try trivial
  .exact⟨H.1,WH H.2⟩
  .exact WH H
 case px p xs=>obtain⟨v,us,h1,h2⟩:=H;exact⟨v,us,h1,h2,YrQ h1⟩
 all_goals(simp only[kA,WD,Kh,and_true]at H⊢ <;>exact H)
theorem Gs{H:ic}{a:Nat}{o:Option iu}(h:hf H a≠zz)(nid:Nat):iD (hf H) nid (.set a o)=hf (H.set a o):=by
 funext b;have d:a<H.length:=by
  apply Classical.byContradiction;intro g;exact h (qb (by omega))
 simp only[iD,hf,List.getElem?_set];grind
theorem lH{H:ic}{o:Option iu}:iD (hf H) H.length (.push o)=hf (H++[o]):=by
 funext b;simp only[iD,hf];grind
theorem WJ{H:ic}{us:List jy}(h:oF (hf H) us):iB (hf H) H.length us=hf (rI H us):=by
 rcases h with rfl| ⟨o,rfl⟩| ⟨a,o,rfl,d⟩| ⟨a,o,p,rfl,d⟩
 .rfl
 .exact lH
 .simp only[iB,rI,Ez];exact Gs d _
 .simp only[iB,rI,Ez];rw[Gs d];have:=lH (H:=H.set a o) (o:=p);simp_all
section
variable{P:Program}{fm:FM}{w:World}{L:Nat->Loc}
theorem Gt{o:Oper}{a:Act}{next:Act->World->Prop}{Q:Exit->Act->World->Prop}{x:Value}{w':World}(h:Gl P o a w x w')(H:next (a.put o.dst x) w'):
  o.wp P a w next Q:=by
 unfold Oper.wp;rcases h with h| ⟨h,rfl⟩
 .rw[h];exact H
 .rw[h];exact H
theorem Gu{f:FuncId}(h:kB P f=zZ)(args:Array Value)(w:World):(callFunc f args).run P w= .ok (.enter f args) w:=by
 unfold kB at h;cases H:P.funcs[f]? with
 |none=>simp_all
 |some F=>
  simp[H]at h;obtain⟨h1,h2⟩:=h;obtain⟨c,d⟩:=pU.1 h1;simp[callFunc,H,h2,d]
def WK(fm:FM)(w:World)(L:Nat->Loc)(a:Act)(d:Option Tmp)(K:AV->ic->Prop):Act->World->Prop:=
 λA w'=> ∃x v H' g,A=a.put d x/\K v H'/\iv L w w'/\hY L g w.heap.size/\HR fm w' g (hf H')/\VR fm w' g x v
theorem Gv{a:Act}{env:Env}(H:ER fm w L a env)(xs:List Operand): ∀j c,((xs.map (jK fm)).map (iC env))[j]?=U c->VR fm w L ((xs.map a.eval).toArray.getD j undef) c:=by
 intro j c h;cases d:xs[j]? with
 |none=>simp_all
 |some y=>
  simp[d]at h;subst h;have:(xs.map a.eval).toArray.getD j undef=a.eval y:=by
   simp_all
  rw[this];exact ky H y
theorem BZ{e e':List AV}(H:e.length=e'.length){j:Nat}{X:AV}(h:e'[j]?=U X): ∃x,e[j]?=U x:=by
 have:=(iP.1 h).1;exact⟨e[j],je (by omega)⟩
theorem B0{x:Value}{c c':AV}(h:VR fm w L x c)(k:JY c c'):VR fm w L x c':=by
 rcases k with rfl|rfl
 .exact h
 .exact .u x
theorem B1{x:Value}{c c':AV}(h:VR fm w L x c)(k:Gc c c'):VR fm w L x c':=by
 rcases k with k| ⟨es,l,l',rfl,rfl,y,F⟩
 .exact B0 h k
 .have R: ∀{i:Nat} {e':List AV},l'[i]?=U e'-> ∃e,l[i]?=U e/\VC e e':=λ{i e'} p=>by
   have G:=(iP.1 p).1;exact⟨l[i],je (by omega),F i _ _ (je (by omega)) p⟩
  cases h with
  |lT A es c=>
   have:l'=[]:=mC.1 y.symm;subst this;exact .lT A es c
  |rd b o c es l vals z B d I J C K h1 D=>
   rw[y];refine .rd b o c es l' vals (λe=>z (mC.1 (by rw[y,e];rfl))) (λe' E=> ?_) d (by omega) J C (λi e' j X h2 H=> ?_) (λi e' j X h2 H=> ?_) (λi e' j X h2 H=> ?_)
   .obtain⟨i,p⟩:=mE.1 E;obtain⟨e,h2,H⟩:=R p;rw[<-H.1];exact B e (jc h2)
   .obtain⟨e,g,q⟩:=R h2;obtain⟨x,Q⟩:=BZ q.1 H;exact K i e j x g Q
   .obtain⟨e,g,q⟩:=R h2;obtain⟨x,Q⟩:=BZ q.1 H;exact h1 i e j x g Q
   .obtain⟨e,g,q⟩:=R h2;obtain⟨x,Q⟩:=BZ q.1 H;exact B0 (D i e j x g Q) (q.2 j x X Q H)
theorem wL{a:AV}{r e':List AV}(h:(a::r).length=e'.length): ∃A R,e'=A::R/\r.length=R.length:=by
 cases e' with
 |nil=>simp at h
 |cons A R=>exact⟨A,R,rfl,by simpa using h⟩
theorem N3{e':List AV}(h:([]:List AV).length=e'.length):e'=[]:=(mC.1 h.symm)
theorem YrR{A:Loc}{o o':iu}(h:pW fm w L A o)(k:NB o o'):pW fm w L A o':=by
 obtain⟨K,kl,kr⟩:=k;have B: ∀{i:Nat} {e':List AV},o'.el[i]?=U e'-> ∃e,o.el[i]?=U e/\e.length=e'.length/\ ∀(j:Nat) (x X:AV),e[j]?=U x->e'[j]?=U X->Gc x X:=λ{i e'} p=>by
  have J:=(iP.1 p).1;exact⟨o.el[i],je (by omega),kr i _ _ (je (by omega)) p⟩
 have O: ∀{e:List AV},o.el=[e]-> ∃e',o'.el=[e']/\e.length=e'.length/\ ∀(j:Nat) (x X:AV),e[j]?=U x->e'[j]?=U X->Gc x X:=λ{e} he=>by
  rw[he]at kl;obtain⟨e',h1⟩:=List.length_eq_one_iff.1 kl.symm;obtain⟨e2,h2,G⟩:=B (i:=0) (e':=e') (by rw[h1];rfl);rw[he]at h2;injection h2 with h2;subst h2
  exact⟨e',h1,G⟩
 cases A with
 |nil b=>
  obtain⟨h1,h2⟩:=h;exact⟨mC.1 (by rw[<-kl,h1];rfl),λh=>h2 (by rw[<-K];exact h)⟩
 |cells g es cap=>
  obtain⟨h1,h2,G,M,N,cur,ty,P,y,H⟩:=h;refine⟨by rw[K];exact h1,h2,by omega,M,λe' a3=> ?_,cur,ty,P,y,λi e' j X C Q=> ?_⟩
  .obtain⟨i,p⟩:=mE.1 a3;obtain⟨e,C,Q,_⟩:=B p;rw[<-Q];exact N e (jc C)
  .obtain⟨e,q,q4,q5⟩:=B C;obtain⟨x,q6⟩:=BZ q4 Q;have:=H i e j x q q6;exact⟨this.1,B1 this.2 (q5 j x X q6 Q)⟩
 |mp i g=>
  cases i with
  |false=>
   obtain⟨h1,es,D,c0,R,a9,h2,G,M,N,P,y⟩:=h;obtain⟨e',C,Q,q⟩:=O G;obtain⟨V,r1,rfl,p2⟩:=wL Q;obtain⟨R',T,rfl,p3⟩:=wL p2;refine⟨by rw[K];exact h1,es,D,V,R',T,h2,C,B1 M (q 0 c0 V rfl rfl),λt' a4=> ?_,P,?_⟩
   .obtain⟨j,hj⟩:=mE.1 a4;obtain⟨t,ht⟩:=BZ p3 hj;exact B1 (N t (jc ht)) (q (j+2) t t' ht hj)
   .rcases q 1 R R' rfl rfl with(rfl|rfl)| ⟨wd,l,l',rfl,rfl,hl,E⟩
    .rw[K];exact y
    .exact .inl rfl
    .rcases y with y| ⟨a5,el,y,H⟩
     .cases y
     .cases y;refine .inr ⟨_,l',rfl,⟨by rw[H.len,hl],λi e' p=> ?_⟩⟩;have J:=(iP.1 p).1;obtain⟨m,b,kk,r,g1,g2,g3,g4,g5⟩:=H.row i l[i] (je (by omega));have W:=E i l[i] e' (je (by omega)) p;rw[g2]at W;obtain⟨f1,I⟩:=W;obtain⟨Y,r1,rfl,f3⟩:=wL f1;obtain⟨k',r',rfl,f4⟩:=wL f3;refine⟨m,Y,k',r',g1,rfl,B0 g3 (I 0 b Y rfl rfl),B0 g4 (I 1 kk k' rfl rfl),?_⟩;rw[K];rcases g5 with⟨a6,a,rfl,g6,g7⟩| ⟨a7,xs,g6,g7⟩
      .obtain⟨Z,r2,rfl,f5⟩:=wL f4;have:=N3 f5;subst this;exact .inl ⟨a6,Z,rfl,g6,B0 g7 (I 2 a Z rfl rfl)⟩
      .refine .inr ⟨a7,xs,g6,?_⟩;cases g7 with
       |agg xs cs hs n1 n2=>
        refine .agg xs r' (by omega) (λj Z z=> ?_) (λj Z z=> ?_)
        .obtain⟨a,ha⟩:=BZ f4 z;exact n1 j a ha
        .obtain⟨a,ha⟩:=BZ f4 z;exact B0 (n2 j a ha) (I (j+2) a Z ha z)
  |true=>
   obtain⟨h1,a0,s,t,S,aa,g',F,a1,d,h2,G,M,N,P,y,H⟩:=h;obtain⟨e',C,Q,q⟩:=O G;obtain⟨a8,r1,rfl,p2⟩:=wL Q;obtain⟨s',r2,rfl,p3⟩:=wL p2;obtain⟨t',r3,rfl,p4⟩:=wL p3;obtain⟨S',r4,rfl,p5⟩:=wL p4;obtain⟨a2,r5,rfl,p6⟩:=wL p5;have:=N3 p6;subst this;refine⟨by rw[K];exact h1,a8,s',t',S',a2,g',F,a1,d,h2,C,B1 M (q 0 _ _ rfl rfl),B1 N (q 1 _ _ rfl rfl),B1 P (q 2 _ _ rfl rfl),B1 y (q 4 _ _ rfl rfl),?_⟩;rcases q 3 S S' rfl rfl with(rfl|rfl)| ⟨wd,l,l',rfl,rfl,hl,E⟩
   .exact H
   .exact .inl rfl
   .rcases H with H| ⟨a5,bl,H,h9⟩
    .cases H
    .cases H;refine .inr ⟨_,l',rfl,by rw[h9.1,hl],λi e' p=> ?_⟩;have J:=(iP.1 p).1;obtain⟨n,b,g1,g2,g3⟩:=h9.2 i l[i] (je (by omega));have W:=E i l[i] e' (je (by omega)) p;rw[g2]at W;obtain⟨f1,I⟩:=W;obtain⟨Y,r1,rfl,f3⟩:=wL f1;have:=N3 f3;subst this;exact⟨n,Y,g1,rfl,B0 g3 (I 0 b Y rfl rfl)⟩
 |_=>cases h
theorem YrS{H q:ic}(p:HR fm w L (hf H))(k:NC H q):HR fm w L (hf q):=by
 have D: ∀a,hf q a=zz↔hf H a=none:=λa=>by
  show q[a]?=zz↔H[a]?=zz;simp only[List.getElem?_eq_none_iff,k.1]
 have z: ∀a o,hf H a=U (U o)-> ∃O,hf q a=U (U O):=λa o d=>by
  rcases k.2 a with e| ⟨A,O,B,E,_⟩
  .exact⟨o,e.trans d⟩
  .exact⟨O,E⟩
 have C: ∀a O,hf q a=U (U O)-> ∃o,hf H a=U (U o)/\ (O=o\/NB o O):=λa O d=>by
  rcases k.2 a with e| ⟨A,G,B,E,F⟩
  .exact⟨O,e.symm.trans d,.inl rfl⟩
  .have:=E.symm.trans d;injection this with this;injection this with this;subst this
   exact⟨A,B,.inr F⟩
 refine⟨λa O d=> ?_,λa h=> ?_,λa=>(p.fresh a).trans (D a).symm,p.inj,p.hid,λa O g es cap d h0 y=> ?_,λa i g y=> ?_,p.tab⟩
 .obtain⟨o,h1,h2⟩:=C a O d;have:=p.obj a o h1;rcases h2 with rfl|h2
  .exact this
  .exact YrR this h2
 .obtain⟨o,d⟩:=p.live a h;exact z a o d
 .obtain⟨o,h1,h2⟩:=C a O d;refine p.qw a o g es cap h1 ?_ y;rcases h2 with rfl|h2
  .exact h0
  .rw[<-h2.1];exact h0
 .obtain⟨⟨o,d⟩,h2⟩:=p.qU a i g y;exact⟨z a o d,h2⟩
theorem WL{C:Ctx}(I:jq P fm C){f:FuncId}{H:ic}(J:HR fm w L (hf H)){vs:Array Value}{args:List AV}(z:vs.size=args.length)
  (d: ∀j a,args[j]?=U a->VR fm w L (vs.getD j undef) a) {K:AV->ic->Prop} (k:Ai C (fm f) args H K):
  kB P f=zZ/\Calls P f vs w λe w'=> ∃v r H' p,e= .returned v/\K r H'/\iv L w w'/\hY L p w.heap.size/\HR fm w' p (hf H')/\VR fm w' p v r:=by
 rcases k with⟨q,y,A,r,B,D,h,E,M⟩| ⟨_,A,O,r,H',h,F,E,_,M⟩
 .obtain⟨h1,h2⟩:=N2 I q J z d B D h E;refine⟨h1,h2.mono ?_⟩;rintro e w' ⟨v,rfl,Q,R,S⟩;exact⟨v,r,H,L,rfl,M,Q,hY.refl _ _,R,S⟩
 .obtain⟨N,g⟩:=yB h;obtain⟨h1,h2⟩:=I.ok f A O r H' E;refine⟨h1,(h2 w L vs (YrS J F) (by omega) (λj b B=> ?_)).mono ?_⟩
  .obtain⟨a,T,G⟩:=g j b B;exact BX G (d j a T)
  grind
theorem Gw{o:Oper}{a:Act}{next:Act->World->Prop}{Q:Exit->Act->World->Prop}{f:FuncId}{vs:Array Value}(h:(execOp a.eval o).run P w= .ok (.enter f vs) w)
  (H:Calls P f vs w λe w'=> ∃v,e= .returned v/\next (a.put o.dst v) w'):o.wp P a w next Q:=by
 unfold Oper.wp;rw[h];refine H.mono ?_;simp_all
theorem N4{o:Oper}{g:Nat}{args:List iY}(h:lU P fm o=U (.call g args)):
  ∃f xs A,o.op= .call ⟨.value (.func f),xs,A⟩/\kB P f=zZ/\fm f=g/\xs.toList.map (jK fm)=args:=by
 obtain⟨E,p,ty,F,k,G⟩:=o;cases p<;>simp only[lU]at h
 case call c=>
  obtain⟨C,xs,A⟩:=c;cases C with
  |invoke r m=>cases h
  |builtin b=>
   cases b<;>simp only at h<;>try(cases h;done)
   all_goals(repeat' (split at h))
   all_goals(first| (cases h;done)| (simp only[xO,lS]at h;obtain⟨z,_,h⟩:=h;(repeat' (split at h))<;>first| (cases h;done)|simp at h)|simp at h)
  |value f=>
   cases f with
   |func f=>
    simp only at h;split at h
    .injection h with h
     injection h with e1 e2
     exact⟨f,xs,A,rfl,by assumption,e1,e2⟩
    .repeat' (split at h)
     all_goals(simp at h)
   |tmp t=>injection h with h;cases h
   |_=>cases h
 case binOp B t a b q=>
  cases B<;>simp only at h
  case eql=>
   cases H:P.underlying t with
   |none=>simp[H]at h
   |some d=>
    cases d<;>simp only[H]at h
    all_goals(repeat' (split at h))
    all_goals(first|contradiction|simp at h)
  case neq=>
   cases H:P.underlying t with
   |none=>simp[H]at h
   |some d=>
    cases d<;>simp only[H]at h
    all_goals(repeat' (split at h))
    all_goals(first|contradiction|simp at h)
  all_goals(simp at h)
 case convert s d a=>
  cases w:P.underlying s with
  |none=>simp[w]at h
  |some ds=>
   cases hd:P.underlying d with
   |none=>cases ds<;>simp[w,hd]at h
   |some dd=>
    cases ds<;>cases dd<;>simp[w,hd]at h
    all_goals(repeat' (split at h))
    all_goals(simp at h)
 case alloc e=>
  cases y:nG P e<;>simp only[y,pK,Aq,l_,Option.map_none]at h<;>(repeat' (split at h))<;>simp at h
 case buildSlice t len D=>
  cases H:P.underlying t with
  |none=>simp[H]at h
  |some d=>
   cases d<;>simp only[H]at h<;>try(cases h;done)
   rename_i e;cases y:nG P e<;>simp only[y,pK,Aq]at h<;>(repeat' (split at h))<;>simp at h
 all_goals(repeat' (split at h))
 all_goals(first|contradiction| (simp[xO]at h;done)| (obtain⟨_,h⟩:=ix h;simp at h))
theorem WM{o:Oper}{x:iY}{args:List iY}(h:lU P fm o=U (.dyn x args)):
  ∃t xs A,o.op= .call ⟨.value (.tmp t),xs,A⟩/\x= .t t/\xs.toList.map (jK fm)=args:=by
 obtain⟨D,p,ty,y,g,G⟩:=o;cases p<;>simp only[lU]at h
 case call c=>
  obtain⟨C,xs,A⟩:=c;cases C with
  |invoke r m=>cases h
  |builtin b=>
   cases b<;>simp only at h<;>try trivial
   all_goals(repeat' (split at h))
   all_goals(first| (cases h;done)| (simp only[xO,lS]at h;obtain⟨z,_,h⟩:=h;(repeat' (split at h))<;>first| (cases h;done)|simp at h)|simp at h)
  |value f=>
   cases f with
   |func f=>
    grind
   |tmp t=>
    grind
   |_=>cases h
 case binOp B t a b q=>
  cases B<;>simp only at h
  case eql=>
   cases H:P.underlying t with
   |none=>simp_all
   |some d=>
    cases d<;>simp only[H]at h
    all_goals(repeat' (split at h))
    all_goals(first|contradiction|simp at h)
  case neq=>
   cases H:P.underlying t with
   |none=>simp_all
   |some d=>
    cases d<;>simp only[H]at h
    all_goals(repeat' (split at h))
    all_goals(first|contradiction|simp at h)
  all_goals simp_all
 case convert s d a=>
  grind
 case alloc e=>
  cases k:nG P e<;>simp only[k,pK,Aq,l_,Option.map_none]at h<;>(grind)<;>simp at h
 case buildSlice t len w=>
  cases H:P.underlying t with
  |none=>simp_all
  |some d=>
   cases d<;>simp only[H]at h<;>try trivial
   rename_i e;cases k:nG P e<;>simp only[k,pK,Aq]at h<;>(grind)<;>simp at h
 all_goals(repeat' (split at h))
 all_goals(first|contradiction| (simp[xO]at h;done)| (obtain⟨_,h⟩:=ix h;simp at h))
theorem WN{o:Oper}{x:iY}{args:List iY}(h:lU P fm o=U (.dynP x args)):False:=by
 obtain⟨D,p,ty,w,A,g⟩:=o;cases p<;>simp only[lU]at h
 case binOp B t a b q=>
  cases B<;>simp only at h
  case eql=>
   cases H:P.underlying t with
   |none=>simp_all
   |some d=>
    cases d<;>simp only[H]at h
    all_goals(repeat' (split at h))
    all_goals(first|contradiction|simp at h)
  case neq=>
   cases H:P.underlying t with
   |none=>simp_all
   |some d=>
    cases d<;>simp only[H]at h
    all_goals(repeat' (split at h))
    all_goals(first|contradiction|simp at h)
  all_goals simp_all
 case convert s d a=>
  grind
 case alloc e=>
  cases z:nG P e<;>simp only[z,pK,Aq,l_,Option.map_none]at h<;>(grind)<;>simp at h
 case buildSlice t len k=>
  cases H:P.underlying t with
  |none=>simp_all
  |some d=>
   cases d<;>simp only[H]at h<;>try trivial
   rename_i e;cases z:nG P e<;>simp only[z,pK,Aq]at h<;>(grind)<;>simp at h
 all_goals(repeat' (split at h))
 all_goals(first|contradiction| (simp[xO]at h;done)| (obtain⟨_,h⟩:=ix h;simp at h))
theorem WO{o:Oper}{g:Nat}{args:List iY}{d:Bool}(h:lU P fm o=U (.callN g args d)):False:=by
 obtain⟨D,p,ty,w,A,G⟩:=o;cases p<;>simp only[lU]at h
 case binOp B t a b q=>
  cases B<;>simp only at h
  case eql=>
   cases H:P.underlying t with
   |none=>simp_all
   |some d=>
    cases d<;>simp only[H]at h
    all_goals(repeat' (split at h))
    all_goals(first|contradiction|simp at h)
  case neq=>
   cases H:P.underlying t with
   |none=>simp_all
   |some d=>
    cases d<;>simp only[H]at h
    all_goals(repeat' (split at h))
    all_goals(first|contradiction|simp at h)
  all_goals simp_all
 case convert s d a=>
  grind
 case alloc e=>
  cases z:nG P e<;>simp only[z,pK,Aq,l_,Option.map_none]at h<;>(grind)<;>simp at h
 case buildSlice t len k=>
  cases H:P.underlying t with
  |none=>simp_all
  |some d=>
   cases d<;>simp only[H]at h<;>try trivial
   rename_i e;cases z:nG P e<;>simp only[z,pK,Aq]at h<;>(grind)<;>simp at h
 all_goals(repeat' (split at h))
 all_goals(first|contradiction| (simp[xO]at h;done)| (obtain⟨_,h⟩:=ix h;simp at h))
theorem WQ{C:Ctx}(R:jq P fm C){o:Oper}{O:jA}(k:lU P fm o=U O){H:ic}(z:HR fm w L (hf H)){a:Act}{env:Env}(y:ER fm w L a env)
  {K:AV->ic->Prop} (h:mZ C O env H K) {Q:Exit->Act->World->Prop}:o.wp P a w (WK fm w L a o.dst K) Q:=by
 have p:kA O env (hf H) H.length (λv us=>K v (rI H us))->o.wp P a w (WK fm w L a o.dst K) Q:=by
  intro h;obtain⟨x,v,us,w',h1,⟨h2,V⟩,q,W,X,S,Y⟩:=NZ k z y (nid:=H.length) (by simp[hf]) (WI h);rw[WJ V]at S;exact Gt h1 ⟨x,v,_,q,rfl,h2,W,X,S,Y⟩
 cases O
 case call g args=>
  obtain⟨f,xs,A,B,h0,rfl,rfl⟩:=N4 k;obtain⟨h1,h2⟩:=WL R z (vs:=(xs.toList.map a.eval).toArray) (by simp) (Gv y xs.toList) h;refine Gw (f:=f) (vs:=(xs.toList.map a.eval).toArray) ?_ (h2.mono ?_)
  .have Z:(xs.map a.eval)=(xs.toList.map a.eval).toArray:=by grind
   unfold execOp;simp[B,resolve,Deferred.ofValue,Act.eval,invoke];rw[Gu h1];simp_all
  .rintro e w' ⟨v,r,H',q,rfl,D,E,F,G,I⟩;exact⟨v,rfl,v,r,H',q,rfl,D,E,F,G,I⟩
 case dyn x args=>
  obtain⟨t,xs,A,B,rfl,rfl⟩:=WM k;obtain⟨g,cs,e,h⟩:=h;have J:=ky y (.tmp t);simp only[jK]at J;rw[show iC env (.t t)= .clo g cs from e]at J;obtain⟨f,ys,ex,M,a0,T⟩:=Gm J;subst M;have Z:(xs.map a.eval)++ys=((xs.toList.map a.eval)++ys.toList).toArray:=by simp
  obtain⟨h1,h2⟩:=WL R z (vs:=((xs.toList.map a.eval)++ys.toList).toArray) (by grind) (λj c N=>by
   by_cases a1:j<xs.toList.length
   .rw[ld (by simp_all)]at N;rw[Gk (by simp_all)];have:=Gv y xs.toList j c N;simp_all
   .rw[nF (by simp_all)]at N;obtain⟨m,hm⟩: ∃m,j=(xs.toList.map a.eval).length+m:=⟨j-(xs.toList.map a.eval).length,by simp_all⟩;subst hm;rw[J_];simp_all) h
  refine Gw (f:=f) (vs:=((xs.toList.map a.eval)++ys.toList).toArray) ?_ (h2.mono ?_)
  .unfold execOp;simp[B,resolve,ex,Deferred.ofValue,invoke];rw[Gu h1];simp
  .rintro e w' ⟨v,r,H',q,rfl,D,E,F,G,I⟩;exact⟨v,rfl,v,r,H',q,rfl,D,E,F,G,I⟩
 case dynP x args=>exact(WN k).elim
 case callN g args d=>exact(WO k).elim
 all_goals exact p h
end
end Go.Abs
namespace Go.Abs
open Go Go.RowKit
structure SR(fm:FM)(n:Nat)(w0:World)(L0:Nat->Loc)(st:jI)(a:Act)(w:World):Prop where
 defers:a.defers=[]
 size:a.tmps.size=n
 base: ∀b,L0 b≠ .fresh->b<st.base
 rel: ∃L,iv L0 w0 w/\hY L0 L w0.heap.size/\HR fm w L (hf st.heap)/\ER fm w L a st.env
section
variable{P:Program}{fm:FM}{w:World}{L:Nat->Loc}{n:Nat}{w0:World}{L0:Nat->Loc}
theorem YrT{a:Act}{env:Env}(h:ER fm w L a env){d:Nat}(hd:d<a.tmps.size){x:Value}{v:AV}(H:VR fm w L x v):ER fm w L (a.put (U d) x) ((d,v)::env):=by
 intro t;simp only[Act.put,jk];by_cases e:d=t
 .simp_all
 .have h1:(d==t)=false:=by simp[e]
  have h2:(a.tmps.setIfInBounds d x).getD t undef=a.tmps.getD t undef:=by
   simp_all
  rw[h1,h2];exact h t
theorem mU{a:Act}{env:Env}(h:ER fm w L a env){d:Option Nat}(hd: ∀k,d=U k->k<a.tmps.size){x:Value}{v:AV}(H:VR fm w L x v):ER fm w L (a.put d x) (put env d v):=by
 cases d with
 |none=>exact h
 |some d=>exact YrT h (hd d rfl) H
theorem Gx{a:Act}{env:Env}(H:ER fm w L a env){g:Nat}{b:Bool}(h:jk env g= .v (.bool b)):ER fm w L a ((g,.v (.bool b))::env):=by
 intro t;simp only[jk];by_cases e:g=t
 .subst e;have:=H g;simp_all
 .have h1:(g==t)=false:=by simp[e]
  rw[h1];exact H t
theorem EP(a:Act)(d:Option Nat)(x:Value):(a.put d x).tmps.size=a.tmps.size:=by cases d<;>simp[Act.put]
theorem ES(a:Act)(d:Option Nat)(x:Value):(a.put d x).defers=a.defers:=by cases d<;>rfl
theorem SR.step{st:jI}{a:Act}(h:SR fm n w0 L0 st a w){env:Env}{H:ic}{L:Nat->Loc}{w':World}{A:Act}(hd:A.defers=a.defers)(z:A.tmps.size=a.tmps.size)
  {d:Nat->Loc} (h1:iv L0 w0 w/\hY L0 d w0.heap.size) (k:iv d w w') (g:hY d L w.heap.size) (p:HR fm w' L (hf H)) (q:ER fm w' L A env):
  SR fm n w0 L0 ⟨env,H,st.base⟩ A w':=
 ⟨hd.trans h.defers,z.trans h.size,h.base,L,h1.1.trans h1.2 k,h1.2.trans (g.mono h1.1.size),p,q⟩
theorem N5{ops:Array Oper}{o:Oper}{y:AI}(h:nK P fm n ops o=U y):
  lU P fm o=U y.op/\y.dst=o.dst/\ (∀k,o.dst=U k->k<n)/\y.old=zj/\y.nw=zj/\
   (o.guard=zz/\y.guard=zz\/ ∃j w g,o.guard=U (j,w)/\ (ops[j]?).bind (·.dst)=U g/\g<n/\y.guard=U (g,w)):=by
 have K: ∀p,lU P fm o=U p->(∀k,o.dst=U k->k<n)->(match o.guard with
   |none=>U (⟨o.dst,p,zz,zj,zj⟩:AI)
   |some (j,w)=>match(ops[j]?).bind (·.dst)with
    |some g=>if g<n then U ⟨o.dst,p,U (g,w),zj,zj⟩else zz
    |none=>zz)=U y->lU P fm o=U y.op/\y.dst=o.dst/\ (∀k,o.dst=U k->k<n)/\y.old=zj/\y.nw=zj/\
   (o.guard=zz/\y.guard=zz\/ ∃j w g,o.guard=U (j,w)/\ (ops[j]?).bind (·.dst)=U g/\g<n/\y.guard=U (g,w)):=by
  grind
 unfold nK at h;cases H:lU P fm o with
 |none=>simp_all
 |some p=>
  simp only[H]at h;rw[<-H];obtain⟨D,O,ty,B,A,G⟩:=o;cases D with
  |none=>exact K p H (λk z=>by cases z) h
  |some d=>
   by_cases q:d<n
   .simp only[decide_eq_true q]at h;exact K p H (λk z=>by grind) h
   simp_all
theorem WR{ops:Array Oper}{j g:Nat}(h:(ops[j]?).bind (·.dst)=U g){T:Array Value}(H:g<T.size){b:Bool}(d:T.getD g undef= .bool b):
  yielded ops T j=U b:=by
 unfold yielded;simp_all
theorem WS{ops:Array Oper}{j g:Nat}(h:(ops[j]?).bind (·.dst)=U g){T:Array Value}(H:g<T.size)(d:T.getD g undef=undef):
  yielded ops T j=none:=by
 unfold yielded;rw[h];simp;have:T[g]?=U undef:=by simp_all
 rw[this];rfl
theorem YrU{C:Ctx}(hC:jq P fm C){ops:Array Oper}{o:Oper}{y:AI}(Y:nK P fm n ops o=U y){n0:Nat->Prop}{K:jI->Prop}{st:jI}{a:Act}(G:SR fm n w0 L0 st a w)
  (d:p_ C n0 y K st) {Q:Exit->Act->World->Prop}:
  (Region.wanted o (yielded ops a.tmps)=zZ->o.wp P a w (λT w'=> ∃S,K S/\SR fm n w0 L0 S T w') Q)/\
  (Region.wanted o (yielded ops a.tmps)=zj-> ∃S,K S/\SR fm n w0 L0 S (a.put o.dst undef) w):=by
 obtain⟨Z,I,a3,J,a1,hg⟩:=N5 Y;obtain⟨a4,op,a0,old,nw⟩:=y;subst I;subst J;subst a1;obtain⟨L1,L,M,N,p⟩:=G.rel;have E: ∀k,o.dst=U k->k<a.tmps.size:=λk V=>by rw[G.size];simp_all
 have R: ∀env,ER fm w L1 a env->mZ C op env st.heap (λv H=>K ⟨put env o.dst v,H,st.base⟩)->
   o.wp P a w (λT w'=> ∃S,K S/\SR fm n w0 L0 S T w') Q:=by
  intro env X d;refine Oper.wp_mono ?_ (WQ hC Z N X d);rintro T w' ⟨x,v,H',L',rfl,V,k1,k2,k3,k4⟩;refine⟨_,V,G.step (ES _ _ _) (EP _ _ _) ⟨L,M⟩ k1 k2 k3 (mU (λt=>(X t).mono k1 k2) E k4)⟩
 have F: ∀env,ER fm w L1 a env->K ⟨put env o.dst (.v undef),st.heap,st.base⟩-> ∃S,K S/\SR fm n w0 L0 S (a.put o.dst undef) w:=by
  intro env X V;exact⟨_,V,G.step (ES _ _ _) (EP _ _ _) ⟨L,M⟩ (iv.refl _ _) (hY.refl _ _) N (mU X E (.v _))⟩
 rcases hg with⟨B,D⟩| ⟨j,W,g,B,D,a5,a2⟩
 .subst D;refine⟨λ_=>R st.env p ?_,λh=> ?_⟩
  .simpa[p_,yx]using d
  .simp[Region.wanted,B]at h
 .subst a2;have z: ∀b,jk st.env g= .v (.bool b)->Region.wanted o (yielded ops a.tmps)=(b==W):=by
   intro b A;have h1:=p g;rw[A]at h1;have h2:=WR D (by rw[G.size];omega) (kI h1);simp only[Region.wanted,B,h2];rfl
  have O:jk st.env g= .v undef->Region.wanted o (yielded ops a.tmps)=false:=by
   intro A;have h1:=p g;rw[A]at h1;have h2:=WS D (by rw[G.size];omega) (kI h1);simp only[Region.wanted,B,h2];rfl
  cases W with
  |true=>
   rcases d with⟨b,A,d⟩| ⟨A,d⟩
   case inr=>rw[O A];grind
   have q:jk st.env g= .v (.bool b):=A;rw[z b q];cases b with
   |true=>exact⟨λ_=>R _ (Gx p q) (Eq.mp (BP _ _ _ _ _ _) (d.1 rfl)),λh=>by cases h⟩
   |false=>exact⟨λh=>(by cases h),λ_=>F _ (Gx p q) (d.2 rfl)⟩
  |false=>
   rcases d with⟨b,A,d⟩| ⟨A,d⟩
   case inr=>rw[O A];grind
   have q:jk st.env g= .v (.bool b):=A;rw[z b q];cases b with
   |true=>exact⟨λh=>(by cases h),λ_=>F _ (Gx p q) (d.1 rfl)⟩
   |false=>exact⟨λ_=>R _ (Gx p q) (Eq.mp (BP _ _ _ _ _ _) (d.2 rfl)),λh=>by cases h⟩
theorem ET{α β:Type}{f:α->Option β}{x:α}{r:List α}{ys:List β}(h:pg f (x::r)=U ys): ∃y z,f x=U y/\pg f r=U z/\ys=y::z:=by
 simp only[pg]at h;grind
theorem Ki{C:Ctx}(g:jq P fm C){ops:Array Oper}{n0:Nat->Prop}{Q:Exit->Act->World->Prop}{K:jI->Prop}
  (k: ∀st a w,K st->SR fm n w0 L0 st a w->Q .normal a w): ∀(os:List Oper) (ys:List AI) (st:jI) (a:Act) (w:World),pg (nK P fm n ops) os=U ys->qy C n0 ys K st->
  SR fm n w0 L0 st a w->wpList P ops Q os a w
 | [],ys,st,a,w,d,h,p=>by
   simp[pg]at d;subst d;exact k st a w h p
 |o::os,ys,st,a,w,d,h,p=>by
  obtain⟨y,z,h1,h2,rfl⟩:=ET d;obtain⟨R,B⟩:=YrU g h1 p h (Q:=Q);unfold wpList;cases A:Region.wanted o (yielded ops a.tmps)with
  |true=>
   refine .inl (Oper.wp_mono ?_ (R A));rintro D w' ⟨S,q,H⟩;exact Ki g k os z S D w' h2 q H
  |false=>
   obtain⟨S,q,H⟩:=B A;exact Ki g k os z S _ w h2 q H
end
end Go.Abs
namespace Go.Abs
open Go Go.RowKit
def Kj(a:Nat):AV->Prop
 | .ptr b _ _=>a=b
 | .ref b _ _=>a=b
 | .np b=>a=b
 | .clo _ cs=> ∃c∈cs,EF a c
 | .agg cs=> ∃O len,AV.ref a O len∈cs
 |_=>False
def ub(p:jA)(env:Env)(a:Nat):Prop:= ∃x∈p.iG,Kj a (iC env x)
theorem N6{env:Env}: ∀(p:List (Nat×Nat×iY)) (l:List AV) (K:List AV->Prop),Ah l env p K-> ∃cs,K cs/\Ah l env p (λc=>c=cs)
 | [],l,K,h=>⟨l,h,rfl⟩
 | (O,n,x)::r,l,K,h=>by
   obtain⟨cs,h1,h2,H,d⟩:=h;obtain⟨ds,g,k⟩:=N6 r _ K d;exact⟨ds,g,cs,h1,h2,H,k⟩
theorem N7{env:Env}{es:Nat}: ∀(p:List (Nat×iY)) (l:List (List AV)) (K:List (List AV)->Prop),s_ es l env p K-> ∃cs,K cs/\s_ es l env p (λc=>c=cs)
 | [],l,K,h=>⟨l,h,rfl⟩
 | (i,x)::r,l,K,h=>by
   obtain⟨cs,h1,h2,H,d⟩:=h;obtain⟨ds,g,k⟩:=N7 r _ K d;exact⟨ds,g,cs,h1,h2,H,k⟩
theorem WT{env:Env}{es:Nat}: ∀(p:List (Nat×iY)) (l:List (List AV)) {K d:List (List AV)->Prop},(∀c,K c->d c)->s_ es l env p K->s_ es l env p d
 | [],l,K,d,k,h=>k _ h
 | (i,x)::r,l,K,d,k,h=>by
   obtain⟨cs,h1,h2,H,g⟩:=h;exact⟨cs,h1,h2,H,WT r _ k g⟩
theorem Gy{g:Bool}{n:Nat}{cs:List AV}{K:AV->List jy->Prop}(h:sQ g n cs λa=>K a []): ∃v us,K v us/\sQ g n cs (λa=>a=v/\ ([]:List jy)=us):=by
 cases g
 .obtain⟨c,h1,h2⟩:=h;exact⟨_,_,h2,c,h1,rfl,rfl⟩
 .obtain⟨h1,h2⟩:=h;exact⟨_,_,h2,h1,rfl,rfl⟩
theorem YrV{p:BinOp}{k:IntKind}{x y:Int}{K:Value->Prop}(h:EA p k x y K): ∃v,K v/\EA p k x y (λV=>V=v):=by
 cases p<;>simp only[EA]at h⊢ <;>first|simp_all|simp_all
theorem YrW{p:BinOp}{x y:ByteArray}{K:Value->Prop}(h:BO p x y K): ∃v,K v/\BO p x y (λV=>V=v):=by
 cases p<;>simp only[BO]at h⊢ <;>first|simp_all|simp_all|simp_all
theorem WU{p:BinOp}{a b:AV}{K:Value->Prop}(h:qX p a b K): ∃v,K v/\qX p a b (λV=>V=v):=by
 unfold qX at h⊢;split at h
 .obtain⟨v,h1,h2⟩:=YrV h.2;grind
 .exact YrW h
 trivial
theorem sR{env:Env}{o:Option iY}{d:Nat}{K:Nat->Prop}(h:pY env o d K): ∃n,K n/\ ∀g:Nat->Prop,g n->pY env o d g:=by
 cases o with
 |none=>exact⟨d,h,λg h=>h⟩
 |some x=>obtain⟨k,n,e,h0,h⟩:=h;exact⟨_,h,λg h=>⟨k,n,e,h0,h⟩⟩
theorem WV{es:Nat}{s:AV}{l:List (List AV)}{h:HF}{nid:Nat}{K:AV->List jy->Prop}(H:mu es s l h nid K): ∃v us,K v us/\mu es s l h nid (λV d=>V=v/\d=us):=by
 cases s<;>try trivial
 case emp=>obtain⟨h1,h2,h0,g⟩:=H;exact⟨_,_,g,h1,h2,h0,rfl,rfl⟩
 case ref a O len=>obtain⟨o,k,h1,h2,g,p,q,w⟩:=H;exact⟨_,_,w,o,k,h1,h2,g,p,q,rfl,rfl⟩
theorem WW(O:jA)(env:Env)(h:HF)(nid:Nat)(K:AV->List jy->Prop)(H:kA O env h nid K): ∃v us,K v us/\kA O env h nid (λV B=>V=v/\B=us):=by
 cases O<;>simp only[kA,jh]at H⊢ <;>try exact H.elim
 case pv=>grind
 case mv=>simp_all
 case pick c a b=>
  obtain⟨t,e,h1,h2⟩:=H;cases t
  .exact⟨_,_,h2 rfl,zj,e,(YqW _ _).mpr ⟨rfl,rfl⟩⟩
  .exact⟨_,_,h1 rfl,zZ,e,(YqV _ _).mpr ⟨rfl,rfl⟩⟩
 case box=>obtain⟨cs,h1,h2,d,p⟩:=H;exact⟨_,_,p,cs,h1,h2,d,rfl,rfl⟩
 case alloc=>simp_all
 case build z P=>obtain⟨cs,h1,h2⟩:=N6 _ _ _ H;grind
 case bsl es z n P=>obtain⟨cs,h1,h2⟩:=N7 _ _ _ H;exact⟨_,_,h1,WT _ _ (λc e=>by simp_all) h2⟩
 case load g n x=>
  split at H<;>try trivial
  .exact Gy H
  .obtain⟨o,q,e,C,h1⟩:=H;obtain⟨v,us,h2,d⟩:=Gy h1;exact⟨v,us,h2,o,q,e,C,d⟩
 case loadR g n x=>
  split at H<;>try trivial
  exact Gy H
 case store n x y=>
  split at H<;>try trivial
  obtain⟨o,q,e,C,cs,D,h1,h2,d⟩:=H;exact⟨_,_,d,o,q,e,C,cs,D,h1,h2,rfl,rfl⟩
 case nilc x=>grind
 case bin O x y=>obtain⟨v,h1,h2⟩:=WU H;grind
 case beq=>obtain⟨b,e,c,e',h⟩:=H;exact⟨_,_,h,b,e,c,e',rfl,rfl⟩
 case eqa=>grind
 case not=>obtain⟨b,e,h⟩:=H;exact⟨_,_,h,b,e,rfl,rfl⟩
 case neg=>grind
 case conv=>obtain⟨k,n,e,h⟩:=H;exact⟨_,_,h,k,n,e,rfl,rfl⟩
 case cvs=>obtain⟨s,e,h⟩:=H;exact⟨_,_,h,s,e,rfl,rfl⟩
 case fad=>grind
 case fld g E n x=>
  obtain⟨cs,e,h1,h2⟩:=H;obtain⟨v,us,d,p⟩:=Gy h2;grind
 case iad es x i=>
  obtain⟨k,n,e,h⟩:=H;split at h<;>try trivial
  .obtain⟨h1,h2,c,d,p⟩:=h;exact⟨_,_,p,k,n,e,h1,h2,c,d,rfl,rfl⟩
  .obtain⟨o,q,h1,h2,d,p,F⟩:=h;exact⟨_,_,F,k,n,e,o,q,h1,h2,d,p,rfl,rfl⟩
 case iada es len x i=>
  obtain⟨k,n,e,h0,h1,h⟩:=H;split at h<;>first|trivial|exact⟨_,_,h,k,n,e,h0,h1,rfl,rfl⟩
 case idx=>obtain⟨s,e,k,n,e',h0,b,h1,h2⟩:=H;exact⟨_,_,h2,s,e,k,n,e',h0,b,h1,rfl,rfl⟩
 case slcS x L G=>
  obtain⟨s,e,h⟩:=H;obtain⟨l,h1,w⟩:=sR h;obtain⟨m,⟨h2,d,p⟩,A⟩:=sR h1;exact⟨_,_,p,s,e,w _ (A _ ⟨h2,d,rfl,rfl⟩)⟩
 case slcR es x L G=>
  split at H<;>try trivial
  .obtain⟨e,h⟩:=H;obtain⟨l,h1,w⟩:=sR h;obtain⟨m,⟨h2,d,p⟩,A⟩:=sR h1;grind
  .obtain⟨l,h1,w⟩:=sR H;obtain⟨m,⟨h2,d,p⟩,A⟩:=sR h1;grind
  .obtain⟨l,h1,w⟩:=sR H;obtain⟨m,⟨h2,d,p⟩,A⟩:=sR h1;grind
 case ext=>grind
 case len=>grind
 case lenS=>obtain⟨s,e,h⟩:=H;exact⟨_,_,h,s,e,rfl,rfl⟩
 case app es s x=>
  split at H<;>try trivial
  .obtain⟨h1,h2⟩:=H;obtain⟨v,us,d,p⟩:=WV h2;grind
  .exact WV H
 case mksl=>obtain⟨k,n,e,I,c,e',h0,h1,h2,d⟩:=H;exact⟨_,_,d,k,n,e,I,c,e',h0,h1,h2,rfl,rfl⟩
 case mkf=>simp_all
 grind
def Shape(O:jA)(env:Env)(h:HF)(us:List jy):Prop:=
 (us=[]/\O.news (λ_=>zZ)=zj)\/(∃o,us=[.push o]/\O.news (λ_=>zZ)=zZ)\/
 (∃a o,us=[.set a o]/\h a≠zz/\O.mK (λ_=>zZ)=zZ/\O.news (λ_=>zZ)=zj/\ub O env a)\/
 (∃a o p,us=[.set a o,.push p]/\h a≠zz/\O.mK (λ_=>zZ)=zZ/\O.news (λ_=>zZ)=zZ/\ub O env a)
theorem YrX{os es:Nat}{s:AV}{l:List (List AV)}{h:HF}{nid:Nat}{o:iu}{us:List jy}(H:pc os es s l h nid=U (o,us)):
  us=[]\/ ∃a O len,s= .ref a O len/\us=[.set a zz]/\h a≠none:=by
 unfold pc at H;grind
theorem YrY{α:Type}{l:List α}(h:l.length=2): ∃a b,l=[a,b]:=by
 match l,h with
 | [a,b],_=>simp
theorem YrZ{O:pa}{xs:List iY}{env:Env}{h:HF}{nid:Nat}{v:AV}{us:List jy}(H:xF O (xs.map (iC env)) h nid=U (v,us)):Shape (.px O xs) env h us:=by
 have app: ∀{os es s x l o d p},pc os es s l h nid=U (o,d)->xs.map (iC env)=[s,x]->O.mK=zZ->O.news=zZ->O.look=1->Shape (.px O xs) env h (d++[.push p]):=by
  intro os es s x l o d p y g A k w;rcases YrX y with rfl| ⟨a,B,len,rfl,rfl,z⟩
  .exact .inr (.inl ⟨_,rfl,k⟩)
  .refine .inr (.inr (.inr ⟨a,_,_,rfl,z,A,k,?_⟩));obtain⟨q,r,rfl⟩:=YrY (by have w:=congrArg List.length g;grind:xs.length=2);simp at g;exact⟨q,by simp[jA.iG,w],by rw[g.1];rfl⟩
 have N: ∀(f:AV) (R:List AV) (a:Nat),xs.map (iC env)=f::R->O.look=1->Kj a f->ub (.px O xs) env a:=by
  intro f R a g w k;cases xs with
  |nil=>trivial
  |cons q r=>
   simp at g;exact⟨q,by simp[jA.iG,w],by simp_all⟩
 revert H app N;generalize C:xs.map (iC env)=ys;intro H app N;unfold xF at H;split at H
 all_goals(repeat' (first| (cases H;done)| (replace H:=(ix H).2)|split at H))
 all_goals
  injection H with H
  injection H with _ H
  subst H
  first
   |exact .inl ⟨rfl,rfl⟩
   |exact .inr (.inl ⟨_,rfl,rfl⟩)
   |exact app (by assumption) rfl rfl rfl rfl
   |exact .inr (.inr (.inl ⟨_,_,rfl,λk=>by simp_all,rfl,rfl,N _ _ _ rfl rfl rfl⟩))
theorem WX{O:jA}{env:Env}{h:HF}{nid:Nat}{v:AV}{us:List jy}(H:kA O env h nid (λV d=>V=v/\d=us)):Shape O env h us:=by
 cases O
 case store n x y=>
  simp only[kA,jh]at H;split at H<;>try trivial
  rename_i a i j e;obtain⟨o,w,e',F,cs,G,h1,h2,_,p⟩:=H;exact .inr (.inr (.inl ⟨a,_,p.symm,by simp_all,rfl,rfl,x,by simp[jA.iG],by rw[e];rfl⟩))
 case app es s x=>
  have I: ∀l,mu es (iC env s) l h nid (λV d=>V=v/\d=us)->Shape (.app es s x) env h us:=by
   intro l A;cases E:iC env s<;>rw[E]at A<;>try trivial
   case emp=>obtain⟨h1,h2,_,_,p⟩:=A;exact .inr (.inl ⟨_,p.symm,rfl⟩)
   case ref a B len=>
    obtain⟨o,w,h1,h2,p,q,J,_,L⟩:=A;exact .inr (.inr (.inr ⟨a,_,_,L.symm,by simp_all,rfl,rfl,s,by simp[jA.iG],by rw[E];rfl⟩))
  simp only[kA,jh]at H;grind
 case box x=>obtain⟨cs,h1,h2,p,_,q⟩:=H;exact .inr (.inl ⟨_,q.symm,rfl⟩)
 case alloc z=>obtain⟨_,q⟩:=H;exact .inr (.inl ⟨_,q.symm,rfl⟩)
 case mksl=>obtain⟨k,n,e,Q,c,e',h0,h1,h2,_,p⟩:=H;exact .inr (.inl ⟨_,p.symm,rfl⟩)
 case call=>trivial
 case dyn=>trivial
 case dynP=>trivial
 case callN=>trivial
 case px O xs=>obtain⟨V,d,h1,_,h2⟩:=H;subst h2;exact YrZ h1
 all_goals
  refine .inl ⟨?_,rfl⟩;simp only[kA,jh,Gb,qV,wE,Ag]at H
 case pv=>grind
 case mv=>simp_all
 case mkf=>simp_all
 case pick c a b=>
  grind
 case build z P=>obtain⟨cs,h1,h2⟩:=N6 _ _ _ H;simp_all
 case bsl es z n P=>obtain⟨cs,h1,h2⟩:=N7 _ _ _ H;simp_all
 case load g n x=>
  split at H<;>try trivial
  .obtain⟨v,us,h2,p⟩:=Gy (K:=λa d=>a=v/\d=us) H;cases g
   .obtain⟨_,_,h⟩:=H;simp_all
   .exact H.2.2.symm
  .obtain⟨o,w,e,F,h1⟩:=H;cases g
   .obtain⟨_,_,h⟩:=h1;simp_all
   .exact h1.2.2.symm
 case loadR g n x=>
  split at H<;>try trivial
  cases g
  .obtain⟨_,_,h⟩:=H;simp_all
  .exact H.2.2.symm
 case nilc x=>grind
 case bin O x y=>obtain⟨v,h1,h2⟩:=WU H;simp_all
 case beq=>grind
 case eqa=>grind
 case not=>grind
 case neg=>grind
 case conv=>grind
 case cvs=>grind
 case fad=>grind
 case fld g B n x=>
  obtain⟨cs,e,h1,h2⟩:=H;cases g
  .obtain⟨_,_,h⟩:=h2;simp_all
  .exact h2.2.2.symm
 case iad es x i=>
  obtain⟨k,n,e,h⟩:=H;split at h<;>try trivial
  .grind
  .obtain⟨o,w,h1,h2,p,q,J⟩:=h;simp_all
 case iada es len x i=>
  grind
 case idx=>grind
 case slcS x M N=>
  obtain⟨s,e,h⟩:=H;obtain⟨l,h1,C⟩:=sR h;obtain⟨m,⟨h2,p,q⟩,D⟩:=sR h1;simp_all
 case slcR es x M N=>
  split at H<;>try trivial
  .obtain⟨e,h⟩:=H;obtain⟨l,h1,C⟩:=sR h;obtain⟨m,⟨h2,p,q⟩,D⟩:=sR h1;simp_all
  .obtain⟨l,h1,C⟩:=sR H;obtain⟨m,⟨h2,p,q⟩,D⟩:=sR h1;simp_all
  .obtain⟨l,h1,C⟩:=sR H;obtain⟨m,⟨h2,p,q⟩,D⟩:=sR h1;simp_all
 case ext=>grind
 case len=>grind
 grind
end Go.Abs
namespace Go.Abs
open Go Go.RowKit
def nk(a b:Env):Prop:= ∀t,jk a t=jk b t
theorem nk.refl(a:Env):nk a a:=λ_=>rfl
theorem nk.symm{a b:Env}(h:nk a b):nk b a:=λt=>(h t).symm
theorem nk.trans{a b c:Env}(h:nk a b)(k:nk b c):nk a c:=λt=>(h t).trans (k t)
def mr(ts:List Nat)(a b:Env):Prop:= ∀t∈ts,jk b t=jk a t
theorem lI{x:iY}{a b:Env}(h:mr x.tmps a b):iC b x=iC a x:=by
 cases x with
 |t n=>exact h n (by simp[iY.tmps])
 |c v=>rfl
theorem mr.left{xs ys:List Nat}{a b:Env}(h:mr (xs++ys) a b):mr xs a b:=λt H=>h t (List.mem_append_left _ H)
theorem mr.right{xs ys:List Nat}{a b:Env}(h:mr (xs++ys) a b):mr ys a b:=λt H=>h t (List.mem_append_right _ H)
theorem yC{a b:Env}: ∀{xs:List iY},mr (xs.flatMap iY.tmps) a b->xs.map (iC b)=xs.map (iC a)
 | [],_=>rfl
 |x::r,h=>by
  simp only[kn,lI h.left,yC h.right]
theorem WY{a b:Env}: ∀{P:List (Nat×Nat×iY)} {l:List AV} {K:List AV->Prop},mr (P.flatMap λp=>p.2.2.tmps) a b->Ah l a P K->Ah l b P K
 | [],l,K,_,h=>h
 | (O,n,x)::r,l,K,H,h=>by
   obtain⟨cs,h1,h2,d,g⟩:=h;exact⟨cs,by rw[lI H.left];exact h1,h2,d,WY H.right g⟩
theorem WZ{a b:Env}{es:Nat}: ∀{P:List (Nat×iY)} {l:List (List AV)} {K:List (List AV)->Prop},mr (P.flatMap λp=>p.2.tmps) a b->s_ es l a P K->s_ es l b P K
 | [],l,K,_,h=>h
 | (i,x)::r,l,K,H,h=>by
   obtain⟨cs,h1,h2,d,g⟩:=h;exact⟨cs,by rw[lI H.left];exact h1,h2,d,WZ H.right g⟩
theorem Ar{a b:Env}{o:Option iY}{d:Nat}{K:Nat->Prop}(H:mr (match o with|some o=>o.tmps|none=>[]) a b)(h:pY a o d K):pY b o d K:=by
 cases o with
 |none=>exact h
 |some x=>simp only[pY,jh]at h⊢;rw[lI H];exact h
theorem Kk{a:Env}{o:Option iY}{d:Nat}{K g:Nat->Prop}(H: ∀n,K n->g n)(h:pY a o d K):pY a o d g:=by
 cases o with
 |none=>exact H _ h
 |some x=>obtain⟨k,n,e,h0,h⟩:=h;exact⟨k,n,e,h0,H _ h⟩
theorem Yr0{p:pa}{xs:List iY}{env:Env}{h h2:HF}{nid:Nat}{r:AV×List jy}(hd:p.deep=zj\/h2=h)(w: ∀a,ub (.px p xs) env a->h2 a=h a)(H:xF p (xs.map (iC env)) h nid=U r):xF p (xs.map (iC env)) h2 nid=U r:=by
 rcases hd with hd|rfl
 rotate_left
 .exact H
 have K: ∀(s:AV),(0<p.look->(xs.map (iC env))[0]?=U s)->0<p.look-> ∀a,s= .np a->h2 a=h a:=by
  intro s d g a e;subst e;cases xs with
  |nil=>simp_all
  |cons x r=>
   have:=d g;simp at this;refine w a ⟨x,?_,by rw[this];rfl⟩;show x∈ (x::r).take p.look;cases q:p.look with
   |zero=>omega
   |succ n=>simp
 have y: ∀(s:AV),(0<p.look->(xs.map (iC env))[0]?=U s)->0<p.look-> ∀a O len,s= .ref a O len->h2 a=h a:=by
  intro s d g a O len e;subst e;cases xs with
  |nil=>simp_all
  |cons x r=>
   have:=d g;simp at this;refine w a ⟨x,?_,by rw[this];rfl⟩;show x∈ (x::r).take p.look;cases q:p.look with
   |zero=>omega
   |succ n=>simp
 have app: ∀os es s l,(∀a O len,s= .ref a O len->h2 a=h a)->pc os es s l h2 nid=pc os es s l h nid:=by
  intro os es s l d;cases s<;>try rfl
  rename_i a O len;unfold pc;simp_all
 revert K;revert y;revert H;revert hd;generalize xs.map (iC env)=ys;intro hd H y K;unfold xF at H⊢;split at H
 all_goals first
  |exact H
  | (rename_i s x
     have e: ∀os es l,pc os es s l h2 nid=pc os es s l h nid:=λos es l=>app os es s l (y s (λ_=>rfl) Nat.zero_lt_one);simp only[e];exact H)
  | (rename_i a O len
     rw[y _ (λ_=>rfl) Nat.zero_lt_one a O len rfl];exact H)
  | (rename_i a O len x
     rw[y _ (λ_=>rfl) Nat.zero_lt_one a O len rfl];exact H)
  | (rename_i a
     rw[K _ (λ_=>rfl) Nat.zero_lt_one a rfl];exact H)
  | (rename_i a k
     rw[K _ (λ_=>rfl) Nat.zero_lt_one a rfl];exact H)
  | (rename_i a k z
     rw[K _ (λ_=>rfl) Nat.zero_lt_one a rfl];exact H)
  |cases hd
  |cases H
theorem Yr1{p:jA}{env E:Env}{h h2:HF}{nid:Nat}{K:AV->List jy->Prop}(hd:p.deep=zj\/h2=h)(H:mr p.lh env E)(z: ∀a,ub p env a->h2 a=h a)(d:kA p env h nid K):
  kA p E h2 nid K:=by
 cases p<;>simp only[jA.lh]at H<;>simp only[kA,jh]at d⊢ <;>try exact d.elim
 case mv=>rw[lI H];omega
 case pick=>rw[lI H.left.left,lI H.left.right,lI H.right];omega
 case box=>rw[lI H];omega
 case alloc=>omega
 case build=>exact WY H d
 case bsl=>exact WZ H d
 case load g n x=>
  rw[lI H];split at d<;>try exact d.elim
  .omega
  .rename_i a i j e;obtain⟨o,q,h1⟩:=d;exact⟨o,by rw[z a ⟨x,by simp[jA.iG],by rw[e];rfl⟩];exact q,h1⟩
 case loadR=>rw[lI H];omega
 case store n x y=>
  rw[lI H.left,lI H.right];split at d<;>try trivial
  rename_i a i j e;obtain⟨o,q,h1⟩:=d;exact⟨o,by rw[z a ⟨x,by simp[jA.iG],by rw[e];rfl⟩];exact q,h1⟩
 case nilc=>rw[lI H];omega
 case bin=>rw[lI H.left,lI H.right];omega
 case beq=>rw[lI H.left,lI H.right];omega
 case eqa=>rw[lI H.left,lI H.right];omega
 case not=>rw[lI H];omega
 case neg=>rw[lI H];omega
 case conv=>rw[lI H];omega
 case cvs=>rw[lI H];omega
 case fad=>rw[lI H];omega
 case fld=>rw[lI H];omega
 case iad es x i=>
  rw[lI H.left,lI H.right];obtain⟨k,n,C,h1⟩:=d;refine⟨k,n,C,?_⟩;split at h1<;>try exact h1.elim
  .exact h1
  .rename_i a O len e;obtain⟨o,q,D⟩:=h1;exact⟨o,by rw[z a ⟨x,by simp[jA.iG],by rw[e];rfl⟩];exact q,D⟩
 case iada=>rw[lI H.left,lI H.right];omega
 case idx=>rw[lI H.left,lI H.right];omega
 case slcS x L F=>
  rw[lI H.left.left];obtain⟨s,e,h1⟩:=d;exact⟨s,e,Ar H.left.right (Kk (λl w=>Ar H.right w) h1)⟩
 case slcR es x L F=>
  rw[lI H.left.left];split at d<;>try trivial
  .exact⟨d.1,Ar H.left.right (Kk (λl w=>Ar H.right w) d.2)⟩
  .exact Ar H.left.right (Kk (λl w=>Ar H.right w) d)
  .exact Ar H.left.right (Kk (λl w=>Ar H.right w) d)
 case ext=>rw[lI H];omega
 case len=>rw[lI H];omega
 case lenS=>rw[lI H];omega
 case app es s x=>
  rw[lI H.left,lI H.right];have G: ∀l,mu es (iC env s) l h nid K->mu es (iC env s) l h2 nid K:=by
   intro l A;cases B:iC env s<;>rw[B]at A<;>try exact A.elim
   case emp=>exact A
   case ref a O len=>
    obtain⟨o,q,h1⟩:=A;exact⟨o,by rw[z a ⟨s,by simp[jA.iG],by rw[B];rfl⟩];exact q,h1⟩
  grind
 case mksl=>rw[lI H.left,lI H.right];omega
 case mkf=>rw[yC H];omega
 case pv=>rw[yC H];omega
 case px p xs=>rw[yC H];obtain⟨v,us,h1,h2⟩:=d;exact⟨v,us,Yr0 hd z h1,h2⟩
theorem Yr2{p:pa}(H:p.news=zj)(xs:List AV)(h:HF)(nid N:Nat):xF p xs h N=xF p xs h nid:=by
 cases p<;>first| (cases H;done)| (unfold xF;split<;>first|rfl|trivial)
theorem Yr3{p:jA}{env:Env}{h:HF}{nid:Nat}(N:Nat){K:AV->List jy->Prop}(d:p.news (λ_=>zZ)=zj)(H:kA p env h nid K):kA p env h N K:=by
 cases p<;>first|exact H| (cases d;done)|skip
 case px p xs=>obtain⟨v,us,h1,h2⟩:=H;exact⟨v,us,by rw[Yr2 d];exact h1,h2⟩
def W0(C:Ctx)(f:Nat)(args:List AV)(h:HF)(r:AV):Prop:=
 ∃A d,jX (vQ h) args A/\ (A=args\/mY r\/yq C f d r)/\jX Coe A d/\C.C f d [] r []
def B2(C:Ctx)(p:jA)(env:Env)(h:HF)(nid:Nat)(v:AV)(us:List jy):Prop:=
 match p with
 | .call f args=>C.pf f=zZ/\us=[]/\W0 C f (args.map (iC env)) h v
 | .dynP x args=> ∃f cs,iC env x= .clo f cs/\C.pf f=zZ/\us=[]/\W0 C f (args.map (iC env)++cs) h v
 | .dyn _ _=>False
 | .callN f args d=> ∃A g o len,jX (vQ h) (args.map (iC env)) A/\ (A=args.map (iC env)\/EE o)/\jX Coe A g/\Ge C f g o len/\ (d=zZ->len=o.el.length)/\v=J0 d o nid len/\us=[.push (ED d o)]
 |p=>kA p env h nid (λV k=>V=v/\k=us)
theorem N8{i:Nat}{a:AV}(h:EF i a):Kj i a:=by
 cases a<;>first|exact h|trivial
theorem W3{h h2:HF}{a b:AV}(k: ∀i O len,a= .ref i O len->h2 i=h i)(d:se h a b):se h2 a b:=by
 rcases d with e| ⟨i,O,len,o,e,h1,H,g⟩
 .exact .inl e
 .exact .inr ⟨i,O,len,o,e,by simp_all,H,g⟩
theorem W4{h h2:HF}: ∀{as B:List AV},(∀i O len,AV.ref i O len∈as->h2 i=h i)->jX (se h) as B->jX (se h2) as B
 | [],[],_,_=>trivial
 |a::as,b::B,d,H=>⟨W3 (λi O len e=>d i O len (by simp_all)) H.1,W4 (λx O len g=>d x O len (wD _ g)) H.2⟩
 | [],_::_,_,h=>h.elim
 |_::_,[],_,h=>h.elim
theorem Kl{h h2:HF}: ∀{as B:List AV},(∀i,(∃a∈as,EF i a)->h2 i=h i)->jX (vQ h) as B->jX (vQ h2) as B
 | [],[],_,_=>trivial
 |a::as,b::B,d,H=>by
  refine⟨?_,Kl (λi ⟨x,k,p⟩=>d i ⟨x,wD _ k,p⟩) H.2⟩;rcases H.1 with g| ⟨cs,ds,E,q,g⟩
  .exact .inl (W3 (λi O len e=>d i ⟨a,pM ..,by rw[e];rfl⟩) g)
  .exact .inr ⟨cs,ds,E,q,W4 (λi O len w=>d i ⟨a,pM ..,by rw[E];exact⟨O,len,w⟩⟩) g⟩
 | [],_::_,_,h=>h.elim
 |_::_,[],_,h=>h.elim
theorem Yr4{C:Ctx}{O:jA}{env E:Env}{h h2:HF}{nid:Nat}{v:AV}{us:List jy}(hd:O.deep=zj\/h2=h)(w:mr O.lh env E)(z: ∀a,ub O env a->h2 a=h a)
  (H:B2 C O env h nid v us):B2 C O E h2 nid v us:=by
 cases O
 case call f args=>
  obtain⟨h1,k,B,D,F,G⟩:=H;refine⟨h1,k,B,D,?_⟩;rw[yC w];refine⟨Kl (λi ⟨a,g,q⟩=>z i ?_) F,G⟩;obtain⟨x,L,e⟩:=mH.1 g;exact⟨x,L,by rw[e];exact N8 q⟩
 case dynP x args=>
  obtain⟨f,cs,e,h1,k,B,D,F,G⟩:=H;refine⟨f,cs,by rw[lI w.left];exact e,h1,k,B,D,?_⟩;rw[yC w.right];refine⟨Kl (λi ⟨a,g,q⟩=>z i ?_) F,G⟩;rcases uE.1 g with g|g
  .obtain⟨y,I,e⟩:=mH.1 g;exact⟨y,wD _ I,by rw[e];exact N8 q⟩
  .exact⟨x,pM ..,by rw[e];exact⟨a,g,q⟩⟩
 case dyn=>trivial
 case callN f args d=>
  obtain⟨A,p,o,len,h1,h2⟩:=H;refine⟨A,p,o,len,?_⟩;rw[yC w];refine⟨Kl (λi ⟨a,g,q⟩=>z i ?_) h1,h2⟩;obtain⟨y,I,e⟩:=mH.1 g;exact⟨y,I,by rw[e];exact N8 q⟩
 all_goals exact Yr1 (h:=h) (nid:=nid) (K:=λV J=>V=v/\J=us) hd w z H
theorem Km{C:Ctx}{p:jA}{env:Env}{h:HF}{nid:Nat}{v:AV}{us:List jy}(H:B2 C p env h nid v us):Shape p env h us:=by
 cases p
 case call f args=>exact .inl ⟨H.2.1,rfl⟩
 case dynP x args=>obtain⟨f,cs,e,h1,g,_⟩:=H;exact .inl ⟨g,rfl⟩
 case dyn=>trivial
 case callN f args d=>obtain⟨_,_,o,_,_,_,_,_,_,_,h⟩:=H;exact .inr (.inl ⟨ED d o,h,rfl⟩)
 all_goals exact WX (nid:=nid) H
end Go.Abs
namespace Go.Abs
open Go Go.RowKit
theorem Yr5{p:pa}{xs:List iY}{x:iY}(h:x∈xs.take p.look):js 0 p.look=true:=by
 cases H:p.look with
 |zero=>simp_all
 |succ n=>rfl
theorem EU{p:jA}{env:Env}{a:Nat}(h:ub p env a):p.kf=true:=by
 obtain⟨x,H,_⟩:=h;cases p<;>first|rfl|exact Yr5 H|trivial
theorem Yr6{p:jA}{pf:Nat->Bool}(h:p.qa pf=zZ):p.kf=true:=by
 cases p<;>first|rfl|cases h
theorem N9{p:jA}{pf:Nat->Bool}(h:p.mK (λ_=>zZ)=zZ):p.mK pf=true:=by
 cases p<;>first|rfl|exact h|cases h
theorem yD{p:jA}{pf:Nat->Bool}(h:p.news (λ_=>zZ)=zZ):p.news pf=true:=by
 cases p<;>first|rfl|exact h|cases h
theorem W5{n0:Nat->Prop}{env:Env}: ∀{xs:List iY},Am n0 env xs-> ∀x∈xs,J1 n0 (iC env x)
 | [],_,x,H=>by cases H
 |y::r,h,x,H=>by
  rcases mT.1 H with rfl|H
  .exact h.1
  .exact W5 h.2 x H
theorem EV{n0:Nat->Prop}{env:Env}{p:jA}{a:Nat}(h:Am n0 env p.iG)(d:ub p env a): ¬n0 a:=by
 obtain⟨x,g,H⟩:=d;have:=W5 h x g;cases k:iC env x<;>rw[k]at H this<;>try exact H.elim
 .exact H.symm▸this
 .exact H.symm▸this
 .obtain⟨O,len,H⟩:=H;exact this a O len H
 .obtain⟨c,q,H⟩:=H;exact this a c q H
 .exact H.symm▸this
theorem N'{n0:Nat->Prop}{a:Nat}{v:AV}(h:Gf n0 v)(H:Kj a v):n0 a:=by
 cases v<;>first|exact H.elim|exact h.elim|exact H.symm▸h
theorem W6{p:jA}(h:p.mK (λ_=>zZ)=zZ):p.mb=false:=by
 cases p<;>first|rfl|cases h
theorem W7{n0:Nat->Prop}{env:Env}{p:jA}{a:Nat}(h:An n0 env p)(g:p.mb=zj)(k:ub p env a):n0 a:=by
 obtain⟨x,H,d⟩:=k;cases p<;>try first|exact h.elim| (cases g;done)
 .simp[jA.iG]at H;subst H;exact N' h d
 .simp[jA.iG]at H;subst H;exact N' h d
 .exact N' (h x H) d
def B3(y:AI)(env:Env):Prop:=y.guard=zz\/ ∃g b,y.guard=U (g,b)/\jk env g= .v (.bool b)
def tf(C:Ctx)(n0:Nat->Prop)(y:AI)(env:Env)(h:HF)(v:AV)(nid:Nat)(us:List jy):Prop:=
 B3 y env/\ (y.old=zZ->Am n0 env y.op.iG)/\ (y.nw=zZ->An n0 env y.op)/\n0 nid/\ (y.op.news (λ_=>zZ)=zZ->h nid=zz)/\B2 C y.op env h nid v us
def Gz(y:AI)(env:Env)(v:AV)(us:List jy):Prop:=(∃g b,y.guard=U (g,b)/\ (jk env g= .v (.bool (!b))\/jk env g= .v undef))/\v= .v undef/\us=[]
def As(C:Ctx)(n0:Nat->Prop)(y:AI)(env:Env)(h:HF)(v:AV)(nid:Nat)(us:List jy):Prop:=tf C n0 y env h v nid us\/Gz y env v us
def N_(C:Ctx)(n0:Nat->Prop)(y:AI)(env:Env)(h:HF)(v:AV)(g:HF):Prop:=
 B3 y env/\y.op.qa C.pf=zZ/\ (y.nw=zZ-> ∀a,¬n0 a->g a=h a)/\ ∃H H',h=hf H/\g=hf H'/\mZ C y.op env H (λV d=>V=v/\d=H')
def Core(C:Ctx)(n0:Nat->Prop)(y:AI)(env:Env)(h:HF)(v:AV)(H:HF):Prop:=
 (∃nid us,As C n0 y env h v nid us/\H=iB h nid us)\/N_ C n0 y env h v H
def Step(C:Ctx)(n0:Nat->Prop)(y:AI)(env:Env)(h:HF)(E:Env)(H:HF):Prop:=
 ∃v,nk E (put env y.dst v)/\Core C n0 y env h v H
theorem Kn{y:AI}{a b:Env}(h:mr y.lh a b):mr y.op.lh a b:=h.left
theorem W8{y:AI}{a b:Env}(h:mr y.lh a b){g:Nat}{w:Bool}(H:y.guard=U (g,w)):jk b g=jk a g:=by
 refine h g ?_;unfold AI.lh;simp_all
theorem Oa{y:AI}{a b:Env}(h:mr y.lh a b)(H:B3 y a):B3 y b:=by
 rcases H with H| ⟨g,w,h1,h2⟩
 .exact .inl H
 .exact .inr ⟨g,w,h1,by rw[W8 h h1];exact h2⟩
theorem Yr7{p:jA}{x:iY}(h:x∈p.iG): ∀t∈x.tmps,t∈p.lh:=by
 intro t H;cases p<;>simp only[jA.iG,mT,List.not_mem_nil,or_false]at h<;>simp only[jA.lh]
 .simp_all
 .simp_all
 .simp_all
 .simp_all
 .grind
 .grind
 .grind
 grind
theorem Ko{p:jA}{a b:Env}(h:mr p.lh a b){x:iY}(H:x∈p.iG):iC b x=iC a x:=
 lI (λt d=>h t (Yr7 H t d))
theorem W9{n0:Nat->Prop}{a b:Env}: ∀{xs:List iY},(∀x∈xs,iC b x=iC a x)->Am n0 a xs->Am n0 b xs
 | [],_,_=>trivial
 |x::r,h,H=>⟨by unfold jh;rw[h x (pM ..)];exact H.1,W9 (λy d=>h y (wD _ d)) H.2⟩
theorem Yr8{n0:Nat->Prop}{a b:Env}{p:jA}(h:mr p.lh a b)(H:An n0 a p):An n0 b p:=by
 cases p<;>try first|exact trivial|exact H.elim
 .simp only[An,jh]at H⊢;rw[Ko h (by simp[jA.iG])];exact H
 .simp only[An,jh]at H⊢;rw[Ko h (by simp[jA.iG])];exact H
 .intro x d;have:=H x d;simp only[jh]at this⊢;rw[Ko h (show x∈_ from d)];trivial
theorem EW{C:Ctx}{n0:Nat->Prop}{y:AI}{env E:Env}{h h2:HF}{v:AV}{nid:Nat}{us:List jy}(q:As C n0 y env h v nid us)(hd:y.op.deep=zj\/h2=h)(H:mr y.lh env E)
  (w:tf C n0 y env h v nid us->(∀a,ub y.op env a->h2 a=h a)/\ (y.op.news (λ_=>zZ)=zZ->h2 nid=zz)):As C n0 y E h2 v nid us:=by
 rcases q with p| ⟨⟨g,b,h1,d⟩,k⟩
 .obtain⟨K,z⟩:=w p;obtain⟨h1,d,k,A,F,B⟩:=p;exact .inl ⟨Oa H h1,λe=>W9 (λx D=>Ko (Kn H) D) (d e),λe=>Yr8 (Kn H) (k e),A,z,Yr4 hd (Kn H) K B⟩
 .exact .inr ⟨⟨g,b,h1,by rw[W8 H h1];exact d⟩,k⟩
theorem GA{C:Ctx}{n0:Nat->Prop}{y:AI}{env E:Env}{h g:HF}{v:AV}(q:N_ C n0 y env h v g)(k:mr y.lh env E):N_ C n0 y E h v g:=by
 obtain⟨h1,h2,h0,H,H',w,z,p⟩:=q;refine⟨Oa k h1,h2,h0,H,H',w,z,?_⟩;have d:=Kn k;revert p h2 d;cases y.op<;>intro p h2 d<;>first|trivial|skip
 .simp only[mZ]at h2⊢;rw[yC d];exact h2
 .simp only[mZ,jh]at h2⊢;rw[lI d.left,yC d.right];exact h2
end Go.Abs
namespace Go.Abs
open Go Go.RowKit
def DU(nid:Nat):List jy->Nat->Prop
 | [],_=>False
 | .set a _::r,b=>b=a\/DU nid r b
 | .push _::r,b=>b=nid\/DU nid r b
theorem sS{nid b:Nat}: ∀{us:List jy} {h:HF},¬DU nid us b->iB h nid us b=h b
 | [],h,_=>rfl
 | .set a o::r,h,H=>by
   simp only[DU,not_or]at H;simp only[iB];rw[sS H.2];simp[iD,H.1]
 | .push o::r,h,H=>by
   simp only[DU,not_or]at H;simp only[iB];rw[sS H.2];simp[iD,H.1]
open Classical in
theorem B4{nid b:Nat}: ∀{us:List jy} {h h2:HF},DU nid us b->iB h nid us b=iB h2 nid us b/\iB h nid us b≠zz
 | [],h,h2,hd=>hd.elim
 | .set a o::r,h,h2,hd=>by
   simp only[iB];by_cases hr:DU nid r b
   .exact B4 hr
   .have e:b=a:=hd.resolve_right hr;rw[sS hr,sS hr];simp[iD,e]
 | .push o::r,h,h2,hd=>by
   simp only[iB];by_cases hr:DU nid r b
   .exact B4 hr
   .have e:b=nid:=hd.resolve_right hr;rw[sS hr,sS hr];simp[iD,e]
theorem Yr9{N y:Nat}{us vs:List jy}{h:HF}(hd: ∀b,DU N us b->DU y vs b->False):iB (iB h N us) y vs=iB (iB h y vs) N us:=by
 funext b
 open Classical in
 by_cases h1:DU N us b
 .rw[sS (λh2=>hd b h1 h2)];exact(B4 h1).1
 .rw[sS (us:=us) h1];by_cases h2:DU y vs b
  .exact(B4 h2).1
  .rw[sS h2,sS h2,sS h1]
section
variable{C:Ctx}{n0:Nat->Prop}{x y:AI}{env:Env}{h:HF}{v:AV}{nid:Nat}{us:List jy}
theorem Ob(q:tf C n0 y env h v nid us){b:Nat}(hd:DU nid us b):
  (y.op.mK C.pf=zZ/\y.op.mb=zj/\ub y.op env b)\/(y.op.news C.pf=zZ/\b=nid/\n0 nid/\h nid=zz):=by
 obtain⟨h1,h2,A,g,k,z⟩:=q;rcases Km z with⟨rfl,_⟩| ⟨o,rfl,H⟩| ⟨a,o,rfl,_,d,_,H⟩| ⟨a,o,p,rfl,_,d,w,H⟩
 .trivial
 .simp only[DU,or_false]at hd;exact .inr ⟨yD H,hd,g,k H⟩
 .simp only[DU,or_false]at hd;subst hd;exact .inl ⟨N9 d,W6 d,H⟩
 .simp only[DU,or_false]at hd;rcases hd with rfl|rfl
  .exact .inl ⟨N9 d,W6 d,H⟩
  .exact .inr ⟨yD w,rfl,g,k w⟩
theorem Ysa(H:tf C n0 y env h v nid us)(k:y.op.news (λ_=>zZ)=zZ):DU nid us nid:=by
 obtain⟨h1,h2,q,w,z,d⟩:=H;rcases Km d with⟨rfl,g⟩| ⟨o,rfl,_⟩| ⟨a,o,rfl,_,_,g,_⟩| ⟨a,o,p,rfl,_⟩
 .simp_all
 .simp[DU]
 .simp_all
 .simp[DU]
theorem Oc(H:As C n0 y env h v nid us){b:Nat}(hd:DU nid us b):tf C n0 y env h v nid us:=by
 rcases H with d| ⟨_,_,rfl⟩
 .exact d
 trivial
theorem W_{D:Option Nat}{v:AV}{ts:List Nat}(hd: ∀d,D=U d->d∉ts):mr ts env (put env D v):=by
 intro t h;cases D with
 |none=>rfl
 |some d=>
  have:(d==t)=false:=by
   grind
  simp[put,jk,this]
theorem Od{a b:Env}(h:nk a b)(d:Option Nat)(v:AV):nk (put a d v) (put b d v):=by
 cases d with
 |none=>exact h
 |some d=>intro t;simp only[put,jk];rw[h t]
theorem Ysb{d e:Option Nat}(h: ∀k,d=U k->e≠U k)(v k:AV):nk (put (put env d v) e k) (put (put env e k) d v):=by
 cases d with
 |none=>exact nk.refl _
 |some d=>
  cases e with
  |none=>exact nk.refl _
  |some e=>
   intro t;simp only[put,jk];grind
theorem mr.of_eq{ts:List Nat}{a b:Env}(h:nk b a):mr ts a b:=λt _=>h t
theorem mr.trans{ts:List Nat}{a b c:Env}(h:mr ts a b)(k:mr ts b c):mr ts a c:=λt H=>(k t H).trans (h t H)
theorem mr.symm{ts:List Nat}{a b:Env}(h:mr ts a b):mr ts b a:=λt H=>(h t H).symm
theorem Xa{pf:Nat->Bool}(h:vT pf x y=zZ):
  (∀d,x.dst=U d->d∉y.lh/\y.dst≠U d)/\ (∀d,y.dst=U d->d∉x.lh)/\
  (x.op.qa pf=zZ->(y.op.kf=zj/\y.op.news pf=zj)\/(x.nw=zZ/\y.old=zZ/\y.op.mK pf=zj/\y.op.news pf=zj))/\
  (y.op.qa pf=zZ->(x.op.kf=zj/\x.op.news pf=zj)\/(y.nw=zZ/\x.old=zZ/\x.op.mK pf=zj/\x.op.news pf=zj))/\
  (x.op.mK pf=zZ->y.op.kf=zZ->x.nw=zZ/\y.old=zZ)/\ (y.op.mK pf=zZ->x.op.kf=zZ->y.nw=zZ/\x.old=zZ)/\
  (x.op.news pf=zZ->y.op.kf=zZ->y.old=zZ)/\ (y.op.news pf=zZ->x.op.kf=zZ->x.old=zZ\/x.op.isApp=zZ)/\x.op.deep=zj/\y.op.deep=false:=by
 unfold vT at h;rw[iI]at h;obtain⟨p,h⟩:=h;rw[iI]at h;obtain⟨H,g⟩:=h;unfold VD at H;unfold VE at g;rw[iI]at H;obtain⟨T,k⟩:=H;refine⟨λd hd=> ?_,λd hd=> ?_,?_⟩
 .simp_all
 .simp_all
 grind
theorem Ysc{p:jA}(h:p.deep=zZ):p.kf=true:=by
 cases p<;>try cases h
 rename_i X xs;cases X<;>first| (cases h;done)|rfl
theorem Xb(k:As C n0 y env h v nid us)(g:y.op.kf=zj)(H:y.op.news C.pf=zj):us=[]:=by
 rcases k with q| ⟨_,_,h⟩
 .rcases Km q.2.2.2.2.2 with⟨h,_⟩| ⟨o,_,d⟩| ⟨a,o,_,_,_,_,hd⟩| ⟨a,o,p,_,_,_,d,_⟩
  .exact h
  .rw[yD d]at H;cases H
  .rw[EU hd]at g;cases g
  .rw[yD d]at H;cases H
 trivial
theorem Ysd{p:jA}{pf:Nat->Bool}(h:p.qa pf=zZ):p.mK pf=true:=by
 cases p<;>first|rfl|exact h|cases h
theorem Xc(k:As C n0 y env h v nid us)(g:y.op.mK C.pf=zj)(d:y.op.news C.pf=zj):us=[]:=by
 rcases k with q| ⟨_,_,h⟩
 .rcases Km q.2.2.2.2.2 with⟨h,_⟩| ⟨o,_,H⟩| ⟨a,o,_,_,H,_,hd⟩| ⟨a,o,p,_,_,_,H,_⟩
  .exact h
  .rw[yD H]at d;cases d
  .rw[N9 H]at g;cases g
  .rw[yD H]at d;cases d
 trivial
theorem Xd(g:As C n0 y env h v nid us){E:Env}(k:mr y.lh env E)(H:y.op.kf=zj)(d:y.op.news C.pf=zj)(h2:HF):As C n0 y E h2 v nid us:=
 EW g (.inl (by cases q:y.op.deep with|false=>rfl|true=>rw[Ysc q]at H;cases H)) k (λ_=>⟨λa p=>(by rw[EU p]at H;cases H),λe=>(by rw[yD e]at d;cases d)⟩)
theorem Yse{p:jA}{env:Env}{h:HF}{nid:Nat}{v:AV}{us:List jy}{a:Nat}(H:B2 C p env h nid v us)(w:p.isApp=zZ)(A:ub p env a):h a≠none:=by
 cases p<;>try cases w
 rename_i es s z;have H:kA (.app es s z) env h nid (λV d=>V=v/\d=us):=H;obtain⟨x,q,k⟩:=A;have q:x=s:=by simpa[jA.iG]using q
 rw[q]at k;simp only[kA,jh]at H;have y: ∀l,mu es (iC env s) l h nid (λV d=>V=v/\d=us)->h a≠none:=λl g=>by
  unfold mu EB at g;cases B:iC env s<;>rw[B]at k g<;>first|exact g.elim|exact k.elim|skip
  obtain⟨o,D,_⟩:=g;have k:a=_:=k;rw[k,D];simp
 cases E:iC env z<;>rw[E]at H<;>first|exact H.elim|exact y _ H.2|exact y _ H
theorem Ysf{h1 h2:HF}{env1:Env}{P V:AV}(hi:vT C.pf x y=zZ)(L:mr y.lh env1 env)(z: ∀k,mr x.lh env (put env y.dst k))(q:Core C n0 x env h P h1)(d:Core C n0 y env1 h1 V h2):
  ∃h',Core C n0 y env h V h'/\Core C n0 x (put env y.dst V) h' P h2:=by
 obtain⟨_,_,i1,i2,i3,i4,i5,i6,i7,i8⟩:=Xa hi;rcases q with⟨N,p,q,rfl⟩|q
 .rcases d with⟨A,w,d,rfl⟩|d
  .have F1: ∀a,tf C n0 y env1 (iB h N p) V A w->ub y.op env1 a-> ¬DU N p a:=by
    intro a g H hd;have M:=Oc q hd;rcases Ob M hd with⟨e,R,E⟩| ⟨e,rfl,F,_⟩
    .obtain⟨S,T⟩:=i3 e (EU H);exact EV (g.2.1 T) H (W7 (M.2.2.1 S) R E)
    .exact EV (g.2.1 (i5 e (EU H))) H F
   have F2: ∀a,tf C n0 x env h P N p->ub x.op env a-> ¬DU A w a:=by
    intro a g H hd;have B:=Oc d hd;rcases Ob B hd with⟨e,R,E⟩| ⟨e,rfl,F,G⟩
    .obtain⟨S,T⟩:=i4 e (EU H);exact EV (g.2.1 T) H (W7 (B.2.2.1 S) R E)
    .rcases i6 e (EU H)with W|W
     .exact EV (g.2.1 W) H F
     .have X:=Yse g.2.2.2.2.2 W H
      open Classical in
      by_cases O:DU N p a
      .exact(B4 (h2:=h) O).2 G
      .rw[sS O]at G;exact X G
   have FD: ∀b,DU N p b->DU A w b->False:=by
    intro b h1 h2;have B:=Oc d h2;rcases Ob B h2 with⟨e,_,H⟩| ⟨e,rfl,_,hf⟩
    .simp_all
    .exact(B4 (h2:=h) h1).2 hf
   refine⟨iB h A w,.inl ⟨A,w,EW d (.inl i8) L (λg=>⟨λa I=>(sS (F1 a g I)).symm,λe=> ?_⟩),rfl⟩,
    .inl ⟨N,p,EW q (.inl i7) (z V) (λg=>⟨λa I=>sS (F2 a g I),λe=> ?_⟩),Yr9 FD⟩⟩
   .have H:=g.2.2.2.2.1 e
    open Classical in
    by_cases hd:DU N p A
    .exact absurd H (B4 (h2:=h) hd).2
    .rwa[sS hd]at H
   .rw[sS (λhd=>FD N (Ysa g e) hd)];exact g.2.2.2.2.1 e
  .rcases i2 d.2.1 with⟨D,H⟩| ⟨Y,Z,K,Q⟩
   .have J:=Xb q D H;subst J;exact⟨h2,.inr (GA d L),.inl ⟨N,[],Xd q (z V) D H h2,rfl⟩⟩
   .have J:=Xc q K Q;subst J;exact⟨h2,.inr (GA d L),.inl ⟨N,[],EW q (.inl i7) (z V) (λg=>⟨λa I=>d.2.2.1 Y a (EV (g.2.1 Z) I),λe=>by rw[yD e]at Q;cases Q⟩),rfl⟩⟩
 .rcases d with⟨A,w,d,rfl⟩|d
  .rcases i1 q.2.1 with⟨D,H⟩| ⟨Y,Z,K,Q⟩
   .have J:=Xb d D H;subst J;exact⟨h,.inl ⟨A,[],Xd d L D H h,rfl⟩,.inr (GA q (z V))⟩
   .have J:=Xc d K Q;subst J;exact⟨h,.inl ⟨A,[],EW d (.inl i8) L (λg=>⟨λa I=>(q.2.2.1 Y a (EV (g.2.1 Z) I)).symm,λe=>by rw[yD e]at Q;cases Q⟩),rfl⟩,.inr (GA q (z V))⟩
  .rcases i1 q.2.1 with⟨D,H⟩| ⟨_,_,K,_⟩
   .rw[Yr6 d.2.1]at D;cases D
   .rw[Ysd d.2.1]at K;cases K
theorem Ysg{h1 h2:HF}{env1 E:Env}(q:vT C.pf x y=zZ)(g:Step C n0 x env h env1 h1)(p:Step C n0 y env1 h1 E h2):
  ∃e H,Step C n0 y env h e H/\Step C n0 x e H E h2:=by
 obtain⟨S,A,_⟩:=Xa q;obtain⟨w,z,g⟩:=g;obtain⟨V,B,p⟩:=p;obtain⟨H,K,D⟩:=Ysf q (env:=env) (env1:=env1) ((mr.of_eq z).symm.symm.symm.trans (W_ (λd hd=>(S d hd).1)).symm) (λ_=>W_ (λd hd=>A d hd)) g p;refine⟨put env y.dst V,H,⟨V,nk.refl _,K⟩,w,?_,D⟩;exact B.trans ((Od z y.dst V).trans (Ysb (λk F=>(S k F).2) w V))
theorem Ysh{E:Env}{H:HF}(g:Core C n0 y env h v H)(k:nk env E):Core C n0 y E h v H:=by
 have d: ∀ts,mr ts env E:=λts=>mr.of_eq k.symm;rcases g with⟨nid,us,p,e⟩|w
 .exact .inl ⟨nid,us,EW p (.inr rfl) (d _) (λq=>⟨λa _=>rfl,q.2.2.2.2.1⟩),e⟩
 .exact .inr (GA w (d _))
def qZ(C:Ctx)(n0:Nat->Prop)(F:Env->HF->Prop):List AI->Env->HF->Prop
 | [],env,h=>F env h
 |y::r,env,h=> ∃E H,Step C n0 y env h E H/\qZ C n0 F r E H
theorem Oe{F:Env->HF->Prop}: ∀{xs:List AI} {r:List AI} {env:Env} {h:HF},(∀x∈xs,vT C.pf x y=zZ)->qZ C n0 F (xs++y::r) env h->qZ C n0 F (y::(xs++r)) env h
 | [],r,env,h,_,H=>H
 |x::xs,r,env,h,d,H=>by
  obtain⟨G,h1,k,K⟩:=H;obtain⟨E,h2,g,p⟩:=Oe (λz q=>d z (wD _ q)) K;obtain⟨w,A,B,D⟩:=Ysg (d x (pM ..)) k g;exact⟨w,A,B,E,h2,D,p⟩
end
end Go.Abs
namespace Go.Abs
open Go Go.RowKit
section
variable{C:Ctx}
theorem Og: ∀(us:List jy) (H:ic),H.length<=(rI H us).length
 | [],H=>jG _
 | .set a o::r,H=>by
   simp only[rI,Ez];exact nu (by simp) (Og r _)
 | .push o::r,H=>by
   simp only[rI,Ez];exact nu (by simp) (Og r _)
theorem Ysi{O:jA}{env:Env}{H:ic}{K:AV->ic->Prop}(h:mZ C O env H K):
  ∃v H',K v H'/\H.length<=H'.length/\ ((∃us,B2 C O env (hf H) H.length v us/\hf H'=iB (hf H) H.length us)\/(O.qa C.pf=zZ/\mZ C O env H (λV F=>V=v/\F=H'))):=by
 have P:kA O env (hf H) H.length (λv us=>K v (rI H us))-> ∃v us,K v (rI H us)/\kA O env (hf H) H.length (λV G=>V=v/\G=us)/\oF (hf H) us:=by
  intro h;obtain⟨v,us,⟨h1,h2⟩,k⟩:=WW _ _ _ _ _ (WI h);grind
 cases O
 case call f args=>
  rcases h with⟨g,D,A,r,h1,h2,k,p,q⟩| ⟨g,A,E,r,H',k,w,p,B,q⟩
  .exact⟨r,H,q,jG _,.inl ⟨[],⟨g,rfl,D,A,h1,h2,k,p⟩,rfl⟩⟩
  .exact⟨r,H',q,B,.inr ⟨by simp[jA.qa,g],.inr ⟨g,A,E,r,H',k,w,p,B,rfl,rfl⟩⟩⟩
 case dyn x args=>
  obtain⟨f,cs,e,h⟩:=h;rcases h with⟨g,D,A,r,h1,h2,k,p,q⟩| ⟨g,A,E,r,H',k,w,p,B,q⟩
  .exact⟨r,H,q,jG _,.inr ⟨rfl,f,cs,e,.inl ⟨g,D,A,r,h1,h2,k,p,rfl,rfl⟩⟩⟩
  .exact⟨r,H',q,B,.inr ⟨rfl,f,cs,e,.inr ⟨g,A,E,r,H',k,w,p,B,rfl,rfl⟩⟩⟩
 case dynP x args=>
  obtain⟨f,cs,e,g,h⟩:=h;rcases h with⟨g,D,A,r,h1,h2,k,p,q⟩| ⟨I,A,E,r,H',k,w,p,B,q⟩
  .exact⟨r,H,q,jG _,.inl ⟨[],⟨f,cs,e,g,rfl,D,A,h1,h2,k,p⟩,rfl⟩⟩
  simp_all
 case callN f args d=>
  obtain⟨y,z,o,len,h1,h2,k,p,J,q⟩:=h;refine⟨_,_,q,by simp,.inl ⟨[.push (ED d o)],⟨y,z,o,len,h1,h2,k,p,J,rfl,rfl⟩,?_⟩⟩;exact lH.symm
 all_goals
  obtain⟨v,us,h1,h2,k⟩:=P h;exact⟨v,_,h1,Og _ _,.inl ⟨us,h2,(WJ k).symm⟩⟩
theorem Kq{env:Env}{g:Nat}{b:Bool}(h:jk env g= .v (.bool b)):nk ((g,.v (.bool b))::env) env:=by
 intro t;simp only[jk];grind
theorem GB{n0:Nat->Prop}{K:jI->Prop}: ∀(ys:List AI) (st:jI),(∀a,st.heap.length<=a->n0 a)->qy C n0 ys K st->
  qZ C n0 (λenv h=> ∃S,K S/\nk S.env env/\h=hf S.heap/\S.base=st.base) ys st.env (hf st.heap)
 | [],st,_,k=>⟨st,k,nk.refl _,rfl,rfl⟩
 |y::r,⟨env,H,B⟩,F,k=>by
  obtain⟨d,O,G,old,N⟩:=y;have R: ∀E,nk E env->B3 ⟨d,O,G,old,N⟩ env->yx C n0 old N O E H (λv H'=>qy C n0 r K ⟨put E d v,H',B⟩)->
    qZ C n0 (λenv h=> ∃S,K S/\nk S.env env/\h=hf S.heap/\S.base=B) (⟨d,O,G,old,N⟩::r) env (hf H):=by
   intro E z I k;obtain⟨Q,J,k⟩:=k;obtain⟨v,H',⟨L,M⟩,P,T⟩:=Ysi k;have A:B3 ⟨d,O,G,old,N⟩ E:=Oa (mr.of_eq z) I;have D:Core C n0 ⟨d,O,G,old,N⟩ E (hf H) v (hf H'):=by
    rcases T with⟨us,h1,h2⟩| ⟨h1,h2⟩
    .exact .inl ⟨H.length,us,.inl ⟨A,Q,J,F _ (jG _),λ_=>by simp[hf],h1⟩,h2⟩
    .refine .inr ⟨A,h1,λe=>L e ?_,H,H',rfl,rfl,h2⟩;revert h1 J;cases O<;>intro h1 J<;>first|rfl|trivial|trivial
   refine⟨put E d v,hf H',⟨v,Od z _ _,Ysh D z⟩,?_⟩;exact GB r ⟨put E d v,H',B⟩ (λa V=>F a (nu P V)) M
  have q: ∀E g b,nk E env->G=U (g,b)->(jk env g= .v (.bool (!b))\/jk env g= .v undef)->qy C n0 r K ⟨put E d (.v undef),H,B⟩->
    qZ C n0 (λenv h=> ∃S,K S/\nk S.env env/\h=hf S.heap/\S.base=B) (⟨d,O,G,old,N⟩::r) env (hf H):=by
   intro E g b z I W M;refine⟨put E d (.v undef),hf H,⟨.v undef,Od z _ _,.inl ⟨0,[],.inr ⟨⟨g,b,I,W⟩,rfl,rfl⟩,rfl⟩⟩,?_⟩;exact GB r ⟨put E d (.v undef),H,B⟩ F M
  match G with
  |none=>exact R env (nk.refl _) (.inl rfl) k
  |some (g,zZ)=>
   rcases k with⟨b,w,k⟩| ⟨w,k⟩
   case inr=>exact q _ g zZ (nk.refl _) rfl (.inr w) k
   have p:jk env g= .v (.bool b):=w;cases b with
   |true=>exact R _ (Kq p) (.inr ⟨g,zZ,rfl,p⟩) (k.1 rfl)
   |false=>exact q _ g zZ (Kq p) rfl (.inl p) (k.2 rfl)
  |some (g,zj)=>
   rcases k with⟨b,w,k⟩| ⟨w,k⟩
   case inr=>exact q _ g zj (nk.refl _) rfl (.inr w) k
   have p:jk env g= .v (.bool b):=w;cases b with
   |true=>exact q _ g zj (Kq p) rfl (.inl p) (k.1 rfl)
   |false=>exact R _ (Kq p) (.inr ⟨g,zj,rfl,p⟩) (k.2 rfl)
end
structure sj(fm:FM)(n:Nat)(w0:World)(L0:Nat->Loc)(env:Env)(h:HF)(a:Act)(w:World):Prop where
 defers:a.defers=[]
 size:a.tmps.size=n
 fin: ∃N,∀b,N<=b->h b=zz
 rel: ∃L,iv L0 w0 w/\hY L0 L w0.heap.size/\HR fm w L h/\ER fm w L a env
theorem Oh{nid:Nat}: ∀(us:List jy) (h:HF),(∃N,∀b,N<=b->h b=zz)-> ∃N,∀b,N<=b->iB h nid us b=zz
 | [],h,H=>H
 | .set a o::r,h,⟨N,d⟩=>Oh r _ ⟨max N (a+1),λb g=>by
   have:b≠a:=by omega
   simp[iD,this];grind⟩
 | .push o::r,h,⟨N,d⟩=>Oh r _ ⟨max N (nid+1),λb g=>by
   have:b≠nid:=by omega
   simp[iD,this];grind⟩
def wM(x y:AI):Prop:=y.dst=x.dst/\y.guard=x.guard/\
 (y.op=x.op\/(∃g n z,x.op= .load g n z/\y.op= .loadR g n z)\/(∃z as,x.op= .dyn z as/\y.op= .dynP z as)\/(∃z as d,x.op= .call z as/\y.op= .callN z as d))
section
variable{P:Program}{fm:FM}{w:World}{n:Nat}{w0:World}{L0:Nat->Loc}
theorem sj.step{env:Env}{h:HF}{a:Act}(p:sj fm n w0 L0 env h a w){E:Env}{H:HF}{d L:Nat->Loc}{w':World}{A:Act}(hd:A.defers=a.defers)(z:A.tmps.size=a.tmps.size)
  (g: ∃N,∀b,N<=b->H b=zz) (h1:iv L0 w0 w/\hY L0 d w0.heap.size) (q:iv d w w') (k:hY d L w.heap.size) (y:HR fm w' L H) (B:ER fm w' L A E):
  sj fm n w0 L0 E H A w':=
 ⟨hd.trans p.defers,z.trans p.size,g,L,h1.1.trans h1.2 q,h1.2.trans (k.mono h1.1.size),y,B⟩
theorem EX{L:Nat->Loc}{a:Act}{e e':Env}(h:ER fm w L a e)(H:nk e' e):ER fm w L a e':=λt=>by rw[H t];exact h t
theorem Ysj{P:Program}{fm:FM}{w:World}{L:Nat->Loc}{C:Ctx}(y:jq P fm C){f:FuncId}{h:HF}(B:HR fm w L h){vs:Array Value}{args A g:List AV}{o:iu}{len nid:Nat}(D:h nid=zz){d:Bool}(hd:d=zZ->len=o.el.length)(z:vs.size=args.length)
  (H: ∀j a,args[j]?=U a->VR fm w L (vs.getD j undef) a) (E:jX (vQ h) args A) (p:A=args\/EE o) (q:jX Coe A g) (F:Ge C (fm f) g o len):
  kB P f=zZ/\Calls P f vs w λe w'=> ∃v k,e= .returned v/\iv L w w'/\hY L k w.heap.size/\HR fm w' k (iB h nid [.push (ED d o)])/\VR fm w' k v (J0 d o nid len):=by
 obtain⟨h1,h2⟩:=YrP y B D z H E p q F;refine⟨h1,?_⟩;cases d with
 |false=>exact h2
 |true=>
  refine h2.mono ?_;rintro e w' ⟨v,k,rfl,G,I,J,K⟩;rw[hd rfl]at K;obtain⟨M,N,O,Q,R⟩:=V6 (us:=[]) ⟨k,G,I,J,K⟩;exact⟨v,M,rfl,N,O,Q,R⟩
theorem Ysk{C:Ctx}(hC:jq P fm C){o:Oper}{O E:jA}(k:lU P fm o=U O)
  (H:E=O\/(∃g n z,O= .load g n z/\E= .loadR g n z)\/(∃z as,O= .dyn z as/\E= .dynP z as)\/(∃z as d,O= .call z as/\E= .callN z as d)) {env:Env} {h:HF} {nid:Nat} {v:AV} {us:List jy} {a:Act} {L:Nat->Loc}
  (M:HR fm w L h) (K:ER fm w L a env) (R: ∃N,∀b,N<=b->h b=zz) (hn:E.news (λ_=>zZ)=zZ->h nid=zz) (q:B2 C E env h nid v us) {Q:Exit->Act->World->Prop}:
  o.wp P a w (λa' w'=> ∃x y,a'=a.put o.dst x/\iv L w w'/\hY L y w.heap.size/\HR fm w' y (iB h nid us)/\VR fm w' y x v) Q:=by
 have p: ∀A,lU P fm o=U A->A.news (λ_=>zZ)=E.news (λ_=>zZ)->kA A env h nid (λV B=>V=v/\B=us)->
   o.wp P a w (λa' w'=> ∃x y,a'=a.put o.dst x/\iv L w w'/\hY L y w.heap.size/\HR fm w' y (iB h nid us)/\VR fm w' y x v) Q:=by
  intro A S a8 F;cases T:A.news (λ_=>zZ)with
  |true=>
   obtain⟨x,V,B,w',h1,⟨rfl,rfl⟩,y,h4,h5,Z,h7⟩:=NZ S M K (hn (by simp_all)) F;exact Gt h1 ⟨x,y,rfl,h4,h5,Z,h7⟩
  |false=>
   obtain⟨N,hN⟩:=R;have G:iB h N us=iB h nid us:=by
    rcases WX F with⟨rfl,_⟩| ⟨_,_,e⟩| ⟨a,o,rfl,_⟩| ⟨_,_,_,_,_,_,e,_⟩
    .rfl
    .simp_all
    .rfl
    simp_all
   obtain⟨x,V,B,w',h1,⟨rfl,rfl⟩,y,h4,h5,Z,h7⟩:=NZ S M K (hN N (jG _)) (Yr3 N T F);rw[G]at Z;exact Gt h1 ⟨x,y,rfl,h4,h5,Z,h7⟩
 cases E
 case call g args=>
  have e0:O= .call g args:=by
   simp_all
  subst e0;obtain⟨f,xs,W,X,h0,rfl,rfl⟩:=N4 k;obtain⟨I,rfl,a1,a2,T,J,D,hc⟩:=q;obtain⟨h1,h2⟩:=N2 hC I M (vs:=(xs.toList.map a.eval).toArray) (by simp) (Gv K xs.toList) T J D hc;refine Gw (f:=f) (vs:=(xs.toList.map a.eval).toArray) ?_ (h2.mono ?_)
  .have e3:(xs.map a.eval)=(xs.toList.map a.eval).toArray:=by grind
   unfold execOp;simp[X,resolve,Deferred.ofValue,Act.eval,invoke];rw[Gu h1];simp_all
  .rintro e w' ⟨x,rfl,k1,k2,k3⟩;exact⟨x,rfl,x,L,rfl,k1,hY.refl _ _,k2,k3⟩
 case dynP x args=>
  have e0:O= .dyn x args:=by
   rcases H with H| ⟨_,_,_,_,H⟩| ⟨_,_,h1,H⟩| ⟨_,_,_,_,H⟩
   .subst H;exact(WN k).elim
   .cases H
   .simp_all
   trivial
  subst e0;obtain⟨t,xs,W,X,rfl,rfl⟩:=WM k;obtain⟨g,cs,e,I,rfl,a1,a2,T,J,D,hc⟩:=q;have hx:=ky K (.tmp t);simp only[jK]at hx;rw[show iC env (.t t)= .clo g cs from e]at hx;obtain⟨f,ys,ex,a4,a9,a7⟩:=Gm hx;subst a4;have e3:(xs.map a.eval)++ys=((xs.toList.map a.eval)++ys.toList).toArray:=by simp
  obtain⟨h1,h2⟩:=N2 hC I M (vs:=((xs.toList.map a.eval)++ys.toList).toArray) (by grind) (λj c hj=>by
   by_cases aa:j<xs.toList.length
   .rw[ld (by simp_all)]at hj;rw[Gk (by simp_all)];have:=Gv K xs.toList j c hj;simp_all
   .rw[nF (by simp_all)]at hj;obtain⟨m,hm⟩: ∃m,j=(xs.toList.map a.eval).length+m:=⟨j-(xs.toList.map a.eval).length,by simp_all⟩;subst hm;rw[J_];simp_all) T J D hc
  refine Gw (f:=f) (vs:=((xs.toList.map a.eval)++ys.toList).toArray) ?_ (h2.mono ?_)
  .unfold execOp;simp[X,resolve,ex,Deferred.ofValue,invoke];rw[Gu h1];simp
  .rintro e w' ⟨x,rfl,k1,k2,k3⟩;exact⟨x,rfl,x,L,rfl,k1,hY.refl _ _,k2,k3⟩
 case dyn=>trivial
 case callN g args d=>
  have e0:O= .call g args:=by
   rcases H with H| ⟨_,_,_,_,H⟩| ⟨_,_,_,H⟩| ⟨_,_,_,h1,H⟩
   .subst H;exact(WO k).elim
   .cases H
   .cases H
   simp_all
  subst e0;obtain⟨f,xs,W,X,h0,rfl,rfl⟩:=N4 k;obtain⟨a0,a3,o',len,a5,a6,D,hm,hd,rfl,rfl⟩:=q;obtain⟨h1,h2⟩:=Ysj hC M (nid:=nid) (hn rfl) hd (vs:=(xs.toList.map a.eval).toArray) (by simp) (Gv K xs.toList) a5 a6 D hm;refine Gw (f:=f) (vs:=(xs.toList.map a.eval).toArray) ?_ (h2.mono ?_)
  .have e3:(xs.map a.eval)=(xs.toList.map a.eval).toArray:=by grind
   unfold execOp;simp[X,resolve,Deferred.ofValue,Act.eval,invoke];rw[Gu h1];simp_all
  grind
 case loadR g n z=>
  rcases H with H| ⟨g',n',z',h1,H⟩| ⟨_,_,_,H⟩| ⟨_,_,_,_,H⟩
  .subst H;exact p _ k rfl q
  .injection H with e1 e2 e3;subst e1;subst e2;subst e3
   subst h1;refine p _ k rfl ?_;have Y:kA (.loadR g n z) env h nid (λV B=>V=v/\B=us):=q;simp only[kA,jh]at Y⊢;grind
  .cases H
  trivial
 all_goals
  rcases H with H| ⟨_,_,_,_,H⟩| ⟨_,_,_,H⟩| ⟨_,_,_,_,H⟩
  .exact p _ (H▸k) rfl q
  .cases H
  .cases H
  .cases H
theorem Oi{C:Ctx}(hC:jq P fm C){ops:Array Oper}{o:Oper}{x y:AI}(Y:nK P fm n ops o=U x)(hv:wM x y){n0:Nat->Prop}{env E:Env}{h Z:HF}{a:Act}
  (D:sj fm n w0 L0 env h a w) (a1:Step C n0 y env h E Z) {Q:Exit->Act->World->Prop}:
  (Region.wanted o (yielded ops a.tmps)=zZ->o.wp P a w (λa' w'=>sj fm n w0 L0 E Z a' w') Q)/\
  (Region.wanted o (yielded ops a.tmps)=zj->sj fm n w0 L0 E Z (a.put o.dst undef) w):=by
 obtain⟨M,N,a9,_,_,hg⟩:=N5 Y;obtain⟨vd,vg,V⟩:=hv;obtain⟨v,F,a2⟩:=a1;obtain⟨L1,I,J,K,p⟩:=D.rel;have a3:y.dst=o.dst:=vd.trans N;rw[a3]at F;have q: ∀k,o.dst=U k->k<a.tmps.size:=λk hk=>by rw[D.size];simp_all
 have a0: ∀g w,y.guard=U (g,w)-> ∀b,jk env g= .v (.bool b)->Region.wanted o (yielded ops a.tmps)=(b==w):=by
  intro g wt d b O;rw[vg]at d;rcases hg with⟨_,A⟩| ⟨j,W,X,B,A,a4,G⟩
  .simp_all
  .rw[G]at d;injection d with d;injection d with e1 e2;subst e1;subst e2
   have h1:=p X;rw[O]at h1;have h2:=WR A (by rw[D.size];omega) (kI h1);simp only[Region.wanted,B,h2];rfl
 have aa: ∀g w,y.guard=U (g,w)->jk env g= .v undef->Region.wanted o (yielded ops a.tmps)=false:=by
  intro g wt d O;rw[vg]at d;rcases hg with⟨_,A⟩| ⟨j,W,X,B,A,a4,G⟩
  .simp_all
  .rw[G]at d;injection d with d;injection d with e1 e2;subst e1;subst e2
   have h1:=p X;rw[O]at h1;have h2:=WS A (by rw[D.size];omega) (kI h1);simp only[Region.wanted,B,h2];rfl
 have R:B3 y env->Region.wanted o (yielded ops a.tmps)=true:=by
  rintro(h1| ⟨g,b,h1,h2⟩)
  .rcases hg with⟨B,_⟩| ⟨j,W,X,_,_,_,G⟩
   .simp[Region.wanted,B]
   simp_all
  grind
 rcases a2 with⟨nid,us,a5| ⟨⟨g,b,h1,h2⟩,rfl,rfl⟩,rfl⟩|hw
 .obtain⟨k1,_,_,_,k5,k6⟩:=a5;have a6:=R k1;refine⟨λ_=> ?_,λh=>by simp_all⟩;refine Oper.wp_mono ?_ (Ysk hC M V K p D.fin k5 k6);rintro a' w' ⟨x',L',rfl,S,T,j3,j4⟩;exact D.step (ES _ _ _) (EP _ _ _) (Oh us h D.fin) ⟨I,J⟩ S T j3 (EX (mU (λt=>(p t).mono S T) q j4) F)
 .have ab:Region.wanted o (yielded ops a.tmps)=false:=by
   grind
  refine⟨λh=>(by simp_all),λ_=> ?_⟩;exact D.step (ES _ _ _) (EP _ _ _) D.fin ⟨I,J⟩ (iv.refl _ _) (hY.refl _ _) K (EX (mU p q (.v _)) F)
 .obtain⟨k1,L,_,H,H',rfl,rfl,k3⟩:=hw;have a6:=R k1;refine⟨λ_=> ?_,λh=>by simp_all⟩;have a7:y.op=x.op:=by
   rcases V with V| ⟨g,n,z,_,V⟩| ⟨z,as,_,V⟩| ⟨z,as,_,_,V⟩
   .exact V
   .rw[V]at L;cases L
   .rw[V]at L;cases L
   .rw[V]at L;cases L
  rw[a7]at k3;refine Oper.wp_mono ?_ (WQ hC M K p k3);rintro a' w' ⟨x',v',a8,L',rfl,⟨rfl,rfl⟩,S,T,j3,j4⟩;exact D.step (ES _ _ _) (EP _ _ _) ⟨a8.length,λb O=>qb O⟩ ⟨I,J⟩ S T j3 (EX (mU (λt=>(p t).mono S T) q j4) F)
end
end Go.Abs
namespace Go.Abs
open Go Go.RowKit
theorem GC{α β:Type}{f:α->Option β}: ∀{l:List α} {r:List β},pg f l=U r->r.length=l.length/\ ∀(i:Nat) (x:α),l[i]?=U x-> ∃y,r[i]?=U y/\f x=U y
 | [],r,h=>by simp[pg]at h;simp_all
 |a::l,r,h=>by
  obtain⟨y,z,h1,h2,rfl⟩:=ET h;obtain⟨k,K⟩:=GC h2;grind
def uc(o:Oper)(A:List Nat):Nat:=o.after.toList.foldl (λs e=>if Region.binds .any e then s|||2^e.on|||A.getD e.on 0 else s) 0
theorem Xe: ∀(os:List Oper) (A:List Nat),∃B,ko os A=A++B/\B.length=os.length/\ ∀(i:Nat) (o:Oper),os[i]?=U o->B[i]?=U (uc o ((A++B).take (A.length+i)))
 | [],A=>⟨[],by simp[ko],rfl,λi o h=>by simp at h⟩
 |o::r,A=>by
  obtain⟨B,h1,h2,d⟩:=Xe r (A++[uc o A]);refine⟨uc o A::B,by simp only[ko];rw[show(o.after.toList.foldl (λs e=>if Region.binds .any e then s|||2^e.on|||A.getD e.on 0 else s) 0)=uc o A from rfl,h1];simp,by simp[h2],λi p H=> ?_⟩;cases i with
  |zero=>simp at H;subst H;simp
  |succ i=>
   have:=d i p (by simpa using H);simp;rw[this];congr 2;simp[Nat.add_assoc,Nat.add_comm 1 i]
theorem Xf{A:List Nat}{k:Nat}: ∀(es:List Edge) (s:Nat),Nat.testBit (es.foldl (λs e=>if Region.binds .any e then s|||2^e.on|||A.getD e.on 0 else s) s) k=zZ->
  Nat.testBit s k=zZ\/ ∃e∈es,Region.binds .any e=zZ/\ (e.on=k\/Nat.testBit (A.getD e.on 0) k=zZ)
 | [],s,h=>.inl h
 |e::r,s,h=>by
  rcases Xf r _ h with h| ⟨e',H,h⟩
  .grind
  grind
theorem Xg{os:List Oper}{i k:Nat}(h:Nat.testBit ((ko os []).getD i 0) k=zZ):
  ∃o,os[i]?=U o/\ ∃e∈o.after.toList,Region.binds .any e=zZ/\ (e.on=k\/Nat.testBit ((ko os []).getD e.on 0) k=zZ):=by
 obtain⟨B,h1,h2,H⟩:=Xe os [];simp at h1 H;rw[h1]at h;cases d:os[i]? with
 |none=>
  simp_all
 |some o=>
  refine⟨o,rfl,?_⟩;rw[List.getD,H i o d]at h;rcases Xf _ _ h with h| ⟨e,g,p,h⟩
  .grind
  grind
theorem Oj: ∀(os:List Oper) (i:Nat),wH os i=zZ-> ∀(k:Nat) (o:Oper),os[k]?=U o-> ∀e∈o.after.toList,Region.binds .any e=zZ->e.on<i+k
 | [],i,_,k,o,H=>by trivial
 |p::r,i,h,k,o,H=>by
  simp only[wH,iI]at h;intro e d g;cases k with
  |zero=>
   grind
  |succ k=>have:=Oj r (i+1) h.2 k o (by trivial) e d g;omega
theorem Xi(pf:Nat->Bool)(an:List Nat)(i:Nat)(x:AI): ∀(l:List (AI×Nat)) (s:AI),(s.dst=x.dst/\s.op=x.op/\s.guard=x.guard)->
  let r:=l.foldl (λ(s:AI) (p:AI×Nat)=>
   if p.2=i then s
   else if(an.getD (max i p.2) 0).testBit (min i p.2)then s
   else let m:=EI pf (js p.2 i) x p.1;{s with old:=s.old||m.1,nw:=s.nw||m.2}) s
  r.dst=x.dst/\r.op=x.op/\r.guard=x.guard
 | [],s,h=>h
 |p::l,s,h=>by
  refine Xi pf an i x l _ ?_;grind
theorem Xj{pf:Nat->Bool}{an:List Nat}{is:List AI}:(sg pf an is).length=is.length/\ ∀(i:Nat) (y:AI),(sg pf an is)[i]?=U y-> ∃x,is[i]?=U x/\y.dst=x.dst/\y.op=x.op/\y.guard=x.guard:=by
 refine⟨by simp[sg],λi y h=> ?_⟩;simp only[sg,jt,List.getElem?_zipIdx]at h;cases H:is[i]? with
 |none=>simp_all
 |some x=>
  simp[H]at h;refine⟨x,rfl,?_⟩;subst h;exact Xi pf an i x _ x ⟨rfl,rfl,rfl⟩
theorem Ysl{pf:Nat->Bool}{an:List Nat}{is:List AI}:(EJ pf an is).length=is.length/\ ∀(i:Nat) (y:AI),(EJ pf an is)[i]?=U y-> ∃x,is[i]?=U x/\y.dst=x.dst/\y.op=x.op/\y.guard=x.guard:=by
 obtain⟨M,d⟩:=Xj (pf:=pf) (an:=an) (is:=is);refine⟨by unfold EJ;simp_all,λi y h=> ?_⟩;unfold EJ at h;grind
theorem Kr{pf:Nat->Bool}{mk:Bool}{dd:Nat->Bool}{an:List Nat}{is ys:List AI}(h:yz pf mk dd an is=U ys):
  yy pf an ys=zZ/\ys.length=is.length/\ ∀(i:Nat) (y:AI),ys[i]?=U y-> ∃x,is[i]?=U x/\wM x y:=by
 have R: ∀(i:Nat) (y:AI),(readOnly is)[i]?=U y-> ∃x,is[i]?=U x/\wM x y:=by
  intro i y H;simp only[readOnly,jt]at H;cases d:is[i]? with
  |none=>simp_all
  |some x=>
   simp[d]at H;refine⟨x,rfl,?_⟩;subst H;split
   .rename_i g n z e;exact⟨rfl,rfl,.inr (.inl ⟨g,n,z,e,rfl⟩)⟩
   .exact⟨rfl,rfl,.inl rfl⟩
 have P: ∀(i:Nat) (y:AI),(Gh is)[i]?=U y-> ∃x,is[i]?=U x/\wM x y:=by
  intro i y H;simp only[Gh,jt]at H;cases d:is[i]? with
  |none=>simp_all
  |some x=>
   simp[d]at H;refine⟨x,rfl,?_⟩;subst H;split
   .rename_i z as e;exact⟨rfl,rfl,.inr (.inr (.inl ⟨z,as,e,rfl⟩))⟩
   .exact⟨rfl,rfl,.inl rfl⟩
 have A: ∀(i:Nat) (y:AI),(tZ pf dd is)[i]?=U y-> ∃x,is[i]?=U x/\wM x y:=by
  intro i y H;simp only[tZ,jt]at H;cases d:is[i]? with
  |none=>simp_all
  |some x=>
   simp[d]at H;refine⟨x,rfl,?_⟩;subst H;split
   .rename_i z as e;split
    .exact⟨rfl,rfl,.inl rfl⟩
    .exact⟨rfl,rfl,.inr (.inr (.inr ⟨z,as,_,e,rfl⟩))⟩
   .exact⟨rfl,rfl,.inl rfl⟩
 have M: ∀J:List AI,J.length=is.length->(∀(i:Nat) (y:AI),J[i]?=U y-> ∃x,is[i]?=U x/\wM x y)->(sg pf an J).length=is.length/\
   ∀(i:Nat) (y:AI),(sg pf an J)[i]?=U y-> ∃x,is[i]?=U x/\wM x y:=by
  intro J C D;obtain⟨p,q⟩:=Xj (pf:=pf) (an:=an) (is:=J);refine⟨p.trans C,λi y H=> ?_⟩;obtain⟨x,d,E,B,w⟩:=q i y H;obtain⟨z,F,G,I,K⟩:=D i x d;exact⟨z,F,E.trans G,w.trans I,by simp_all⟩
 unfold yz at h;split at h
 .cases h
 split at h
 .rename_i k;rw[iI]at k;injection h with h;subst h;exact⟨k.2,M _ (by simp[tZ]) A⟩
 split at h
 .rename_i k;injection h with h;subst h;exact⟨k,rfl,λi y H=>⟨y,H,rfl,rfl,.inl rfl⟩⟩
 split at h
 .rename_i k;injection h with h;subst h;exact⟨k,M _ rfl (λi y H=>⟨y,H,rfl,rfl,.inl rfl⟩)⟩
 split at h
 .rename_i k;rw[iI]at k;injection h with h;subst h
  obtain⟨p,q⟩:=Ysl (pf:=pf) (an:=an) (is:=is);exact⟨k.2,p,λi y H=>by obtain⟨x,d,E,B,w⟩:=q i y H;exact⟨x,d,E,w,.inl B⟩⟩
 split at h
 .rename_i k;injection h with h;subst h;exact⟨k,M _ (by simp[readOnly]) R⟩
 split at h
 .rename_i k;injection h with h;subst h;exact⟨k,M _ (by simp[Gh]) P⟩
 split at h
 .rename_i k;injection h with h;subst h;exact⟨k,M _ (by simp[tZ]) A⟩
 trivial
def rem(m:Nat)(listed:Array Bool):List Nat:=(List.range m).filter λi=> !listed.getD i zZ
theorem Xk{m:Nat}{listed:Array Bool}(h:listed.size=m){i:Nat}(k:i<m)(p:listed.getD i zZ=zj):
  ∃R d,rem m listed=R++i::d/\rem m (listed.setIfInBounds i zZ)=R++d/\ (∀j∈R,j<i/\listed.getD j zZ=zj):=by
 have H:List.range m=List.range i++i::List.range' (i+1) (m-i-1):=by
  have h1:List.range m=List.range' 0 i++List.range' i (m-i):=by
   rw[List.range_eq_range',show m=i+(m-i) by omega,<-List.range'_append_1];simp
  have h2:List.range' i (m-i)=i::List.range' (i+1) (m-i-1):=by
   rw[show m-i=(m-i-1)+1 by omega,List.range'_succ];simp
  rw[h1,h2,List.range_eq_range']
 refine⟨(List.range i).filter λj=> !listed.getD j zZ,(List.range' (i+1) (m-i-1)).filter λj=> !listed.getD j zZ,?_,?_,?_⟩
 .unfold rem;simp_all
 .unfold rem;rw[H,List.filter_append,List.filter_cons];simp;congr 1
  .refine List.filter_congr (λj g=> ?_);have:i≠j:=by grind
   simp_all
  .refine List.filter_congr (λj g=> ?_);have:i≠j:=by grind
   simp_all
 simp
section
variable{P:Program}{fm:FM}{n:Nat}{w0:World}{L0:Nat->Loc}
theorem ud{l:Array Bool}{i j:Nat}(h:i≠j)(d:Bool):(l.setIfInBounds i zZ).getD j d=l.getD j d:=by
 simp_all
theorem Ysm{C:Ctx}(hC:jq P fm C){ops:Array Oper}{is ys:List AI}(h1:pg (nK P fm n ops) ops.toList=U is)
  {mk:Bool} {dd:Nat->Bool} (h2:yz C.pf mk dd (ko ops.toList []) is=U ys) (hE:wH ops.toList 0=zZ) {n0:Nat->Prop} {F:Env->HF->Prop} {Q:Exit->Act->World->Prop}
  (hQ: ∀env h a w,F env h->sj fm n w0 L0 env h a w->Q .normal a w):
  ∀(fuel:Nat) (listed:Array Bool) (a:Act) (w:World) (env:Env) (h:HF),listed.size=ops.size->
   (∀j k,listed.getD j zj=zZ->Nat.testBit ((ko ops.toList []).getD j 0) k=zZ->listed.getD k zj=zZ)->(rem ops.size listed).length<=fuel->
   sj fm n w0 L0 env h a w->qZ C n0 F ((rem ops.size listed).map λi=>ys.getD i default) env h->wpAny P .any ops Q fuel listed a w:=by
 obtain⟨ok,N,O⟩:=Kr h2;obtain⟨l1,g1⟩:=GC h1;have a0:ys.length=ops.size:=by rw[N,l1];simp
 have a1: ∀listed:Array Bool,listed.size=ops.size->Region.ready .any ops listed=[]->rem ops.size listed=[]:=by
  intro listed z y;have a2: ∀i,i<ops.size->listed.getD i zZ=true:=by
   intro i;induction i using Nat.strongRecOn with
   |_ i ih=>
    intro H;apply Classical.byContradiction;intro hn;have a3:listed.getD i zZ=false:=by simpa using hn
    have:i∈Region.ready .any ops listed:=by
     unfold Region.ready;rw[qY];refine⟨by simpa using H,?_⟩;rw[a3];have R:ops[i]?=U ops[i]:=rH H;rw[R];simp only[qz,Bool.true_and,l_,qu];rw[Array.all_eq_true'];intro e A;by_cases d:Region.binds .any e=zZ
     .have g:=Oj _ 0 hE i ops[i] (by simp[H]) e (by simpa using A) d;have:=ih e.on (by omega) (by omega);have S:e.on<listed.size:=by omega
      simp[S]at this⊢;exact .inr this
     .simp[d]
    rw[y]at this;cases this
  unfold rem;rw[List.filter_eq_nil_iff];intro i H;simp[a2 i (by simpa using H)]
 intro fuel;induction fuel with
 |zero=>
  intro listed a w env h z I J X y;have A:rem ops.size listed=[]:=mC.1 (by omega);rw[A]at y;refine⟨?_,hQ env h a w y X⟩;apply List.eq_nil_iff_forall_not_mem.2;intro i H;have:i∈rem ops.size listed:=by
   unfold Region.ready at H;rw[qY]at H;unfold rem;rw[qY];refine⟨H.1,?_⟩;have:=H.2;rw[iI]at this;exact this.1
  rw[A]at this;cases this
 |succ fuel ih=>
  intro listed a w env h z I J X y;refine⟨λT=> ?_,λi H=> ?_⟩
  .rw[a1 listed z T]at y;exact hQ env h a w y X
  .unfold Region.ready at H;rw[qY]at H;obtain⟨a4,K⟩:=H;rw[iI]at K;have g:i<ops.size:=by simpa using a4
   have a5:listed.getD i zZ=false:=by simpa using K.1
   have R:ops[i]?=U ops[i]:=rH g;have p: ∀e∈ops[i].after.toList,Region.binds .any e=zZ->listed.getD e.on zj=true:=by
    intro e A d;have:=K.2;rw[R]at this;simp only[l_,qu]at this;rw[Array.all_eq_true']at this;have:=this e (by simpa using A);simpa[d]using this
   have q: ∀k,Nat.testBit ((ko ops.toList []).getD i 0) k=zZ->listed.getD k zj=true:=by
    intro k Y;obtain⟨o,B,e,A,d,L⟩:=Xg Y;have:o=ops[i]:=by rw[Array.getElem?_toList,R]at B;injection B with B;exact B.symm
    subst this;rcases L with rfl|L
    .exact p e A d
    .exact I _ _ (p e A d) L
   obtain⟨R1,R2,e1,e2,e3⟩:=Xk z g a5;rw[e1,List.map_append,kn]at y;have V: ∀x∈R1.map (λi=>ys.getD i default),vT C.pf x (ys.getD i default)=true:=by
    intro x hx;obtain⟨j,Z,rfl⟩:=mH.1 hx;obtain⟨a6,D⟩:=e3 j Z;unfold yy at ok;have:=ly.1 (ly.1 ok i (by simp;omega)) j (by simpa using a6);rw[rG]at this;rcases this with d|d
    .have hd:=q j d;have a7:j<listed.size:=by omega
     rw[mI]at hd D;simp[a7]at hd D;rw[hd]at D;cases D
    .have a8:ys[j]?=U (ys.getD j default):=by simp[List.getD,show j<ys.length by omega]
     have M:ys[i]?=U (ys.getD i default):=by simp[List.getD,show i<ys.length by omega]
     rw[a8,M]at d;exact d
   obtain⟨G,h',a9,W⟩:=Oe V y;rw[<-List.map_append,<-e2]at W;have M:ys[i]?=U (ys.getD i default):=by simp[List.getD,show i<ys.length by omega]
   obtain⟨x,hx,aa⟩:=O i _ M;obtain⟨x',E,ab⟩:=g1 i ops[i] (by simp[g]);have:x'=x:=by rw[hx]at E;injection E with E;exact E.symm
   subst this;obtain⟨r1,r2⟩:=Oi hC ab aa X a9 (Q:=Q);have next: ∀a' w',sj fm n w0 L0 G h' a' w'->wpAny P .any ops Q fuel (listed.setIfInBounds i zZ) a' w':=by
    intro a' w' ac;refine ih _ a' w' G h' (by simpa using z) (λj k Z Y=> ?_) ?_ ac W
    .have ad:listed.getD k zj=true:=by
      by_cases e:i=j
      .subst e;exact q k Y
      .rw[ud e]at Z;exact I j k Z Y
     by_cases e:i=k
     .subst e;rw[mI];simp[z,g]
     .rw[ud e];exact ad
    .rw[e1]at J;rw[e2];simp at J⊢;omega
   unfold wpOp;rw[R];simp only;split
   .rename_i hw;exact .inl (Oper.wp_mono next (r1 hw))
   .rename_i hw;exact next _ _ (r2 (by simpa using hw))
theorem Ysn{C:Ctx}(E:jq P fm C)(G:P.follows .mixedOrders=zZ){ops:Array Oper}{is ys:List AI}(h1:pg (nK P fm n ops) ops.toList=U is)
  (I:wH ops.toList 0=zZ) {mk:Bool} {dd:Nat->Bool} (h2:yz C.pf mk dd (ko ops.toList []) is=U ys) {K:jI->Prop} {st:jI} {n0:Nat->Prop} (g: ∀a,st.heap.length<=a->n0 a) (p:qy C n0 ys K st) {a:Act} {w:World} (d:SR fm n w0 L0 st a w)
  {Q:Exit->Act->World->Prop} (J: ∀st a w,K st->SR fm n w0 L0 st a w->Q .normal a w) {M:Nat}:(Code.region M ops zZ).wp P Q a w:=by
 refine wp_region_any G ?_;obtain⟨L,N,D,O,R⟩:=d.rel;have q:iv L w {w with drawn:=w.drawn+1}:=⟨rfl,rfl,rfl,jG _,λ_ _ _=>rfl,λ_ _ h=>h⟩;have y:sj fm n w0 L0 st.env (hf st.heap) a {w with drawn:=w.drawn+1}:=
  ⟨d.defers,d.size,⟨st.heap.length,λb z=>qb z⟩,L,N.trans D q,D,O.mono q (λ_ _ _=>rfl),λt=>(R t).mono q (hY.refl _ _)⟩
 have A:=GB ys st g p;have B:ys.length=ops.size:=by rw[(Kr h2).2.1,(GC h1).1];simp
 refine Ysm E h1 h2 I (F:=λenv h=> ∃S,K S/\nk S.env env/\h=hf S.heap/\S.base=st.base) (n0:=n0) ?_ ops.size _ a _ st.env (hf st.heap) (by simp) ?_ ?_ y ?_
 .rintro env h T w' ⟨S,V,W,X,Y⟩ H;subst X;obtain⟨Z,j1,j2,j3,j4⟩:=H.rel;exact J S T w' V ⟨H.defers,H.size,λb z=>by rw[Y];exact d.base b z,Z,j1,j2,j3,EX j4 W⟩
 .intro j k hj _;rw[mI,Array.getElem?_replicate]at hj;grind
 .exact nu (List.length_filter_le ..) (by simp)
 .have hr:rem ops.size (Array.replicate ops.size zj)=List.range ops.size:=by
   unfold rem;simp_all
  have hy:(List.range ops.size).map (λi=>ys.getD i default)=ys:=by
   apply pT;grind
  simp_all
def wN(pf:Nat->Bool)(dd:Nat->Bool)(i:AI):AI:=
 match i.op with| .call f as=>if pf f then i else{i with op:=.callN f as (match i.dst with|some d=>dd d|none=>zj)}|_=>i
theorem Xl(pf:Nat->Bool)(dd:Nat->Bool)(is:List AI):tZ pf dd is=is.map (wN pf dd):=rfl
theorem Yso(pf:Nat->Bool)(dd:Nat->Bool)(x:AI):wM x (wN pf dd x):=by
 unfold wN;split
 .rename_i z as e;split
  .exact⟨rfl,rfl,.inl rfl⟩
  .exact⟨rfl,rfl,.inr (.inr (.inr ⟨z,as,_,e,rfl⟩))⟩
 .exact⟨rfl,rfl,.inl rfl⟩
theorem Xm{pf:Nat->Bool}{dd:Nat->Bool}: ∀{is ys:List AI},ys=tZ pf dd is->(∀y∈ys,∀f as d,y.op≠ .callN f as d)->ys=is
 | [],ys,h,_=>h
 |x::r,ys,h,H=>by
  rw[Xl,kn]at h;subst h;have h1:wN pf dd x=x:=by
   have:=H _ (pM ..);unfold wN at this⊢;split
   .split
    .rfl
    .rename_i z as e p;simp[e,p]at this
   .rfl
  rw[h1];congr 1;exact Xm (pf:=pf) (dd:=dd) (is:=r) rfl (λy g=>H y (wD _ g))
theorem Ol{C:Ctx}(k:jq P fm C){ops:Array Oper}{n0:Nat->Prop}{F:Env->HF->Prop}{Q:Exit->Act->World->Prop}{g:AI->AI}(p: ∀x,wM x (g x))
  (q: ∀env h a w,F env h->sj fm n w0 L0 env h a w->Q .normal a w): ∀(os:List Oper) (is:List AI) (env:Env) (h:HF) (a:Act) (w:World),pg (nK P fm n ops) os=U is->
  sj fm n w0 L0 env h a w->qZ C n0 F (is.map g) env h->wpList P ops Q os a w
 | [],is,env,h,a,w,d,z,A=>by
   simp[pg]at d;subst d;exact q env h a w A z
 |o::os,is,env,h,a,w,d,z,A=>by
  obtain⟨y,Z,h1,h2,rfl⟩:=ET d;obtain⟨E,G,B,H⟩:=A;obtain⟨R,J⟩:=Oi k h1 (p y) z B (Q:=Q);unfold wpList;cases I:Region.wanted o (yielded ops a.tmps)with
  |true=>
   refine .inl (Oper.wp_mono ?_ (R I));intro K w' D;exact Ol k p q os Z E G K w' h2 D H
  |false=>exact Ol k p q os Z E G _ w h2 (J I) H
theorem Ysp{C:Ctx}(z:jq P fm C){ops:Array Oper}{is:List AI}(h1:pg (nK P fm n ops) ops.toList=U is)
  {dd:Nat->Bool} {K:jI->Prop} {st:jI} {n0:Nat->Prop} (k: ∀a,st.heap.length<=a->n0 a) (p:qy C n0 (tZ C.pf dd is) K st) {a:Act} {w:World} (g:SR fm n w0 L0 st a w)
  {Q:Exit->Act->World->Prop} (A: ∀st a w,K st->SR fm n w0 L0 st a w->Q .normal a w):wpList P ops Q ops.toList a w:=by
 obtain⟨L,B,D,E,G⟩:=g.rel;have q:sj fm n w0 L0 st.env (hf st.heap) a w:=⟨g.defers,g.size,⟨st.heap.length,λb y=>qb y⟩,L,B,D,E,G⟩;have H:=GB (tZ C.pf dd is) st k p;refine Ol z (Yso C.pf dd) (F:=λenv h=> ∃S,K S/\nk S.env env/\h=hf S.heap/\S.base=st.base) (n0:=n0) ?_ ops.toList is st.env (hf st.heap) a w h1 q (by rw[<-Xl];exact H);rintro env h I w' ⟨S,J,M,N,O⟩ d;subst N;obtain⟨R,T,V,W,X⟩:=d.rel;exact A S I w' J ⟨d.defers,d.size,λb y=>by rw[O];exact g.base b y,R,T,V,W,EX X M⟩
end
end Go.Abs
namespace Go.Abs
open Go Go.RowKit
theorem uM{a b:Nat}(h:a≠b):im a b=false:=by
 cases e:im a b
 .rfl
 .exact absurd (jr e) h
theorem mc{l:List Nat}{a:Nat}:wI l a=zZ↔a∈l:=by
 unfold wI;rw[uK];exact⟨λ⟨x,H,e⟩=>jr e▸H,λh=>⟨a,h,by simp⟩⟩
theorem Om{q:Nat->Bool}: ∀(W:List Nat),W.filter q∈BR W
 | []=>by simp[BR]
 |a::r=>by
  simp only[BR,uE,mH,List.filter_cons];cases h:q a with
  |true=>exact .inr ⟨r.filter q,Om r,by simp⟩
  |false=>exact .inl (by simpa using Om r)
theorem Xn: ∀{l:List Nat},J3 l=zZ->l.Nodup
 | [],_=>List.nodup_nil
 |a::r,h=>by
  simp only[J3,iI,Bool.not_eq_true']at h;exact List.nodup_cons.2 ⟨λH=>by rw[mc.2 H]at h;simp at h,Xn h.2⟩
theorem Xo{pf:Nat->Bool}{an:List Nat}{f:Nat}{W S:List Nat}: ∀{l:List (Nat×AI)},J2 pf an f W S l=zZ->l.Pairwise λp q=>nL an f W S q.1 p.1=zZ\/vT pf p.2 q.2=zZ
 | [],_=>.nil
 |p::r,h=>by
  simp only[J2,iI]at h;refine .cons (λq H=> ?_) (Xo h.2);have:=ly.1 h.1 q H;simpa using this
section
variable{P:Program}{fm:FM}{n:Nat}{w0:World}{L0:Nat->Loc}{ops:Array Oper}
def th(ops:Array Oper):Array Bool->List Nat->Prop
 |l,[]=>rem ops.size l=[]
 |l,i::r=>i∈Region.ready .any ops l/\th ops (l.setIfInBounds i zZ) r
theorem Yi8(E:wH ops.toList 0=zZ){listed:Array Bool}(z:listed.size=ops.size)(p:Region.ready .any ops listed=[]):rem ops.size listed=[]:=by
 have k: ∀i,i<ops.size->listed.getD i zZ=true:=by
  intro i;induction i using Nat.strongRecOn with
  |_ i I=>
   intro h;apply Classical.byContradiction;intro q;have d:listed.getD i zZ=false:=by simpa using q
   have:i∈Region.ready .any ops listed:=by
    unfold Region.ready;rw[qY];refine⟨by simpa using h,?_⟩;rw[d];have w:ops[i]?=U ops[i]:=rH h;rw[w];simp only[qz,Bool.true_and,l_,qu];rw[Array.all_eq_true'];intro e y;by_cases g:Region.binds .any e=zZ
    .have A:=Oj _ 0 E i ops[i] (by simp[h]) e (by simpa using y) g;have:=I e.on (by omega) (by omega);have H:e.on<listed.size:=by omega
     simp[H]at this⊢;exact .inr this
    .simp[g]
   rw[p]at this;cases this
 unfold rem;rw[List.filter_eq_nil_iff];intro i h;simp[k i (by simpa using h)]
theorem Ks{listed:Array Bool}(z:listed.size=ops.size){i:Nat}(H:i∈Region.ready .any ops listed):i<ops.size/\listed.getD i zZ=zj/\ ∀(o:Oper),ops[i]?=U o-> ∀e∈o.after.toList,Region.binds .any e=zZ->listed.getD e.on zj=true:=by
 unfold Region.ready at H;rw[qY]at H;obtain⟨d,h⟩:=H;rw[iI]at h;have g:i<ops.size:=by simpa using d
 refine⟨g,by simpa using h.1,λo k e p q=> ?_⟩;have:=h.2;rw[k]at this;simp only[l_,qu]at this;rw[Array.all_eq_true']at this;have:=this e (by simpa using p);simpa[q]using this
def Cl(ops:Array Oper)(listed:Array Bool):Prop:= ∀j k,listed.getD j zj=zZ->Nat.testBit ((ko ops.toList []).getD j 0) k=zZ->listed.getD k zj=zZ
theorem Kt{listed:Array Bool}(z:listed.size=ops.size)(g:Cl ops listed){i:Nat}(A:i∈Region.ready .any ops listed){k:Nat}(B:Nat.testBit ((ko ops.toList []).getD i 0) k=zZ):listed.getD k zj=true:=by
 obtain⟨p,_,d⟩:=Ks z A;have q:ops[i]?=U ops[i]:=rH p;obtain⟨o,h,e,w,y,H⟩:=Xg B;have:o=ops[i]:=by rw[Array.getElem?_toList,q]at h;injection h with h;exact h.symm
 subst this;rcases H with rfl|H
 .exact d _ q e w y
 .exact g _ _ (d _ q e w y) H
theorem Cl.step{listed:Array Bool}(h:listed.size=ops.size)(H:Cl ops listed){i:Nat}(p:i∈Region.ready .any ops listed):Cl ops (listed.setIfInBounds i zZ):=λj k q w=>by
 have d:=(Ks h p).1;have g:listed.getD k zj=true:=by
  by_cases e:i=j
  .subst e;exact Kt h H p w
  .rw[ud e]at q;exact H j k q w
 by_cases e:i=k
 .subst e;rw[mI];simp[h,d]
 .rw[ud e];exact g
theorem Xp(E:wH ops.toList 0=zZ): ∀(fuel t:Nat) (listed:Array Bool),listed.size=ops.size->(rem ops.size listed).length<=fuel->th ops listed (Region.linearise.go .any ops fuel t listed [])
 |0,t,listed,h,H=>by
  simp only[Region.linearise.go];exact mC.1 (by omega)
 |fuel+1,t,listed,h,H=>by
  simp only[Region.linearise.go];change th ops listed (match(Region.ready .any ops listed)[t % (Region.ready .any ops listed).length]? with
   |some i=>Region.linearise.go .any ops fuel (t/(Region.ready .any ops listed).length) (listed.setIfInBounds i zZ) [i]
   |none=>[].reverse)
  cases k:(Region.ready .any ops listed)[t % (Region.ready .any ops listed).length]? with
  |none=>
   have g:Region.ready .any ops listed=[]:=by
    cases w:Region.ready .any ops listed with
    |nil=>rfl
    |cons x xs=>
     rw[w]at k;have d:t % (x::xs).length< (x::xs).length:=Nat.mod_lt _ (by simp);simp at k;simp at d;omega
   exact Yi8 E h g
  |some i=>
   simp only[];rw[linearise_go_acc,List.reverse_singleton,List.singleton_append];have q:=jc k;obtain⟨d,p,_⟩:=Ks h q;obtain⟨R,A,y,z,_⟩:=Xk h d p;exact⟨q,Xp E fuel _ _ (by simpa using h) (by rw[y]at H;rw[z];simp at H⊢;omega)⟩
def sk(w f:Nat):List Nat->Bool
 | []=>zj
 |i::r=>bif im i w then zZ else bif im i f then zj else sk w f r
theorem Ku{w f i:Nat}{r:List Nat}(h1:i≠w)(h2:i≠f):sk w f (i::r)=sk w f r:=by
 simp only[sk];have E:im i w=false:=uM h1;have d:im i f=false:=uM h2;rw[E,d];rfl
theorem On{w f:Nat}{r:List Nat}:sk w f (w::r)=true:=by simp[sk]
theorem Kv{w f:Nat}{r:List Nat}(h:w≠f):sk w f (f::r)=false:=by
 have E:im f w=false:=uM (Ne.symm h);simp[sk,E]
theorem Ysq{listed:Array Bool}{i k:Nat}(h:listed.getD i zZ=zj)(H:listed.getD k zj=zZ):i≠k:=λe=>by
 subst e;rw[mI]at h H;cases q:listed[i]? with
 |none=>rw[q]at H;cases H
 |some b=>rw[q]at h H;simp at h H;rw[h]at H;cases H
theorem EY{listed:Array Bool}{i:Nat}(h:listed.getD i zZ=zj):listed.getD i zj=false:=by
 rw[mI]at h⊢;cases q:listed[i]? with
 |none=>rfl
 |some b=>rw[q]at h;simpa using h
theorem Oo{a b f:Nat}(p:Nat.testBit ((ko ops.toList []).getD a 0) b=zZ)(A:b≠f): ∀{l:List Nat} {listed:Array Bool},listed.size=ops.size->Cl ops listed->th ops listed l->(sk a f l=zZ\/(a=f/\listed.getD f zj=zj/\f<ops.size))->listed.getD b zj=zj->sk b f l=zZ
 | [],listed,z,H,q,h,y=>by
   rcases h with h| ⟨rfl,B,C⟩
   .cases h
   .have E:a∈rem ops.size listed:=by
     unfold rem;rw[qY];refine⟨by simpa using C,?_⟩;rw[mI]at B⊢;have D:a<listed.size:=by omega
     rw[rH D]at B⊢;simpa using B
    rw[show rem ops.size listed=[]from q]at E;cases E
 |i::r,listed,z,H,q,h,y=>by
  by_cases d:i=b
  .subst d;exact On
  have g:i≠a:=λe=>by
   subst e;rw[Kt z H q.1 p]at y;cases y
  have k:i≠f:=λe=>by
   subst e;rcases h with h| ⟨rfl,_,_⟩
   .by_cases w:a=i
    .exact g w.symm
    .rw[Kv w]at h;cases h
   .exact g rfl
  rw[Ku d k];refine Oo p A (listed:=listed.setIfInBounds i zZ) (by simpa using z) (H.step z q.1) q.2 ?_ (by rw[ud d];exact y);rcases h with h| ⟨rfl,h1,h2⟩
  .exact .inl (by rwa[Ku g k]at h)
  .exact .inr ⟨rfl,by rw[ud k];exact h1,h2⟩
theorem Xq{a f:Nat}(d:Nat.testBit ((ko ops.toList []).getD a 0) f=zZ)(g:a≠f): ∀{l:List Nat} {listed:Array Bool},listed.size=ops.size->Cl ops listed->th ops listed l->listed.getD f zj=zj->sk a f l=zj
 | [],_,_,_,_,_=>rfl
 |i::r,listed,h,k,p,q=>by
  have w:i≠a:=λe=>by
   subst e;rw[Kt h k p.1 d]at q;cases q
  by_cases H:i=f
  .subst H;exact Kv g
  rw[Ku w H];exact Xq d g (listed:=listed.setIfInBounds i zZ) (by simpa using h) (k.step h p.1) p.2 (by rw[ud H];exact q)
structure uf(pf:Nat->Bool)(ops:Array Oper)(is:List AI)(f:Nat)(W S:List Nat)(l:List (Nat×AI)):Prop where
 nd:(l.map Prod.fst).Nodup
 lt: ∀p∈l,p.1<ops.size
 all: ∀i,i<ops.size->i∈l.map Prod.fst
 var: ∀p∈l,∃x,is[p.1]?=U x/\wM x p.2
 ok:l.Pairwise λp q=>nL (ko ops.toList []) f W S q.1 p.1=zZ\/vT pf p.2 q.2=zZ
theorem Ysr{pf:Nat->Bool}{an:List Nat}{f:Nat}{W S:List Nat}{l:List (Nat×AI)}{p:Nat×AI}(h:p∈NF pf an f W S l): ∃x,(p.1,x)∈l/\wM x p.2:=by
 unfold NF at h;obtain⟨⟨⟨i,x⟩,k⟩,g,rfl⟩:=mH.1 h;have H:=List.mem_zipIdx_iff_getElem?.1 g;refine⟨x,jc H,?_⟩;have y: ∀(l':List ((Nat×AI)×Nat)) (s:AI),(s.dst=x.dst/\s.op=x.op/\s.guard=x.guard)->
   ((l'.foldl (λ(s:AI) (p:(Nat×AI)×Nat)=>if p.2=k then s else if(if js p.2 k then nL an f W S i p.1.1 else nL an f W S p.1.1 i)then s else
     let m:=EI pf (js p.2 k) x p.1.2;{s with old:=s.old||m.1,nw:=s.nw||m.2}) s).dst=x.dst/\
    (l'.foldl (λ(s:AI) (p:(Nat×AI)×Nat)=>if p.2=k then s else if(if js p.2 k then nL an f W S i p.1.1 else nL an f W S p.1.1 i)then s else
     let m:=EI pf (js p.2 k) x p.1.2;{s with old:=s.old||m.1,nw:=s.nw||m.2}) s).op=x.op/\
    (l'.foldl (λ(s:AI) (p:(Nat×AI)×Nat)=>if p.2=k then s else if(if js p.2 k then nL an f W S i p.1.1 else nL an f W S p.1.1 i)then s else
     let m:=EI pf (js p.2 k) x p.1.2;{s with old:=s.old||m.1,nw:=s.nw||m.2}) s).guard=x.guard):=by
  intro l';induction l' with
  |nil=>intro s d;exact d
  |cons q r I=>
   intro s d;simp only[List.foldl_cons];refine I _ ?_;split<;>(try split)<;>(try split)<;>exact d
 obtain⟨K,w,z⟩:=y l.zipIdx x ⟨rfl,rfl,rfl⟩;exact⟨K,z,.inl w⟩
theorem Yss{pf:Nat->Bool}{is:List AI}{f:Nat}{W S:List Nat}{l:List (Nat×AI)}(k:is.length=ops.size)(h:NG pf (ko ops.toList []) is f W S=U l):uf pf ops is f W S l:=by
 unfold NG at h;simp only at h;split at h
 .rename_i d;injection h with h
  rw[h]at d;simp only[iI]at d;obtain⟨⟨⟨w,c2⟩,C⟩,y⟩:=d;refine⟨Xn w,λp H=> ?_,λi q=> ?_,λp H=> ?_,Xo y⟩
  .have:=ly.1 C p H;rw[<-k];exact l9 this
  .exact mc.1 (ly.1 c2 i (by simpa[k]using q))
  .rw[<-h]at H;obtain⟨x,z,A⟩:=Ysr H;obtain⟨i,q,e⟩:=mH.1 z;injection e with e1 e2
   subst e1;have g:p.1<is.length:=by
    have:=ly.1 C p (by rw[<-h];exact H);exact l9 this
   refine⟨x,?_,A⟩;rw[<-e2,vW,je g];simp
 .cases h
theorem Yst{C:Ctx}(hC:jq P fm C){is:List AI}(h1:pg (nK P fm n ops) ops.toList=U is){f:Nat}{W S:List Nat}(ah:f∉W)(a2: ∀w∈S,w∈W){d:List (Nat×AI)}(hc:uf C.pf ops is f W S d)
  {n0:Nat->Prop} {F:Env->HF->Prop} {Q:Exit->Act->World->Prop} (hQ: ∀env h a w,F env h->sj fm n w0 L0 env h a w->Q .normal a w):
  ∀(l:List Nat) (listed:Array Bool) (a:Act) (w:World) (env:Env) (h:HF),listed.size=ops.size->Cl ops listed->th ops listed l->
   (listed.getD f zj=zZ-> ∀w∈S,listed.getD w zj=zZ)->(listed.getD f zj=zj-> ∀w∈W,listed.getD w zj=zZ->w∈S)->(listed.getD f zj=zj-> ∀w∈W,listed.getD w zj=zj->(w∈S↔sk w f l=zZ))->
   sj fm n w0 L0 env h a w->qZ C n0 F ((d.filter λp=> !listed.getD p.1 zZ).map Prod.snd) env h->wpOps P ops Q l a w:=by
 obtain⟨l1,g1⟩:=GC h1;intro l;induction l with
 |nil=>
  intro listed a w env h A R ho i1 i2 i3 hs hr;have:d.filter (λp=> !listed.getD p.1 zZ)=[]:=by
   rw[List.filter_eq_nil_iff];intro p g hn;have hm:p.1∈rem ops.size listed:=by
    unfold rem;rw[qY];exact⟨by simpa using hc.lt p g,hn⟩
   rw[show rem ops.size listed=[]from ho]at hm;cases hm
  rw[this]at hr;exact hQ env h a w hr hs
 |cons i r ih=>
  intro listed a w env h A R ho i1 i2 i3 hs hr;obtain⟨hi,ho⟩:=ho;obtain⟨G,E,_⟩:=Ks A hi;have a7:ops[i]?=U ops[i]:=rH G;obtain⟨⟨i',y⟩,I,T⟩:=mH.1 (hc.all i G);have I:(i,y)∈d:=by have T:i'=i:=T;rw[<-T];exact I
  have a8:(i,y)∈d.filter (λp=> !listed.getD p.1 zZ):=qY.2 ⟨I,by simp only[E];rfl⟩;obtain⟨R1,R2,e1⟩:=List.append_of_mem a8;have V:((d.filter λp=> !listed.getD p.1 zZ).map Prod.fst).Nodup:=hc.nd.sublist (List.filter_sublist.map _);have a3:(d.filter λp=> !listed.getD p.1 zZ).Pairwise λp q=>nL (ko ops.toList []) f W S q.1 p.1=zZ\/vT C.pf p.2 q.2=true:=hc.ok.sublist List.filter_sublist;rw[e1]at V a3;have X: ∀p,p∈R1\/p∈R2->p.1≠i:=by
   simp only[List.map_append,kn]at V;have hd:=List.nodup_append.1 V;rintro p (g|g) e
   .exact hd.2.2 p.1 (mH.2 ⟨p,g,rfl⟩) i (pM ..) e
   .exact(List.nodup_cons.1 hd.2.1).1 (mH.2 ⟨p,g,e⟩)
  have e2:d.filter (λp=> !(listed.setIfInBounds i zZ).getD p.1 zZ)=R1++R2:=by
   have:d.filter (λp=> !(listed.setIfInBounds i zZ).getD p.1 zZ)=(d.filter (λp=> !listed.getD p.1 zZ)).filter (λp=> !im p.1 i):=by
    rw[List.filter_filter];refine List.filter_congr λp _=> ?_;by_cases e:i=p.1
    .rw[<-e];have a9:i<listed.size:=by omega
     simp[a9]
    .rw[ud e];have:im p.1 i=false:=uM (Ne.symm e);simp[this]
   rw[this,e1,List.filter_append,List.filter_cons];have J:(!im i i)=false:=by simp
   rw[J,if_neg (by simp)];congr 1
   .exact List.filter_eq_self.2 λp g=>by rw[uM (X p (.inl g))];rfl
   .exact List.filter_eq_self.2 λp g=>by rw[uM (X p (.inr g))];rfl
  rw[e1,List.map_append,kn]at hr;have aa: ∀p∈R1,listed.getD p.1 zZ=false:=λp g=>by
   have:p∈d.filter (λp=> !listed.getD p.1 zZ):=by rw[e1];exact List.mem_append_left _ g
   simpa using(qY.1 this).2
  have a0: ∀x∈R1.map Prod.snd,vT C.pf x y=true:=by
   intro x hx;obtain⟨p,g,rfl⟩:=mH.1 hx;have H:=(List.pairwise_append.1 a3).2.2 p g (i,y) (pM ..);rcases H with H|H
   .exfalso;have Y:=aa p g;have ab:=X p (.inl g);simp only[nL,rG,iI,Bool.not_eq_true']at H;rcases H with(H| ⟨H,Z⟩)| ⟨⟨H,Z⟩,M⟩
    .exact Ysq Y (Kt A R hi H) rfl
    .have a4:=jr H;have a5:=mc.1 Z;have J:=(i3 (by rw[<-a4];exact EY E) p.1 (a2 _ a5) (EY Y)).1 a5;rw[<-a4,Kv ab]at J;cases J
    .have a1:=jr H;have ac:=mc.1 Z;have J:=(i3 (by rw[<-a1];exact EY Y) i ac (EY E)).2 On;rw[mc.2 J]at M;cases M
   .exact H
  obtain⟨N,h',ad,a6⟩:=Oe a0 hr;rw[<-List.map_append,<-e2]at a6;obtain⟨x,hx,ae⟩:=hc.var _ I;obtain⟨x',K,af⟩:=g1 i ops[i] (by simp[G]);have:x'=x:=by rw[hx]at K;injection K with K;exact K.symm
  subst this;obtain⟨r1,r2⟩:=Oi hC af ae hs ad (Q:=Q);have z:(listed.setIfInBounds i zZ).getD i zj=true:=by
   rw[mI];simp[A,G]
  have next: ∀a' w',sj fm n w0 L0 N h' a' w'->wpOps P ops Q r a' w':=by
   intro a' w' ag;refine ih _ a' w' N h' (by simpa using A) (R.step A hi) ho (λB w D=> ?_) (λB w D k=> ?_) (λB w D k=> ?_) ag a6
   .by_cases L:i=w
    .rw[<-L];exact z
    .rw[ud L];by_cases O:i=f
     .cases hq:listed.getD w zj with
      |true=>rfl
      |false=>
       have J:=(i3 (by rw[<-O];exact EY E) w (a2 _ D) hq).1 D;rw[<-O,Kv (Ne.symm L)]at J;cases J
     .rw[ud O]at B;exact i1 B w D
   .have O:i≠f:=λe=>by subst e;rw[z]at B;cases B
    rw[ud O]at B;by_cases L:i=w
    .subst L;exact(i3 B i D (EY E)).2 On
    .rw[ud L]at k;exact i2 B w D k
   .have O:i≠f:=λe=>by subst e;rw[z]at B;cases B
    have L:i≠w:=λe=>by subst e;rw[z]at k;cases k
    rw[ud O]at B;rw[ud L]at k;have:=i3 B w D k;rwa[Ku L O]at this
  simp only[wpOps];rw[a7];simp only;split
  .rename_i D;exact .inl (Oper.wp_mono next (r1 D))
  .rename_i D;exact next _ _ (r2 (by simpa using D))
theorem Xr{α β:Type}{g:α->Option β}: ∀{l:List α} {r:List β},pg g l=U r-> ∀a∈l,∃b∈r,g a=U b
 | [],_,_,a,H=>by cases H
 |c::l,r,h,a,H=>by
  simp only[pg]at h;split at h
  .rename_i b q k d;injection h with h;subst h
   rcases mT.1 H with rfl|H
   .exact⟨b,pM ..,k⟩
   .obtain⟨B,K,p⟩:=Xr d a H;exact⟨B,wD _ K,p⟩
  .cases h
theorem Ysu{C:Ctx}(hC:jq P fm C)(hm:P.follows .mixedOrders=zZ){f:Nat}{ls:List (List (Nat×AI))}(h2:J4 P fm C.pf n ops f=U ls){K:jI->Prop}{st:jI}(G: ∀l∈ls,∃n0:Nat->Prop,(∀a,st.heap.length<=a->n0 a)/\qy C n0 (l.map Prod.snd) K st){a:Act}{w:World}(Y:SR fm n w0 L0 st a w)
  {Q:Exit->Act->World->Prop} (hQ: ∀st a w,K st->SR fm n w0 L0 st a w->Q .normal a w) {id:Nat}:(Code.region id ops zZ).wp P Q a w:=by
 unfold J4 at h2;cases h1:pg (nK P fm n ops) ops.toList with
 |none=>rw[h1]at h2;cases h2
 |some is=>
 rw[h1]at h2;simp only at h2;split at h2
 .rename_i D;simp only[iI,Bool.not_eq_true']at D;obtain⟨⟨hE,W⟩,q⟩:=D;have hl:is.length=ops.size:=by rw[(GC h1).1];simp
  have q:f<ops.size:=by rw[<-hl];exact l9 q
  have W:f∉t_ C.pf (ua fm ops) is:=λh=>by rw[mc.2 h]at W;cases W
  refine wp_region_draw λt=> ?_;simp only[Region.schedule,hm,Bool.true_or,if_true];have a0:(rem ops.size (Array.replicate ops.size zj)).length<=ops.size:=nu (List.length_filter_le ..) (by simp);have d:th ops (Array.replicate ops.size zj) (Region.linearise .any ops t):=Xp hE ops.size t _ (by simp) a0;generalize Region.linearise .any ops t=l at d;have A:Cl ops (Array.replicate ops.size zj):=λj k hj _=>by
   rw[mI,Array.getElem?_replicate]at hj;grind
  have H: ∀i,(Array.replicate ops.size zj).getD i zj=false:=λi=>by
   rw[mI,Array.getElem?_replicate];split<;>rfl
  have T: ∀w∈ (t_ C.pf (ua fm ops) is).filter (λw=>sk w f l),w∈t_ C.pf (ua fm ops) is:=λw V=>(qY.1 V).1;have I: ∀w∈t_ C.pf (ua fm ops) is,w≠f:=λw V e=>W (e▸V);have hS:(t_ C.pf (ua fm ops) is).filter (λw=>sk w f l)∈ (BR (t_ C.pf (ua fm ops) is)).filter λS=> !NH (ko ops.toList []) f (t_ C.pf (ua fm ops) is) S&& !NI (ko ops.toList []) f S:=by
   refine qY.2 ⟨Om _,?_⟩;simp only[iI,Bool.not_eq_true'];refine⟨?_,?_⟩
   .apply Classical.byContradiction;intro J;have J:NH (ko ops.toList []) f (t_ C.pf (ua fm ops) is) ((t_ C.pf (ua fm ops) is).filter λw=>sk w f l)=true:=by simpa using J
    obtain⟨b,M,y⟩:=uK.1 J;simp only[iI,Bool.not_eq_true',rG]at y;obtain⟨y,z⟩:=y;have a1:sk b f l=true:=by
     rcases z with z|z
     .obtain⟨Z,B,N⟩:=uK.1 z;exact Oo N (I b M) (by simp) A d (.inl (qY.1 B).2) (H b)
     .exact Oo z (I b M) (by simp) A d (.inr ⟨rfl,H f,q⟩) (H b)
    rw[mc.2 (qY.2 ⟨M,a1⟩)]at y;cases y
   .apply Classical.byContradiction;intro J;have J:NI (ko ops.toList []) f ((t_ C.pf (ua fm ops) is).filter λw=>sk w f l)=true:=by simpa using J
    obtain⟨Z,B,N⟩:=uK.1 J;have:=Xq N (I Z (T _ B)) (by simp) A d (H f);rw[(qY.1 B).2]at this;cases this
  obtain⟨X,a2,a3⟩:=Xr h2 _ hS;have E:=Yss hl a3;obtain⟨L,k1,k2,k3,k4⟩:=Y.rel;have hk:iv L w {w with drawn:=w.drawn+1}:=⟨rfl,rfl,rfl,jG _,λ_ _ _=>rfl,λ_ _ h=>h⟩;have a4:sj fm n w0 L0 st.env (hf st.heap) a {w with drawn:=w.drawn+1}:=
   ⟨Y.defers,Y.size,⟨st.heap.length,λb M=>qb M⟩,L,k1.trans k2 hk,k2,k3.mono hk (λ_ _ _=>rfl),λt=>(k4 t).mono hk (hY.refl _ _)⟩
  obtain⟨n0,a5,G⟩:=G _ a2;have O:=GB _ st a5 G;refine Yst hC h1 W T E (F:=λenv h=> ∃g,K g/\nk g.env env/\h=hf g.heap/\g.base=st.base) (n0:=n0) ?_ l _ a _ st.env (hf st.heap) (by simp) A d ?_ ?_ ?_ a4 ?_
  .rintro env h Z w' ⟨g,q1,q2,q3,q4⟩ R;subst q3;obtain⟨L',j1,j2,j3,j4⟩:=R.rel;exact hQ g Z w' q1 ⟨R.defers,R.size,λb M=>by rw[q4];exact Y.base b M,L',j1,j2,j3,EX j4 q2⟩
  .intro h;rw[H]at h;cases h
  .intro _ w _ h;rw[H]at h;cases h
  .intro _ w V _;exact⟨λh=>(qY.1 h).2,λh=>qY.2 ⟨V,h⟩⟩
  .have:X.filter (λp=> !(Array.replicate ops.size zj).getD p.1 zZ)=X:=List.filter_eq_self.2 λp hp=>by
    have:=E.lt p hp;rw[mI,Array.getElem?_replicate,if_pos this];rfl
   rw[this];exact O
 .cases h2
end
end Go.Abs
namespace Go.Abs
open Go Go.RowKit
def oA(fm:FM)(n:Nat)(w0:World)(L0:Nat->Loc)(Q:Ex->jI->Prop):Exit->Act->World->Prop
 | .normal,a,w=> ∃st,Q .kM st/\SR fm n w0 L0 st a w
 | .exit d,a,w=> ∃st,Q (.exit d) st/\SR fm n w0 L0 st a w
 | .ret,a,w=> ∃st,Q .ret st/\SR fm n w0 L0 st a w
 |_,_,_=>False
def Sat(C:Ctx)(c:i_)(Q:Ex->jI->Prop)(st:jI):Prop:=
 ∀(P:Program) (fm:FM) (n:Nat) (d:Code),jq P fm C->P.follows .mixedOrders=zZ->tr P fm C.pf n d=U c->
  ∀w0 L0 a w,SR fm n w0 L0 st a w->d.wp P (oA fm n w0 L0 Q) a w
def Wk(st S:jI):Prop:= ∀(fm:FM) (n:Nat) (w0:World) (L0:Nat->Loc) (a:Act) (w:World),SR fm n w0 L0 st a w->SR fm n w0 L0 S a w
theorem Wk.refl(st:jI):Wk st st:=λ_ _ _ _ _ _ h=>h
theorem Wk.trans{a b c:jI}(h:Wk a b)(k:Wk b c):Wk a c:=λ_ _ _ _ _ _ x=>k _ _ _ _ _ _ (h _ _ _ _ _ _ x)
theorem oA.mono{fm:FM}{n:Nat}{w0:World}{L0:Nat->Loc}{Q Q':Ex->jI->Prop}(h: ∀e s,Q e s->Q' e s){e:Exit}{a:Act}{w:World}(p:oA fm n w0 L0 Q e a w):
  oA fm n w0 L0 Q' e a w:=by
 cases e<;>first|exact p| (obtain⟨s,q,H⟩:=p;exact⟨s,h _ _ q,H⟩)
section
variable{C:Ctx}{Q:Ex->jI->Prop}{st:jI}
theorem Sat.mono{c:i_}{Q':Ex->jI->Prop}(h:Sat C c Q st)(q: ∀e s,Q e s->Q' e s):Sat C c Q' st:=
 λP fm n d H g k w0 L0 a w p=>wp_mono (h P fm n d H g k w0 L0 a w p) (λ_ _ _ y=>y.mono q)
theorem Sat.wk{c:i_}{s:jI}(H:Wk st s)(h:Sat C c Q s):Sat C c Q st:=
 λP fm n d g k p w0 L0 a w q=>h P fm n d g k p w0 L0 a w (H _ _ _ _ _ _ q)
theorem yE{P:Program}{fm:FM}{pf:Nat->Bool}{n I:Nat}{ops:Array Oper}{d:Bool}{c:i_}(h:tr P fm pf n (.region I ops d)=U c)(H:c≠ .bad)(A: ∀ls,c≠ .pb ls):
  ∃is ys,pg (nK P fm n ops) ops.toList=U is/\c= .qx ys/\ (d=zZ/\wH ops.toList 0=zZ/\yz pf (yA fm ops) (uI fm ops) (ko ops.toList []) is=U ys\/d=zj/\ (ys=is\/ys=tZ pf (uI fm ops) is)):=by
 simp only[tr]at h;split at h
 .split at h
  .injection h with h;exact absurd h.symm (A _)
  .injection h with h;exact absurd h.symm H
 split at h
 .rename_i ys g;injection h with h
  simp only[VF]at g;grind
 simp_all
theorem Oq{ys:List AI}{n0:Nat->Prop}(d: ∀a,st.heap.length<=a->n0 a)(h:qy C n0 ys (Q .kM) st):Sat C (.qx ys) Q st:=by
 intro P fm n g p A H w0 L0 a w k;cases g with
 |region I ops D=>
  obtain⟨is,Z,h1,h2,q⟩:=yE H (λe=>by cases e) (λ_ e=>by cases e);injection h2 with h2
  subst h2;have z: ∀st a w,Q .kM st->SR fm n w0 L0 st a w->oA fm n w0 L0 Q .normal a w:=λst a w B k=>⟨st,B,k⟩;rcases q with⟨rfl,E,q⟩| ⟨rfl,rfl|rfl⟩
  .exact Ysn p A h1 E q d h k z
  .obtain⟨ops⟩:=ops;exact wp_region_lit (Ki p z ops _ st a w h1 h k)
  .obtain⟨ops⟩:=ops;exact wp_region_lit (Ysp p h1 d h k z)
 |seq x y=>simp only[tr]at H;grind
 |cond c x y=>simp only[tr]at H;grind
 |block I b=>simp[tr]at H
 |loop b=>simp[tr]at H
 |_=>cases H
theorem Ysv{ls:List (List AI)}(h: ∀l∈ls,∃n0:Nat->Prop,(∀a,st.heap.length<=a->n0 a)/\qy C n0 l (Q .kM) st):Sat C (.pb ls) Q st:=by
 intro P fm n d k p H w0 L0 a w g;cases d with
 |region I ops D=>
  simp only[tr]at H;split at H
  .rename_i f _;split at H
   .rename_i Z z;injection H with H;injection H with H
    subst H;have q: ∀st a w,Q .kM st->SR fm n w0 L0 st a w->oA fm n w0 L0 Q .normal a w:=λst a w A g=>⟨st,A,g⟩;exact Ysu k p z (λl B=>h _ (mH.2 ⟨l,B,rfl⟩)) g q
   .injection H with H;cases H
  .split at H<;>(injection H with H;cases H)
 |seq x y=>simp only[tr]at H;grind
 |cond c x y=>simp only[tr]at H;grind
 |block I b=>simp[tr]at H
 |loop b=>simp[tr]at H
 |_=>cases H
theorem Kw{ys:List AI}(h:qy C (λa=>st.heap.length<=a) ys (Q .kM) st):Sat C (.qx ys) Q st:=Oq (λ_ h=>h) h
theorem Xt(h:Q .kM st):Sat C .skip Q st:=by
 intro P fm n d k p H w0 L0 a w g;cases d with
 |skip=>exact wp_skip ⟨st,h,g⟩
 |region I ops D=>obtain⟨_,_,_,h2,_⟩:=yE H (λe=>by cases e) (λ_ e=>by cases e);cases h2
 |seq x y=>simp only[tr]at H;grind
 |cond c x y=>simp only[tr]at H;grind
 |block I b=>simp[tr]at H
 |loop b=>simp[tr]at H
 |_=>cases H
theorem Ysw{I:Nat}(h:Q (.exit I) st):Sat C (.exit I) Q st:=by
 intro P fm n d p q H w0 L0 a w g;cases d with
 |exit k=>injection H with H;injection H with H;subst H;exact wp_exit ⟨st,h,g⟩
 |region I ops D=>obtain⟨_,_,_,h2,_⟩:=yE H (λe=>by cases e) (λ_ e=>by cases e);cases h2
 |seq x y=>simp only[tr]at H;grind
 |cond c x y=>simp only[tr]at H;grind
 |block I b=>simp[tr]at H
 |loop b=>simp[tr]at H
 |_=>cases H
theorem Ot(h:Q .ret st):Sat C .ret Q st:=by
 intro P fm n d k p H w0 L0 a w g;cases d with
 |ret=>exact wp_ret ⟨st,h,g⟩
 |region I ops D=>obtain⟨_,_,_,h2,_⟩:=yE H (λe=>by cases e) (λ_ e=>by cases e);cases h2
 |seq x y=>simp only[tr]at H;grind
 |cond c x y=>simp only[tr]at H;grind
 |block I b=>simp[tr]at H
 |loop b=>simp[tr]at H
 |_=>cases H
def Ex.then(N:jI->Prop)(Q:Ex->jI->Prop):Ex->jI->Prop
 | .kM,s=>N s
 | .exit d,s=>Q (.exit d) s
 | .ret,s=>Q .ret s
theorem yF{x y:i_}(h:Sat C x (Ex.then (Sat C y Q) Q) st):Sat C (.seq x y) Q st:=by
 intro P fm n d k p H w0 L0 a w q;cases d with
 |seq z A=>
  simp only[tr]at H;split at H
  .rename_i X Y B E;injection H with H;injection H with e1 e2;subst e1;subst e2
   refine wp_seq (wp_mono (h P fm n z k p B w0 L0 a w q) ?_);intro e F w' G;cases e with
   |normal=>obtain⟨s,J,g⟩:=G;exact J P fm n A k p E w0 L0 F w' g
   |exit I=>trivial
   |ret=>trivial
   |goto l=>trivial
   |panic K=>trivial
   |outgrown=>trivial
  trivial
 |region I ops D=>obtain⟨_,_,_,h2,_⟩:=yE H (λe=>by cases e) (λ_ e=>by cases e);cases h2
 |cond c x y=>simp only[tr]at H;grind
 |block I b=>simp[tr]at H
 |loop b=>simp[tr]at H
 |_=>cases H
def EZ(st:jI):iY->Bool->jI
 | .t g,b=>⟨(g,.v (.bool b))::st.env,st.heap,st.base⟩
 | .c _,_=>st
theorem Xu{fm:FM}{n:Nat}{w0:World}{L0:Nat->Loc}{a:Act}{w:World}(H:SR fm n w0 L0 st a w){c:iY}{b:Bool}(h:iC st.env c= .v (.bool b)):
  SR fm n w0 L0 (EZ st c b) a w:=by
 cases c with
 |c v=>exact H
 |t g=>
  obtain⟨h1,h2,d,L,k,p,q,y⟩:=H;exact⟨h1,h2,d,L,k,p,q,Gx y h⟩
theorem Xv{c:iY}{x y:i_}{b:Bool}(H:iC st.env c= .v (.bool b))(h1:b=zZ->Sat C x Q (EZ st c zZ))(h2:b=zj->Sat C y Q (EZ st c zj)):
  Sat C (.cond c x y) Q st:=by
 intro P fm n d q z h w0 L0 a w g;cases d with
 |cond c' B E=>
  simp only[tr]at h;split at h
  .rename_i X Y F G;injection h with h;injection h with e0 e1 e2;subst e0;subst e1;subst e2
   obtain⟨L,J,M,N,K⟩:=g.rel;have A:=ky K c';rw[H]at A;have k:=kI A;refine wp_cond_split k (λp=> ?_) (λp=> ?_)
   .subst p;exact h1 rfl P fm n B q z F w0 L0 a w (Xu g H)
   .subst p;exact h2 rfl P fm n E q z G w0 L0 a w (Xu g H)
  trivial
 |region I ops D=>obtain⟨_,_,_,h2,_⟩:=yE h (λe=>by cases e) (λ_ e=>by cases e);cases h2
 |seq x y=>simp only[tr]at h;grind
 |block I b=>simp[tr]at h
 |loop b=>simp[tr]at h
 |_=>cases h
def Ex.lF(d:Nat)(Q:Ex->jI->Prop):Ex->jI->Prop
 | .kM,s=>Q .kM s
 | .exit I,s=>bif I==d then Q .kM s else Q (.exit I) s
 | .ret,s=>Q .ret s
theorem Xw{d:Nat}{b:i_}(h:Sat C b (Ex.lF d Q) st):Sat C (.lF d b) Q st:=by
 intro P fm n g p z H w0 L0 a w A;cases g with
 |block I B=>
  simp only[tr,lS]at H;obtain⟨J,F,H⟩:=H;injection H with E e2;subst E;subst e2
  refine wp_block (wp_mono (h P fm n B p z F w0 L0 a w A) ?_);intro e K w' G;cases e with
  |normal=>trivial
  |exit d=>
   obtain⟨s,q,k⟩:=G;by_cases e:d=I
   .subst e;simp only[Ex.lF,beq_self_eq_true,cond_true]at q;simp only[Exit.inBlock,if_true];exact⟨s,q,k⟩
   .have E:(d==I)=false:=by simp[e]
    simp only[Ex.lF,E,cond_false]at q;simp only[Exit.inBlock,e,if_false];exact⟨s,q,k⟩
  |ret=>trivial
  |goto l=>trivial
  |panic L=>trivial
  |outgrown=>trivial
 |region d ops D=>obtain⟨_,_,_,h2,_⟩:=yE H (λe=>by cases e) (λ_ e=>by cases e);cases h2
 |seq x y=>simp only[tr]at H;grind
 |cond c x y=>simp only[tr]at H;grind
 |loop b=>simp[tr]at H
 |_=>cases H
theorem Xx{b:i_}(J:Nat->jI->Prop)(h0: ∃m s,J m s/\Wk st s)
  (hb: ∀m s,J m s->Sat C b (Ex.then (λt=> ∃M S,J M S/\M<m/\Wk t S) Q) s):Sat C (.loop b) Q st:=by
 intro P fm n B hC hm g w0 L0 a w K;cases B with
 |loop z=>
  simp only[tr,lS]at g;obtain⟨b',L,g⟩:=g;injection g with e1;subst e1
  obtain⟨m0,s0,N,O⟩:=h0;intro fr k cs;have R: ∀m s a w,J m s->SR fm n w0 L0 s a w->
    ∃e G w',oA fm n w0 L0 Q e G w'/\Arrives P (lone (fr.at a (.code z:: .inLoop z::k)) cs w) fr k cs e G w':=by
   intro m;induction m using Nat.strongRecOn with
   |_ m ih=>
    intro s a w hJ K;obtain⟨e,A,W,q,h⟩:=hb m s hJ P fm n z hC hm L w0 L0 a w K fr (.inLoop z::k) cs;cases e with
    |normal=>
     obtain⟨I,⟨M,S,T,V,X⟩,H⟩:=q;obtain⟨E,D,F,p,d⟩:=ih M V S A W T (X _ _ _ _ _ _ H);exact⟨E,D,F,p,.of_steps (Steps.trans h (.one step_inLoop)) d⟩
    |exit Y=>obtain⟨I,q,H⟩:=q;refine⟨.exit Y,A,W,?_,.pass (x:=.inLoop z) rfl (λ_ _=>.inl (by simp)) h⟩;exact⟨I,q,H⟩
    |ret=>obtain⟨I,q,H⟩:=q;refine⟨.ret,A,W,?_,.pass (x:=.inLoop z) rfl (λ_ _=>.inl (by simp)) h⟩;exact⟨I,q,H⟩
    |goto l=>trivial
    |panic ch=>trivial
    |outgrown=>trivial
  obtain⟨e,G,w',q,h⟩:=R m0 s0 a w N (O _ _ _ _ _ _ K);exact⟨e,G,w',q,.of_steps (.one step_loop) h⟩
 |region Y ops Z=>obtain⟨_,_,_,h2,_⟩:=yE g (λe=>by cases e) (λ_ e=>by cases e);cases h2
 |seq x y=>simp only[tr]at g;grind
 |cond c x y=>simp only[tr]at g;grind
 |block Y b=>simp[tr]at g
 |_=>cases g
end
end Go.Abs
namespace Go.Abs
open Go Go.RowKit
inductive Cz(ρ:Nat->Nat)(Fz:Nat->Prop)(H H':HF):AV->AV->Prop
 |u (a:AV):Cz ρ Fz H H' a .u
 |v (x:Value):Cz ρ Fz H H' (.v x) (.v x)
 |emp:Cz ρ Fz H H' .emp .emp
 |j_ (es:Nat):Cz ρ Fz H H' .emp (.rd es [])
 |rd (es:Nat) (l l':List (List AV)) (hl:l.length=l'.length) (hz: ∀(i:Nat) (e e':List AV),l[i]?=U e->l'[i]?=U e'->e.length=e'.length)
  (h: ∀(i:Nat) (e e':List AV) (j:Nat) (x x':AV),l[i]?=U e->l'[i]?=U e'->e[j]?=U x->e'[j]?=U x'->Cz ρ Fz H H' x x'):Cz ρ Fz H H' (.rd es l) (.rd es l')
 |rp (cs nv:List AV) (hl:cs.length=nv.length) (h: ∀(j:Nat) (x x':AV),cs[j]?=U x->nv[j]?=U x'->Cz ρ Fz H H' x x'):Cz ρ Fz H H' (.rp cs) (.rp nv)
 |agg (cs nv:List AV) (hl:cs.length=nv.length) (h: ∀(j:Nat) (x x':AV),cs[j]?=U x->nv[j]?=U x'->Cz ρ Fz H H' x x'):Cz ρ Fz H H' (.agg cs) (.agg nv)
 |iZ (cs nv:List AV) (hl:cs.length=nv.length) (h: ∀(j:Nat) (x x':AV),cs[j]?=U x->nv[j]?=U x'->Cz ρ Fz H H' x x'):Cz ρ Fz H H' (.iZ cs) (.iZ nv)
 |clo (f:Nat) (cs nv:List AV) (hl:cs.length=nv.length) (h: ∀(j:Nat) (x x':AV),cs[j]?=U x->nv[j]?=U x'->Cz ρ Fz H H' x x'):Cz ρ Fz H H' (.clo f cs) (.clo f nv)
 |ref (a off len:Nat) (o:iu) (h:H' a=U (U o)):Cz ρ Fz H H' (.ref (ρ a) off len) (.ref a off len)
 |ptr (a i j:Nat) (o:iu) (h:H' a=U (U o)):Cz ρ Fz H H' (.ptr (ρ a) i j) (.ptr a i j)
 |np (a:Nat) (o:iu) (h:H' a=U (U o)):Cz ρ Fz H H' (.np (ρ a)) (.np a)
 |er:Cz ρ Fz H H' .er .er
 |xP (i off len:Nat) (o:iu) (l':List (List AV)) (hz:Fz i) (ho:H i=U (U o)) (hle:off+len<=o.el.length) (hl:len=l'.length)
  (hlz: ∀(k:Nat) (e e':List AV),o.el[off+k]?=U e->l'[k]?=U e'->e.length=e'.length)
  (h: ∀(k:Nat) (e e':List AV) (j:Nat) (x x':AV),o.el[off+k]?=U e->l'[k]?=U e'->e[j]?=U x->e'[j]?=U x'->Cz ρ Fz H H' x x'):
  Cz ρ Fz H H' (.ref i off len) (.rd (wd o.es) l')
structure E0(ρ:Nat->Nat)(Fz:Nat->Prop)(H H':HF)(base:Nat):Prop where
 inj: ∀a b o o',H' a=U (U o)->H' b=U (U o')->ρ a=ρ b->a=b
 low: ∀a,a<base->ρ a=a/\ (H a≠zz->H' a≠zz)
 obj: ∀a o',H' a=U (U o')-> ¬Fz (ρ a)/\ ∃o,H (ρ a)=U (U o)/\o'.es=o.es/\o'.el.length=o.el.length/\
  ∀(i:Nat) (e e':List AV),o.el[i]?=U e->o'.el[i]?=U e'->e.length=e'.length/\ ∀(j:Nat) (x x':AV),e[j]?=U x->e'[j]?=U x'->Cz ρ Fz H H' x x'
def lz(ρ:Nat->Nat)(H':HF)(L:Nat->Loc):Nat->Loc:=λa=>
 match H' a with
 |none=>.fresh
 |some zz=>match L a with
  | .hid g=>.hid g
  |_=>.dead
 |some (U _)=>L (ρ a)
section
variable{fm:FM}{w:World}{L:Nat->Loc}{ρ:Nat->Nat}{Fz:Nat->Prop}{H H':HF}{base:Nat}
theorem Kx{a g e c:Nat}(h:lz ρ H' L a= .cells g e c):(∃o,H' a=U (U o))/\L (ρ a)= .cells g e c:=by
 unfold lz at h;grind
theorem Ky{a g:Nat}{i:Bool}(h:lz ρ H' L a= .mp i g):(∃o,H' a=U (U o))/\L (ρ a)= .mp i g:=by
 unfold lz at h;grind
theorem xQ{a:Nat}{o:iu}(h:H' a=U (U o)):lz ρ H' L a=L (ρ a):=by simp[lz,h]
theorem Ou{b:Nat}(h:kN (lz ρ H' L) b):kN L b:=by
 rcases h with⟨a,e,c,h⟩| ⟨a,i,h⟩
 .exact .inl ⟨_,e,c,(Kx h).2⟩
 .exact .inr ⟨_,i,(Ky h).2⟩
theorem Ov{a:Nat}{g:Nat->Prop}(h:lz ρ H' L a= .hid g): ∃b,L b= .hid g:=by
 unfold lz at h;grind
theorem Kz{b:Nat}(h:ma (lz ρ H' L) b):ma L b:=by
 rcases h with h| ⟨a,s,h,H⟩
 .exact .inl (Ou h)
 .obtain⟨b,d⟩:=Ov h;exact .inr ⟨b,s,d,H⟩
theorem ug(hz:E0 ρ Fz H H' base)(S:HR fm w L H){a a':AV}(hc:Cz ρ Fz H H' a a'): ∀{x:Value},VR fm w L x a->VR fm w (lz ρ H' L) x a':=by
 induction hc with
 |u a=>intro x _;exact .u x
 |v y=>intro x h;rw[kI h];exact .v y
 |emp=>intro x h;obtain⟨A,rfl⟩:=uJ h;exact .emp A
 |j_ es=>intro x h;obtain⟨A,rfl⟩:=uJ h;exact .lT A es 0
 |rd es l l' C F h M=>
  intro x D;rcases wK D with⟨rfl,A,c,rfl⟩| ⟨b,o,c,vals,rfl,a6,V,a0,a7,Q,W,X,h1,I⟩
  .have:l'=[]:=mC.1 C.symm;subst this;exact .lT A es c
  .have T: ∀(i:Nat) (e':List AV) (j:Nat) (Y:AV),l'[i]?=U e'->e'[j]?=U Y-> ∃e y,l[i]?=U e/\e[j]?=U y:=by
    intro i e' j Y N d;obtain⟨e,he⟩:=lQ C N;obtain⟨y,z⟩:=lQ (F i e e' he N) d;exact⟨e,y,he,z⟩
   rw[C];exact .rd b o c es l' vals (λe=>a6 (mC.1 (by rw[C,e];rfl))) (λe' Z=>by
     obtain⟨i,N,he⟩:=List.mem_iff_getElem.1 Z;have a1:l'[i]?=U e':=by rw[je N,he]
     obtain⟨e,a2⟩:=lQ C a1;rw[<-F i e e' a2 a1];exact V e (jc a2)) a0 (by omega) (λho=>Q (Kz ho)) W
    (λi e' j Y N d=>by obtain⟨e,y,h2,h3⟩:=T i e' j Y N d;exact X i e j y h2 h3)
    (λi e' j Y N d=>by obtain⟨e,y,h2,h3⟩:=T i e' j Y N d;exact h1 i e j y h2 h3)
    (λi e' j Y N d=>by obtain⟨e,y,h2,h3⟩:=T i e' j Y N d;exact M i e e' j y Y h2 N h3 d (I i e j y h2 h3))
 |rp cs G C h M=>
  intro x D;obtain⟨b,o,vals,rfl,Q,W,X,h1,I⟩:=BV D;exact .rp b o G vals (λho=>Q (Kz ho)) W
   (λj Y d=>by obtain⟨y,z⟩:=lQ C d;exact X j y z)
   (λj Y d=>by obtain⟨y,z⟩:=lQ C d;exact h1 j y z)
   (λj Y d=>by obtain⟨y,z⟩:=lQ C d;exact M j y Y z d (I j y z))
 |agg cs G C h M=>
  intro x D;obtain⟨xs,rfl,hs,q⟩:=wJ D;exact .agg xs G (by omega) (λj Y d=>by obtain⟨y,z⟩:=lQ C d;exact(q j y z).1)
   (λj Y d=>by obtain⟨y,z⟩:=lQ C d;exact M j y Y z d (q j y z).2)
 |iZ cs G C h M=>
  intro x D;obtain⟨xs,rfl,hs,q⟩:=EL D;exact .iZ xs G (by omega) (λj Y d=>by obtain⟨y,z⟩:=lQ C d;exact M j y Y z d (q j y z))
 |clo f cs G C h M=>
  intro x D;obtain⟨g,xs,rfl,hf,hs,q⟩:=Gm D;subst hf;exact .clo g xs G (by omega) (λj Y d=>by obtain⟨y,z⟩:=lQ C d;exact M j y Y z d (q j y z))
 |ref a O len o h=>
  intro x D;obtain⟨_,o2,P,_⟩:=hz.obj a o h;rcases td S P D with⟨g,es,cap,E,e1,e2,rfl⟩| ⟨A,b0,E,a3,rfl,rfl,rfl⟩
  .exact .jH g es cap a O len (by rw[xQ h];exact E) e2
  .exact .jo A a b0 (by rw[xQ h];exact E) a3
 |ptr a i j o h=>
  intro x D;obtain⟨_,o2,P,_⟩:=hz.obj a o h;obtain⟨g,es,cap,E,e1,rfl⟩:=Kb S P D;exact .lg g es cap a i j (by rw[xQ h];exact E)
 |np a o h=>
  intro x D;obtain⟨_,o2,P,_⟩:=hz.obj a o h;rcases Kc S P D with⟨g,E,ht,hv⟩| ⟨g,E,rfl⟩| ⟨g,E,rfl⟩
  .exact .qT g a x (by rw[xQ h];exact E) ht hv
  rotate_left
  .exact .rY g a (by rw[xQ h];exact E)
  .exact .rX g a (by rw[xQ h];exact E)
 |er=>intro x D;cases D with|er t p=>exact .er t p
 |xP i O len o l' a8 ho af C F h M=>
  intro x D;rcases td S ho D with⟨g,es,cap,E,e1,e2,rfl⟩| ⟨A,b0,E,a3,rfl,rfl,rfl⟩
  .subst e1;by_cases a4:l'=[]
   .subst a4;subst C;exact .lT _ _ _
   .have R:=S.obj i o ho;rw[E]at R;obtain⟨_,V,a7,ag,q,cur,ty,hg,ah,I⟩:=R;have a9:=(pV.1 hg).1;have T: ∀(k:Nat) (e':List AV),l'[k]?=U e'-> ∃e,o.el[O+k]?=U e:=by
     intro k e' J;have:=(iP.1 J).1;exact⟨o.el[O+k],je (by omega)⟩
    have aa: ∀k e K y,o.el[O+k]?=U e->e[K]?=U y->(O+k)*(wd o.es)+K<cur.size:=by
     intro k e K y h1 d;have h2:=(iP.1 h1).1;have h3:=q e (jc h1);have h4:=(iP.1 d).1;have h5:(O+k+1)*(wd o.es)<=cap*(wd o.es):=lD _ (by omega);rw[nY]at h5;omega
    have ab: ¬ma (lz ρ H' L) g:=by
     rintro((⟨b,e,c,Q⟩| ⟨b,i',Q⟩)| ⟨b,s,Q,ac⟩)
     .obtain⟨⟨ob,R⟩,ad⟩:=Kx Q;have:=S.inj _ _ _ _ _ _ _ ad E;exact(hz.obj b ob R).1 (by rw[this];exact a8)
     .obtain⟨_,hm,hn⟩:=S.Ew (Ky Q).2;rw[hg]at hm;injection hm with hm;exact hn _ _ _ hm.symm
     .obtain⟨b',ae⟩:=Ov Q;exact(S.hid b' s ae g ac).2 (.inl ⟨i,_,_,E⟩)
    rw[C];refine .rd g (O*(wd o.es)) (cap-O) (wd o.es) l' (λk K=>cur.getD ((O+k)*(wd o.es)+K) undef) a4 (λe' Z=> ?_) V (by omega) ab a9 (λk e' K Y J d=> ?_) (λk e' K Y J d=> ?_) (λk e' K Y J d=> ?_)
    .obtain⟨k,J,he⟩:=List.mem_iff_getElem.1 Z;have a5:l'[k]?=U e':=by rw[je J,he]
     obtain⟨e,B⟩:=T k e' a5;rw[<-F k e e' B a5];exact q e (jc B)
    .obtain⟨e,B⟩:=T k e' J;obtain⟨y,z⟩:=lQ (F k e e' B J) d;rw[cell_of_row w g _ cur ty (0,0) hg,<-nY];exact BT (aa k e K y B z)
    .obtain⟨e,B⟩:=T k e' J;obtain⟨y,z⟩:=lQ (F k e e' B J) d;exact(I _ e K y B z).1
    .obtain⟨e,B⟩:=T k e' J;obtain⟨y,z⟩:=lQ (F k e e' B J) d;exact M k e e' K y Y B J z d (I _ e K y B z).2
  .have:l'=[]:=mC.1 C.symm;subst this;exact .lT _ _ _
theorem Xy(A:E0 ρ Fz H H' base)(q:HR fm w L H):HR fm w (lz ρ H' L) H':=by
 refine⟨λa o' p=> ?_,λa p=> ?_,λa=> ?_,λa b g e c e' c' p Z=> ?_,λa s p g hg=> ?_,λa o' g es cap h1 h2 F=> ?_,λa i g p=> ?_,q.tab.loc λb _ h=>Kz h⟩
 .obtain⟨_,o,ho,E,D,z⟩:=A.obj a o' p;rw[xQ p];have ae:=q.obj (ρ a) o ho;revert ae;cases hL:L (ρ a)with
  |fresh=>exact id
  |dead=>exact id
  |hid g=>exact id
  |nil=>intro h1;exact⟨mC.1 (by rw[D,show o.el=[]from h1.1];rfl),λh0=>h1.2 (E.symm.trans h0)⟩
  |cells g es cap=>
   rintro⟨h0,h1,h2,F,h4,cur,ty,h5,h6,h7⟩;refine⟨by rw[E];exact h0,h1,by omega,F,λe' af=> ?_,cur,ty,h5,h6,λi e' j X M K=> ?_⟩
   .obtain⟨k,hk,he⟩:=List.mem_iff_getElem.1 af;have a5:o'.el[k]?=U e':=by rw[je hk,he]
    obtain⟨e,d⟩:=lQ D.symm a5;rw[<-(z k e e' d a5).1];exact h4 e (jc d)
   .obtain⟨e,d⟩:=lQ D.symm M;obtain⟨y,hy⟩:=lQ (z i e e' d M).1 K;exact⟨(h7 i e j y d hy).1,ug A q ((z i e e' d M).2 j y X hy K) (h7 i e j y d hy).2⟩
  |mp i g=>
   have a6: ∀{x:List AV},o.el=[x]-> ∃X,o'.el=[X]/\x.length=X.length/\ (∀(j:Nat) (y y':AV),x[j]?=U y->X[j]?=U y'->Cz ρ Fz H H' y y'):=by
    intro x hx;rw[hx]at D z
    match a7:o'.el,D with
    | [X],_=>exact⟨X,rfl,(z 0 _ X rfl (by rw[a7];rfl)).1,(z 0 _ X rfl (by rw[a7];rfl)).2⟩
   have N: ∀{R R':AV} {W:Nat} {el:List (List AV)},Cz ρ Fz H H' R R'->R= .rd W el->R'= .u\/ ∃el',R'= .rd W el'/\el.length=el'.length/\ ∀(i:Nat) (e e':List AV),el[i]?=U e->el'[i]?=U e'->e.length=e'.length/\ ∀(j:Nat) (x X:AV),e[j]?=U x->e'[j]?=U X->Cz ρ Fz H H' x X:=by
    intro R R' W el G hR;subst hR;cases G with
    |u=>exact .inl rfl
    |rd es l l' I A h=>exact .inr ⟨l',rfl,I,λi e e' h1 h2=>⟨A i e e' h1 h2,λj x X F h4=>h i e e' j x X h1 h2 F h4⟩⟩
   cases i with
   |true=>
    rintro⟨h0,a0,s,t,S,an,g',O,a1,J,h1,h2,F,h4,h5,h6,h7⟩;obtain⟨X,e1,B,C⟩:=a6 h2
    match X,B with
    | [ag,s',t',S',a2],_=>
      refine⟨E.trans h0,ag,s',t',S',a2,g',O,a1,J,h1,e1,ug A q (C 0 _ _ rfl rfl) F,ug A q (C 1 _ _ rfl rfl) h4,ug A q (C 2 _ _ rfl rfl) h5,ug A q (C 4 _ _ rfl rfl) h6,?_⟩;have a8:=C 3 _ _ rfl rfl;rcases h7 with rfl| ⟨W,bl,rfl,h8⟩
      .cases a8;exact .inl rfl
      .rcases N a8 rfl with e| ⟨el',e,a9,ah⟩
       .exact .inl e
       .refine .inr ⟨W,el',e,h8.1.trans a9,λi e' M=> ?_⟩;obtain⟨e,d⟩:=lQ a9 M;obtain⟨n,b,k1,rfl,k3⟩:=h8.2 i e d;obtain⟨I,G⟩:=ah i _ e' d M
        match e',I,G with
        | [b'],_,G=>exact⟨n,b',k1,rfl,ug A q (G 0 _ _ rfl rfl) k3⟩
   |false=>
   rintro⟨h0,ms,P,c0,R,a3,h1,h2,ai,ht,a4,F⟩;obtain⟨X,e1,B,C⟩:=a6 h2
   match X,B with
   | [],B=>simp at B
   | [_],B=>simp at B
   |aj::R'::T,B=>
   have ak:a3.length=T.length:=by simpa using B
   refine⟨by rw[E];exact h0,ms,P,aj,R',T,h1,e1,ug A q (C 0 _ _ rfl rfl) ai,λt' al=> ?_,a4,?_⟩
   .obtain⟨j,K⟩:=mE.1 al;obtain⟨t,aa⟩:=lQ ak K;exact ug A q (C (j+2) t t' (by simpa using aa) (by simpa using K)) (ht t (jc aa))
   have ab:=C 1 _ _ rfl rfl;rcases F with rfl| ⟨W,el,rfl,F⟩
   .cases ab;exact .inl rfl
   rcases N ab rfl with e| ⟨el',e,ac,am⟩
   .exact .inl e
   refine .inr ⟨W,el',e,F.len.trans ac,λi e' M=> ?_⟩;obtain⟨e,d⟩:=lQ ac M;obtain⟨m,b,k,r,k1,rfl,k2,k3,k4⟩:=F.row i e d;obtain⟨I,G⟩:=am i _ e' d M
   match e',I,G with
   | [],I,_=>simp at I
   | [_],I,_=>simp at I
   |b'::k'::r',I,G=>
    have Q:r.length=r'.length:=by simpa using I
    refine⟨m,b',k',r',k1,rfl,ug A q (G 0 b b' rfl rfl) k2,ug A q (G 1 k k' rfl rfl) k3,?_⟩;have ad: ∀j x X,r[j]?=U x->r'[j]?=U X->Cz ρ Fz H H' x X:=λj x X h1 h2=>G (j+2) x X (by simpa using h1) (by simpa using h2);rw[E];rcases k4 with⟨q0,a,rfl,q1,q2⟩| ⟨q0,xs,q1,q2⟩
    .match r',Q with
     | [a'],_=>exact .inl ⟨q0,a',rfl,q1,ug A q (ad 0 a a' rfl rfl) q2⟩
    .obtain⟨ao,e,s1,s2⟩:=wJ q2;injection e with e;subst e
     refine .inr ⟨q0,xs,q1,.agg xs r' (by omega) (λj a' K=> ?_) (λj a' K=> ?_)⟩
     .obtain⟨a,p⟩:=lQ Q K;exact(s2 j a p).1
     .obtain⟨a,p⟩:=lQ Q K;exact ug A q (ad j a a' p K) (s2 j a p).2
 .cases h:H' a with
  |none=>simp[lz,h]at p
  |some oo=>
   cases oo with
   |some o=>exact⟨o,rfl⟩
   |none=>
    simp only[lz,h]at p;exfalso;rcases p with⟨g,es,cap,p⟩| ⟨_,p⟩<;>(split at p<;>cases p)
 .cases h:H' a with
  |none=>simp[lz,h]
  |some oo=>
   cases oo with
   |some o=>
    rw[xQ h];obtain⟨_,o2,V,_⟩:=A.obj a o h;constructor
    .intro hf;have:=(q.fresh _).1 hf;rw[V]at this;cases this
    .intro hn;cases hn
   |none=>
    simp only[lz,h];constructor
    .intro hf;split at hf<;>cases hf
    .intro hn;cases hn
 .obtain⟨⟨o,ho⟩,h1⟩:=Kx p;obtain⟨⟨o',Y⟩,h2⟩:=Kx Z;exact A.inj a b o o' ho Y (q.inj _ _ _ _ _ _ _ h1 h2)
 .obtain⟨b,Z⟩:=Ov p;exact⟨(q.hid b _ Z _ hg).1,λG=>(q.hid b _ Z _ hg).2 (Ou G)⟩
 .obtain⟨_,o2,V,E,_⟩:=A.obj a o' h1;rw[xQ h1]at F;exact q.qw _ o2 g es cap V (by rw[<-E];exact h2) F
 .obtain⟨⟨o,ho⟩,h1⟩:=Ky p;refine⟨⟨o,ho⟩,λb j Z=> ?_⟩;obtain⟨⟨o',Y⟩,h2⟩:=Ky Z;exact A.inj a b o o' ho Y ((q.qU _ _ g h1).2 _ _ h2)
theorem Xz(z:E0 ρ Fz H H' base)(k:HR fm w L H){a:Nat}(p:a<base)(q:L a≠ .fresh):lz ρ H' L a=L a\/(lz ρ H' L a= .dead/\ ∀g,L a≠ .hid g):=by
 obtain⟨h1,h2⟩:=z.low a p;have y:H a≠none:=λe=>q ((k.fresh a).2 e);cases h:H' a with
 |none=>simp_all
 |some O=>
  cases O with
  |some o=>rw[xQ h,h1];simp
  |none=>
   cases d:L a with
   |hid g=>left;simp[lz,h,d]
   |_=>right;simp[lz,h,d]
theorem XA(z:E0 ρ Fz H H' base)(k:HR fm w L H){L0:Nat->Loc}{n:Nat}(h: ∀b,L0 b≠ .fresh->b<base)(d:hY L0 L n):hY L0 (lz ρ H' L) n:=by
 refine⟨λa g=> ?_,λb h=>d.own b (Kz h),λb h=>d.r_ b (Ou h)⟩;rcases d.old a g with e| ⟨e,p⟩
 .rcases Xz z k (h a g) (by simp_all)with e'| ⟨e',p⟩
  .simp_all
  simp_all
 .rcases Xz z k (h a g) (by simp_all)with e'| ⟨e',_⟩
  .simp_all
  simp_all
end
theorem Ysx{st S:jI}(ρ:Nat->Nat)(Fz:Nat->Prop)(h:E0 ρ Fz (hf st.heap) (hf S.heap) st.base)(A:S.base=st.base)
  (d: ∀t,Cz ρ Fz (hf st.heap) (hf S.heap) (jk st.env t) (jk S.env t)):Wk st S:=by
 intro fm n w0 L0 a w g;obtain⟨h1,h2,k,L,p,q,H,y⟩:=g;exact⟨h1,h2,λb z=>by simp_all,_,p,XA h H k q,Xy h H,λt=>ug h H (d t) (y t)⟩
end Go.Abs
namespace Go.Abs
open Go Go.RowKit
inductive RV where
 |t (n:Nat)
 |c (n:Nat) (g:Bool) (sz:Nat)
def so(P:Program):List ResultVar->Option (List RV)
 | []=>U []
 | .tmp t::r=>(so P r).map (.t t:: ·)
 | .cell a t::r=>match kc P t,jU P t,so P r with
   |some g,U n,U l=>U (.c a g n::l)
   |_,_,_=>zz
def lk(P:Program)(fm:FM)(pf:Nat->Bool)(f:FuncId):Option (Nat×List RV×i_):=
 match P.funcs[f]? with
 |some F=>match F.body with
  |some c=>match F.name== "runtime.NumGoroutine",so P F.results.toList,tr P fm pf F.ntmps c with
   |false,U ts,U A=>U (F.ntmps,ts,A)
   |_,_,_=>zz
  |none=>zz
 |none=>zz
def sp:Nat->List AV->Env
 |_,[]=>[]
 |i,a::r=>(i,a)::sp (i+1) r
def YCo(s:jI)(r:RV)(v:AV):Prop:=
 match r with
 | .t n=>v=jk s.env n
 | .c n g sz=>kA (.load g sz (.t n)) s.env (hf s.heap) 0 (λV _=>V=v)
def Au(s:jI):List RV->List AV->Prop
 | [],[]=>True
 |r::rs,v::vs=>YCo s r v/\Au s rs vs
 |_,_=>False
def qd:List AV->AV
 | [v]=>v
 |vs=>.iZ vs
def Fin(s:jI)(R r:AV)(H':ic):Prop:= ∀(fm:FM) (w:World) (L:Nat->Loc) (x:Value),HR fm w L (hf s.heap)->VR fm w L x R->
 ∃d,(∀(L0:Nat->Loc) (n:Nat),(∀b,L0 b≠ .fresh->b<s.base)->hY L0 L n->hY L0 d n)/\HR fm w d (hf H')/\VR fm w d x r
theorem XB{s:jI}{R r:AV}{H':ic}(ρ:Nat->Nat)(Fz:Nat->Prop)(h:E0 ρ Fz (hf s.heap) (hf H') s.base)(d:Cz ρ Fz (hf s.heap) (hf H') R r):Fin s R r H':=
 λ_ _ _ _ H g=>⟨_,λ_ _ k p=>XA h H k p,Xy h H,ug h H d g⟩
theorem XC{s:jI}{R r:AV}(h:Coe R r):Fin s R r s.heap:=
 λ_ _ L _ H d=>⟨L,λ_ _ _ g=>g,H,BX h d⟩
def yG(ts:List RV)(r:AV)(H':ic):Ex->jI->Prop
 | .exit _,_=>False
 |_,s=> ∃vs,Au s ts vs/\Fin s (qd vs) r H'
theorem XD: ∀(args:List AV) (i t:Nat),jk (sp i args) t=if i<=t then(args[t-i]?).getD .u else .u
 | [],i,t=>by simp[sp,jk]
 |a::r,i,t=>by
  simp only[sp,jk];by_cases h:i=t
  .simp_all
  .have h1:(i==t)=false:=by simp[h]
   rw[h1,cond_false,XD r (i+1) t];grind
def Ow(T:Array Value):ResultVar->Sem Value
 | .tmp t=>pure (T.getD t undef)
 | .cell a t=>do loadVar t (<-asAddr (T.getD a undef))
def tj:List Value->Value
 | [v]=>v
 |vs=>.tuple vs.toArray
def Ox(P:Program)(T:Array Value)(w:World):List ResultVar->List Value->Prop
 | [],[]=>True
 |r::rs,y::ys=>(Ow T r).run P w= .ok y w/\Ox P T w rs ys
 |_,_=>False
theorem Ysy{P:Program}{F:Func}{rs:List ResultVar}(h2:F.results=rs.toArray)(H:rs.length<=4){T:Array Value}{w:World}{ys:List Value}(h:Ox P T w rs ys):
  (results F T).run P w= .ok (tj ys) w:=by
 have g:results F T=(do
  let vs<-F.results.mapM (Ow T)
  pure (if h:vs.size=1 then vs[0]else .tuple vs)):=rfl
 rw[g,h2]
 match rs,ys,H,h with
 | [],[],_,_=>simp[tj]
 | [r],[y],_,⟨k,_⟩=>simp[tj,k]
 | [r,R],[y,Y],_,⟨k,K,_⟩=>simp[tj,k,K]
 | [r,R,p],[y,Y,q],_,⟨k,K,d,_⟩=>simp[tj,k,K,d]
 | [r,R,p,A],[y,Y,q,B],_,⟨k,K,d,z,_⟩=>simp[tj,k,K,d,z]
section
variable{P:Program}{fm:FM}{w:World}{L:Nat->Loc}
theorem Oy{s:jI}{a:Act}(q:HR fm w L (hf s.heap))(p:ER fm w L a s.env): ∀{rs:List ResultVar} {ts:List RV} {vs:List AV},so P rs=U ts->Au s ts vs->
  rs.length=ts.length/\ ∃ys:List Value,Ox P a.tmps w rs ys/\ys.length=vs.length/\ ∀(j:Nat) (v:AV),vs[j]?=U v-> ∃y,ys[j]?=U y/\VR fm w L y v
 | [],ts,vs,h1,h2=>by
   simp[so]at h1;subst h1;cases vs with
   |nil=>exact⟨rfl,[],trivial,rfl,λj v h=>by grind⟩
   |cons v vs=>trivial
 | .tmp t::r,ts,vs,h1,h2=>by
   simp only[so,lS]at h1;obtain⟨T,h1,rfl⟩:=h1;cases vs with
   |nil=>trivial
   |cons v vs=>
    obtain⟨h2,z⟩:=h2;obtain⟨I,ys,k,K,B⟩:=Oy q p h1 z;refine⟨by grind,a.tmps.getD t undef::ys,⟨rfl,k⟩,by grind,λj x d=> ?_⟩;cases j with
    |zero=>simp at d;subst d;exact⟨_,rfl,by have C:v=jk s.env t:=h2;rw[C];exact p t⟩
    |succ j=>simp_all
 | .cell b t::r,ts,vs,h1,h2=>by
   simp only[so]at h1;split at h1
   .rename_i g n l F G J;injection h1 with h1;subst h1
    cases vs with
    |nil=>trivial
    |cons v vs=>
     obtain⟨h2,z⟩:=h2;obtain⟨I,ys,k,K,B⟩:=Oy q p J z;have M: ∃A y,a.tmps.getD b undef= .pointer (U A)/\ (loadVar t A).run P w= .ok y w/\VR fm w L y v:=by
      have H:kA (.load g n (.t b)) s.env (hf s.heap) 0 (λV _=>V=v):=h2;simp only[kA,jh]at H;have d:=p b;split at H<;>try trivial
      .rename_i cs e;have e':jk s.env b= .rp cs:=e;rw[e']at d;obtain⟨X,o,vals,E,Y,N,O,h1,D⟩:=BV d;obtain⟨y,V,k,K,B⟩:=J8 (P:=P) (w:=w) F G O h1 D H;simp_all
      .rename_i Q i j e;have e':jk s.env b= .ptr Q i j:=e;rw[e']at d;obtain⟨o,R,el,S,H⟩:=H;obtain⟨A,y,V,E,k,K,B⟩:=V3 F G q R d S H;simp_all
     obtain⟨A,y,E,W,Z⟩:=M;refine⟨by grind,y::ys,⟨by simp[Ow,E,asAddr,W],k⟩,by grind,λj x d=> ?_⟩;grind
   trivial
theorem Ysz{ys:List Value}{vs:List AV}(H:ys.length=vs.length)(h: ∀(j:Nat) (v:AV),vs[j]?=U v-> ∃y,ys[j]?=U y/\VR fm w L y v):VR fm w L (tj ys) (qd vs):=by
 have k:VR fm w L (.tuple ys.toArray) (.iZ vs):=by
  refine .iZ _ _ (by trivial) (λj c d=> ?_);obtain⟨y,h1,h2⟩:=h j c d;simp_all
 match ys,vs,H with
 | [],[],_=>exact k
 | [y],[v],_=>obtain⟨Y,h1,h2⟩:=h 0 v rfl;simp at h1;subst h1;exact h2
 |_::_::_,_::_::_,_=>exact k
end
theorem XE{P:Program}{fm:FM}{pf:Nat->Bool}{f:FuncId}{n:Nat}{ts:List RV}{A:i_}(h:lk P fm pf f=U (n,ts,A)):
  ∃F c,P.funcs[f]?=U F/\F.body=U c/\kB P f=zZ/\so P F.results.toList=U ts/\F.ntmps=n/\tr P fm pf n c=U A:=by
 unfold lk at h;cases d:P.funcs[f]? with
 |none=>simp_all
 |some F=>
  simp only[d]at h;cases H:F.body with
  |none=>simp_all
  |some c=>
   simp only[H]at h;split at h
   .rename_i T g q k p;injection h with h;injection h with e1 h;injection h with e2 e3
    subst e1;subst e2;subst e3;exact⟨F,c,rfl,H,by simp[kB,d,H];simp_all,k,rfl,p⟩
   trivial
theorem KB{P:Program}{fm:FM}{C:Ctx}(R:jq P fm C)(S:P.follows .mixedOrders=zZ){f:FuncId}{n:Nat}{ts:List RV}{K:i_}(h:lk P fm C.pf f=U (n,ts,K))
  (h4:ts.length<=4) {M:vP} (z: ∀args H r H',M args H r H'->args.length<=n/\Sat C K (yG ts r H') ⟨sp 0 args,H,H.length⟩):qc P fm f M:=by
 obtain⟨F,c,A,T,g,k,W,X⟩:=XE h;subst W;intro args H r H' B;obtain⟨N,q⟩:=z args H r H' B;refine⟨g,λw L vs O Y d=>calls_of_wp A T ?_⟩;have D:SR fm F.ntmps w L ⟨sp 0 args,H,H.length⟩ ⟨vs++Array.replicate (F.ntmps-vs.size) undef,[]⟩ w:=by
  refine⟨rfl,by simp_all,λb E=> ?_,L,iv.refl _ _,hY.refl _ _,O,λt=> ?_⟩
  .apply Classical.byContradiction;intro Z;exact E ((O.fresh b).2 (qb (by simp_all)))
  .rw[XD];cases hj:args[t]? with
   |none=>exact .u _
   |some a=>
    have:=d t a hj;rw[mI]at this⊢;grind
 have p: ∀a w',(∃s,(∃vs,Au s ts vs/\Fin s (qd vs) r H')/\SR fm F.ntmps w L s a w')->a.defers=[]/\ ∃v,(results F a.tmps).run P w'= .ok v w'/\
   ∃V G,Ending.returned v= .returned V/\iv L w w'/\hY L G w.heap.size/\HR fm w' G (hf H')/\VR fm w' G V r:=by
  rintro a w' ⟨s,⟨vs,d,y⟩,z⟩;obtain⟨h1,h2,h3,L1,I,h5,Q,h7⟩:=z;obtain⟨k0,ys,k1,k2,k3⟩:=Oy Q h7 k d;obtain⟨L2,j1,j2,j3⟩:=y fm w' L1 _ Q (Ysz k2 k3);exact⟨h1,_,Ysy (rs:=F.results.toList) (by simp) (by omega) k1,_,L2,rfl,I,j1 L _ h3 h5,j2,j3⟩
 refine wp_mono (q P fm F.ntmps c R S X w L _ w D) (λe a w' J=> ?_);cases e with
 |normal=>exact p a w' J
 |ret=>exact p a w' J
 |exit id=>obtain⟨s,hq,_⟩:=J;trivial
 |goto l=>trivial
 |panic ch=>trivial
 |outgrown=>trivial
end Go.Abs
namespace Go.Abs
open Go Go.RowKit
def Z(n:Nat)(X:ic):ic:=List.replicate n zz++X
theorem YsA(n:Nat)(X:ic):(Z n X).length=n+X.length:=by simp[Z]
theorem Oz(n:Nat)(X:ic)(i:Nat):(Z n X)[n+i]?=X[i]?:=by
 simp only[Z];grind
theorem YsB(n:Nat)(X:ic)(i:Nat)(h:i<n):(Z n X)[i]?=U none:=by
 simp only[Z];grind
theorem XF(n:Nat)(a:Nat)(o:iu):hf (Z n []) a≠U (U o):=by
 simp only[hf,Z,List.append_nil,vN];simp
def q_(R:List AV->AV->Prop):vP:=λargs H r H'=> ∃n,H=Z n []/\H'=H/\ (∀a∈args,NR a)/\NR r/\R args r
def Out(H:ic)(a r:AV):Prop:=Cz id (λ_=>True) (hf H) (λ_=>zz) a r
def B5(n:Nat)(ts:List RV)(r:AV):Ex->jI->Prop
 | .exit _,_=>False
 |_,s=>s.base=n/\ ∃vs,Au s ts vs/\Out s.heap (qd vs) r
theorem YsC{H:ic}{H':HF}{a r:AV}(h:Out H a r):Cz id (λ_=>True) (hf H) H' a r:=by
 induction h with
 |u a=>exact .u a
 |v x=>exact .v x
 |emp=>exact .emp
 |j_ es=>exact .j_ es
 |rd es l l' d z h I=>exact .rd es l l' d z I
 |rp cs C d h I=>exact .rp cs C d I
 |agg cs C d h I=>exact .agg cs C d I
 |iZ cs C d h I=>exact .iZ cs C d I
 |clo f cs C d h I=>exact .clo f cs C d I
 |ref a O len o h=>cases h
 |ptr a i j o h=>cases h
 |np a o h=>cases h
 |er=>exact .er
 |xP i O len o l' z p g d k h I=>exact .xP i O len o l' z p g d k I
theorem XG{s:jI}{n:Nat}(d:s.base=n){R r:AV}(h:Out s.heap R r):Fin s R r (Z n []):=by
 refine XB id (λ_=>True) ⟨λa b o o' H=>absurd H (XF n a o),λa H=>⟨rfl,λ_=> ?_⟩,λa o H=>absurd H (XF n a o)⟩ (YsC h);rw[d]at H;simp[hf,YsB n [] a H]
theorem XH{P:Program}{fm:FM}{C:Ctx}(g:jq P fm C)(p:P.follows .mixedOrders=zZ){f:FuncId}{n:Nat}{ts:List RV}{A:i_}(h:lk P fm C.pf f=U (n,ts,A))
  (w:ts.length<=4) {R:List AV->AV->Prop} (y: ∀args r,R args r->args.length<=n/\ ∀k,Sat C A (B5 k ts r) ⟨sp 0 args,Z k [],k⟩):qc P fm f (q_ R):=by
 refine KB g p h w ?_;rintro args H r H' ⟨k,rfl,rfl,z,B,D⟩;obtain⟨h1,h2⟩:=y args r D;refine⟨h1,?_⟩;have:=(h2 k).mono (Q':=yG ts r (Z k [])) (λe s q=>by
  cases e with
  |exit I=>exact q
  |kM=>obtain⟨d,vs,h1,h2⟩:=q;exact⟨vs,h1,XG d h2⟩
  |ret=>obtain⟨d,vs,h1,h2⟩:=q;exact⟨vs,h1,XG d h2⟩)
 simpa[YsA]using this
def OA(l l':List (List AV)):Prop:=l.length=l'.length/\ ∀(i:Nat) (e e':List AV),l[i]?=U e->l'[i]?=U e'->
 e.length=e'.length/\ ∀(j:Nat) (x X:AV),e[j]?=U x->e'[j]?=U X->Coe x X/\NR X
theorem OA.refl{l:List (List AV)}(h: ∀e∈l,∀x∈e,NR x):OA l l:=by
 refine⟨rfl,λi e e' g H=> ?_⟩;rw[g]at H;injection H with H;subst H
 refine⟨rfl,λj x X k d=> ?_⟩;rw[k]at d;injection d with d;subst d
 exact⟨.refl _,h e (jc g) x (jc k)⟩
theorem XI{ρ:Nat->Nat}{Fz:Nat->Prop}{H H':HF}{b:AV}(q:NR b):Cz ρ Fz H H' b b:=by
 induction q with
 |v x=>exact .v x
 |u=>exact .u _
 |emp=>exact .emp
 |rd es l h I=>
  refine .rd es l l rfl (λi e e' p g=>by simp_all) (λi e e' j x X p g k d=> ?_);rw[p]at g;injection g with g;subst g
  rw[k]at d;injection d with d;subst d
  exact I e (jc p) x (jc k)
 |rp cs h I=>
  refine .rp cs cs rfl (λj x X k d=> ?_);grind
 |agg cs h I=>
  refine .agg cs cs rfl (λj x X k d=> ?_);grind
 |iZ cs h I=>
  refine .iZ cs cs rfl (λj x X k d=> ?_);grind
 |clo f cs h I=>
  refine .clo f cs cs rfl (λj x X k d=> ?_);grind
 |er=>exact .er
theorem xR{ρ:Nat->Nat}{Fz:Nat->Prop}{H H':HF}{a b:AV}(q:Coe a b):NR b->Cz ρ Fz H H' a b:=by
 induction q with
 |refl a=>exact XI
 |j_ es=>intro _;exact .j_ es
 |rd es l l' k z h I=>
  intro d;cases d with
  |rd es l' d=>exact .rd es l l' k z (λi e e' j x X h1 h2 p g=>I i e e' j x X h1 h2 p g (d e' (jc h2) X (jc g)))
 |rp cs C k h I=>
  intro d;cases d with
  |rp C d=>exact .rp cs C k (λj x X p g=>I j x X p g (d X (jc g)))
 |agg cs C k h I=>
  intro d;cases d with
  |agg C d=>exact .agg cs C k (λj x X p g=>I j x X p g (d X (jc g)))
 |iZ cs C k h I=>
  intro d;cases d with
  |iZ C d=>exact .iZ cs C k (λj x X p g=>I j x X p g (d X (jc g)))
 |clo f cs C k h I=>
  intro d;cases d with
  |clo f C d=>exact .clo f cs C k (λj x X p g=>I j x X p g (d X (jc g)))
def GD(n:Nat)(src:List Nat)(a:Nat):Nat:=if a<n then a else n+src.getD (a-n) 0
theorem XJ(n:Nat){src:List Nat}{i k:Nat}(h:src[i]?=U k):GD n src (n+i)=n+k:=by
 unfold GD;grind
def CZ(n:Nat)(src:List Nat)(X Y:ic)(a b:AV):Prop:=Cz (GD n src) (λa=>n<=a/\a-n∉src) (hf (Z n X)) (hf (Z n Y)) a b
theorem CZ.u{n:Nat}{src:List Nat}{X Y:ic}(a:AV):CZ n src X Y a .u:=Cz.u a
theorem CZ.val{n:Nat}{src:List Nat}{X Y:ic}{a b:AV}(h:Coe a b)(H:NR b):CZ n src X Y a b:=xR h H
theorem CZ.ref{n:Nat}{src:List Nat}{X Y:ic}{k i O len:Nat}{o:iu}(h:src[i]?=U k)(d:Y[i]?=U (U o)):CZ n src X Y (.ref (n+k) O len) (.ref (n+i) O len):=by
 have:=Cz.ref (ρ:=GD n src) (Fz:=λa=>n<=a/\a-n∉src) (H:=hf (Z n X)) (H':=hf (Z n Y)) (n+i) O len o (by simp only[hf,Oz];exact d);rwa[XJ n h]at this
theorem CZ.ptr{n:Nat}{src:List Nat}{X Y:ic}{k i a b:Nat}{o:iu}(h:src[i]?=U k)(d:Y[i]?=U (U o)):CZ n src X Y (.ptr (n+k) a b) (.ptr (n+i) a b):=by
 have:=Cz.ptr (ρ:=GD n src) (Fz:=λa=>n<=a/\a-n∉src) (H:=hf (Z n X)) (H':=hf (Z n Y)) (n+i) a b o (by simp only[hf,Oz];exact d);rwa[XJ n h]at this
theorem CZ.xP{n:Nat}{src:List Nat}{X Y:ic}{k O len:Nat}{o:iu}{l':List (List AV)}(z:k∉src)(y:X[k]?=U (U o))(g:O+len<=o.el.length)
  (d:OA ((o.el.drop O).take len) l'):CZ n src X Y (.ref (n+k) O len) (.rd (wd o.es) l'):=by
 have H:len=l'.length:=by rw[<-d.1];grind
 have h: ∀(k:Nat) (e e':List AV),o.el[O+k]?=U e->l'[k]?=U e'->((o.el.drop O).take len)[k]?=U e:=by
  grind
 exact Cz.xP (n+k) O len o l' ⟨by omega,by simp_all⟩ (by simp only[hf,Oz];exact y) g H (λk e e' h1 h2=>(d.2 k e e' (h k e e' h1 h2) h2).1)
  (λk e e' j x p h1 h2 q w=>xR ((d.2 k e e' (h k e e' h1 h2) h2).2 j x p q w).1 ((d.2 k e e' (h k e e' h1 h2) h2).2 j x p q w).2)
theorem KD{env:Env}{H:ic}{b t es:Nat}(p:jk env t= .emp)(q:0<es):Wk ⟨env,H,b⟩ ⟨(t,.ref H.length 0 0)::env,H++[U ⟨es,[]⟩],b⟩:=by
 intro fm n w0 L0 a w y;obtain⟨h1,h2,z,L,B,C,d,g⟩:=y;obtain⟨D,K⟩:=BU d (nid:=H.length) (by simp[hf]) (es:=es) w0.heap.size zj (λh=>absurd h (by omega));have k:hY L (λa=>if a=H.length then .nil zj else L a) w.heap.size:=(BU d (nid:=H.length) (by simp[hf]) (es:=es) w.heap.size zj (λh=>absurd h (by omega))).1;rw[lH]at K;refine⟨h1,h2,z,_,B,C.trans D,K,λs=> ?_⟩;simp only[jk];by_cases e:t=s
 .subst e;simp only[beq_self_eq_true,cond_true];have:=g t;simp only[p]at this;obtain⟨A,E⟩:=uJ this;rw[E];exact .jo A H.length zj (by simp) (λh=>by cases h)
 .have h1:(t==s)=false:=by simp[e]
  rw[h1,cond_false];exact(g s).mono (iv.refl _ _) k
end Go.Abs
namespace Go.Abs
open Go Go.RowKit
def XK:List (Nat×vP)->Nat->vP
 | [],_=>λ_ _ _ _=>False
 | (k,c)::r,g=>bif k==g then c else XK r g
def XL(pf:Nat->Bool)(l:List (Nat×vP)):Ctx:=⟨XK l,pf⟩
structure Pure(c:vP):Prop where
 nr: ∀args H r H',c args H r H'->(∀a∈args,NR a)/\NR r/\H'=H
 any: ∀args r n,c args [] r []->c args (List.replicate n zz) r (List.replicate n zz)
theorem GF(R:List AV->AV->Prop):Pure (q_ R):=
 ⟨λargs H r H' ⟨_,_,h2,h,d,_⟩=>⟨h,d,h2⟩,λargs r n ⟨_,_,_,h,d,g⟩=>⟨n,by simp[Z],rfl,h,d,g⟩⟩
theorem YsD(P:Program)(fm:FM)(pf:Nat->Bool):jq P fm (XL pf []):=
 ⟨λ_ _ _ _ _ h=>h.elim,λ_ _ _ _ _ h=>h.elim,λ_ _ _ _ h=>h.elim⟩
theorem XM: ∀as:List AV,jX Coe as as
 | []=>trivial
 |a::as=>⟨.refl a,XM as⟩
end Go.Abs
namespace Go.Abs
open Go Go.RowKit
def qA:Nat->Loc:=λ_=>.fresh
theorem XN(b:Nat): ¬kN qA b:=λh=>h.elim (λ⟨_,_,_,h⟩=>by cases h) (λ⟨_,_,h⟩=>by cases h)
theorem XO(b:Nat): ¬ma qA b:=λh=>h.elim (XN b) (λ⟨_,_,h,_⟩=>by cases h)
def rf(fm:FM)(w:World):Prop:= ∀p∈fm.tb,∃c t f,p.2 c/\w.heap[p.1]?=U (.cells c t f)
theorem YsE(fm:FM)(w:World)(H:rf fm w):HR fm w qA (hf (Z 0 [])):=by
 refine⟨λa o h=> ?_,λa h=> ?_,λa=> ?_,λa b g e c e' c' h=> ?_,λa g h=> ?_,λa o g es cap h1 h2 d=>(by cases d),λa i g h=>(by cases h),λp k=>⟨XO _,H p k⟩⟩
 .trivial
 .rcases h with⟨_,_,_,h⟩| ⟨_,h⟩<;>cases h
 .simp[qA,hf,Z]
 .cases h
 trivial
section
variable{H:Type}{enc:TypeId×Value->H}{P:Program}{w:World}{base:Nat}{spare:Nat->Bool}{held:Bool}{fm:FM}
structure kg(bulk:DataW H->Nat)(all:List (DataW H)->Nat):Prop where
 str: ∀l:List UInt8,l.length+1<=bulk (.lit (.string l))
 slice: ∀e s,all e+1<=bulk (.slice e s)
 agg: ∀e,all e<=bulk (.agg e)
 nil:1<=bulk .nil
 lit: ∀l,1<=bulk (.lit l)
 cons: ∀d r,bulk d+all r<=all (d::r)
def OB(fm:FM)(w:World)(cs:List Value)(o:Nat)(as:List AV):Prop:= ∀j v a,cs[o+j]?=U v->as[j]?=U a->v.oneCell'=zZ/\VR fm w qA v a
variable(enc P w base spare held fm)
def Reads(bulk:DataW H->Nat)(t:TypeId)(es:Nat){X:Type}(e:X->List AV)(sz:X->Nat)(ok:X->Prop):Prop:=
 ∀fuel cs d p,DataW.trod enc P w base spare held fuel t cs=U (d,p)-> ∃x,ok x/\cs.length=es/\ (e x).length=es/\sz x<=bulk d/\OB fm w cs 0 (e x)
def GG(all:List (DataW H)->Nat)(fs:List Field)(o es:Nat){X:Type}(e:X->List AV)(sz:X->Nat)(ok:X->Prop):Prop:=
 ∀fuel cs xs,(fs.mapM λf=>DataW.trod enc P w base spare held fuel f.type ((cs.drop f.offset).take (P.cellsOf f.type)))=U xs->o+es<=cs.length->
  ∃x,ok x/\ (e x).length=es/\sz x<=all (xs.map (·.1))/\OB fm w cs o (e x)
variable{enc P w base spare held fm}
theorem Reads.conv{bulk:DataW H->Nat}{t:TypeId}{es:Nat}{X Y:Type}{e:X->List AV}{sz:X->Nat}{ok:X->Prop}{e':Y->List AV}{S:Y->Nat}{O:Y->Prop}
  (h:Reads enc P w base spare held fm bulk t es e sz ok) (g: ∀x,ok x-> ∃y,O y/\e x=e' y/\S y<=sz x):Reads enc P w base spare held fm bulk t es e' S O:=by
 intro fuel cs d p hd;obtain⟨x,h1,h2,k,q,z⟩:=h fuel cs d p hd;grind
theorem GH{v:Value}{a:AV}(h1:v.oneCell'=zZ)(h:VR fm w qA v a):OB fm w [v] 0 [a]:=by
 intro j x y H d;grind
theorem YsF{bulk:DataW H->Nat}{all:List (DataW H)->Nat}(p:kg bulk all){t:TypeId}{k:IntKind}(q:P.underlying t=U (.int k)):
  Reads enc P w base spare held fm bulk t 1 (λn:Int=>[.v (.int k n)]) (λ_=>1) (λn=>(Lit.int k n).wf=zZ):=by
 intro fuel cs d z hd;cases fuel with
 |zero=>cases hd
 |succ fuel=>
  unfold DataW.trod at hd;rw[q]at hd;split at hd<;>try cases hd
  all_goals(try(simp_all;done))
  rename_i K A n h;injection h with h;injection h with h;subst h
  split at hd
  .rename_i y;injection hd with hd;injection hd with hd _;subst hd
   obtain⟨rfl,g⟩:=y;exact⟨n,g,rfl,rfl,p.lit _,GH rfl (.v _)⟩
  trivial
theorem YsG{bulk:DataW H->Nat}{all:List (DataW H)->Nat}(h:kg bulk all){t:TypeId}(g:P.underlying t=U .bool):
  Reads enc P w base spare held fm bulk t 1 (λb:Bool=>[.v (.bool b)]) (λ_=>1) (λ_=>True):=by
 intro fuel cs d p hd;cases fuel with
 |zero=>cases hd
 |succ fuel=>
  unfold DataW.trod at hd;split at hd<;>try cases hd
  all_goals(try(simp_all;done))
  rename_i b k;exact⟨b,trivial,rfl,rfl,h.lit _,GH rfl (.v _)⟩
theorem YsH{bulk:DataW H->Nat}{all:List (DataW H)->Nat}(h:kg bulk all){t:TypeId}(g:P.underlying t=U .string):
  Reads enc P w base spare held fm bulk t 1 (λs:ByteArray=>[.v (.string s)]) (λs=>s.size+1) (λ_=>True):=by
 intro fuel cs d p hd;cases fuel with
 |zero=>cases hd
 |succ fuel=>
  unfold DataW.trod at hd;split at hd<;>try cases hd
  all_goals(try(simp_all;done))
  rename_i s k;split at hd
  .injection hd with hd;injection hd with hd _;subst hd
   exact⟨s,trivial,rfl,rfl,by have:=h.str s.data.toList;trivial,GH rfl (.v _)⟩
  trivial
theorem OC{α β:Type}{f:α->Option β}: ∀{l:List α} {r:List β},l.mapM f=U r->r.length=l.length/\ ∀(i:Nat) (x:α),l[i]?=U x-> ∃y,r[i]?=U y/\f x=U y
 | [],r,h=>by simp_all
 |a::l,r,h=>by
  cases h1:f a with
  |none=>simp_all
  |some b=>
   cases h2:l.mapM f with
   |none=>simp_all
   |some B=>
    simp[h1,h2]at h;subst h;obtain⟨k,K⟩:=OC h2;grind
theorem YsI{all:List (DataW H)->Nat}(o:Nat):GG enc P w base spare held fm all [] o 0 (λ_:Unit=>[]) (λ_=>0) (λ_=>True):=by
 intro fuel cs xs h _;exact⟨(),trivial,rfl,sP _,λj v a _ h=>by grind⟩
theorem YsJ{bulk:DataW H->Nat}{all:List (DataW H)->Nat}(q:kg bulk all){f:Field}{r:List Field}{o es E:Nat}{X Y:Type}{e:X->List AV}{sz:X->Nat}{ok:X->Prop}
  {g:Y->List AV} {S:Y->Nat} {O:Y->Prop} (F:f.offset=o) (G:P.cellsOf f.type=es) (h1:Reads enc P w base spare held fm bulk f.type es e sz ok)
  (h2:GG enc P w base spare held fm all r (o+es) E g S O):
  GG enc P w base spare held fm all (f::r) o (es+E) (λx:X×Y=>e x.1++g x.2) (λx=>sz x.1+S x.2) (λx=>ok x.1/\O x.2):=by
 intro fuel cs xs h z;cases k:DataW.trod enc P w base spare held fuel f.type ((cs.drop f.offset).take (P.cellsOf f.type))with
 |none=>simp_all
 |some b=>
  cases p:(r.mapM λf=>DataW.trod enc P w base spare held fuel f.type ((cs.drop f.offset).take (P.cellsOf f.type)))with
  |none=>simp_all
  |some B=>
   simp[k,p]at h;subst h;obtain⟨x,K,I,A,L,C⟩:=h1 fuel _ b.1 b.2 k;obtain⟨y,J,M,N,D⟩:=h2 fuel cs B p (by omega);refine⟨(x,y),⟨K,J⟩,by simp_all,?_,λj v a Q d=> ?_⟩
   .have:=q.cons b.1 (B.map (·.1));grind
   .replace d:(e x++g y)[j]?=U a:=d;by_cases R:j<es
    .rw[ld (by omega)]at d;refine C j v a ?_ d;grind
    .rw[nF (by omega),A]at d;refine D (j-es) v a ?_ d;grind
theorem YsK{bulk:DataW H->Nat}{all:List (DataW H)->Nat}(g:kg bulk all){t:TypeId}{fs:Array Field}{es:Nat}{X:Type}{e:X->List AV}{sz:X->Nat}{ok:X->Prop}
  (k:P.underlying t=U (.struct fs)) (B:P.cellsOf t=es) (h:GG enc P w base spare held fm all fs.toList 0 es e sz ok):Reads enc P w base spare held fm bulk t es e sz ok:=by
 intro fuel cs d C hd;cases fuel with
 |zero=>cases hd
 |succ fuel=>
  unfold DataW.trod at hd;rw[k]at hd;simp only at hd;have hd':cs.length=P.cellsOf t/\ ∃xs,(fs.toList.mapM λf=>DataW.trod enc P w base spare held fuel f.type ((cs.drop f.offset).take (P.cellsOf f.type)))=U xs/\d= .agg (xs.map (·.1)):=by
   split at hd
   .rename_i p;simp at hd;grind
   trivial
  obtain⟨p,xs,q,rfl⟩:=hd';obtain⟨x,K,y,z,A⟩:=h fuel cs xs q (by omega);exact⟨x,K,by omega,y,nu z (g.agg _),A⟩
theorem XP{X:Type}{P:Nat->X->Prop}: ∀(n:Nat),(∀i,i<n-> ∃x,P i x)-> ∃l:List X,l.length=n/\ ∀i x,l[i]?=U x->P i x
 |0,_=>⟨[],rfl,λi x h=>by grind⟩
 |n+1,h=>by
  obtain⟨l,h1,h2⟩:=XP n (λi H=>h i (by omega));obtain⟨x,d⟩:=h n (by omega);refine⟨l++[x],by grind,λi y g=> ?_⟩;grind
theorem XQ{bulk:DataW H->Nat}{all:List (DataW H)->Nat}(g:kg bulk all){X:Type}{sz:X->Nat}: ∀{l:List X} {ds:List (DataW H)},l.length=ds.length->(∀(i:Nat) (x:X) (d:DataW H),l[i]?=U x->ds[i]?=U d->sz x<=bulk d)->(l.map sz).sum<=all ds
 | [],[],_,_=>sP _
 |x::l,d::ds,k,h=>by
  have h1:=XQ g (l:=l) (ds:=ds) (by simp_all) (λi y e p q=>h (i+1) y e (by trivial) (by trivial));have h2:=h 0 x d rfl rfl;have:=g.cons d ds;grind
 | [],_::_,k,_=>by trivial
 |_::_,[],k,_=>by trivial
theorem XR{a:Addr}(h:a.spot=zz)(n:Nat):a.add n=⟨a.block,a.off+n,zz⟩:=by
 obtain⟨b,o,s⟩:=a;subst h;unfold Addr.add;simp
theorem YsL{w:World}{base:Nat}{a:Addr}{n:Nat}{cs:List Value}(h:w.cells? base a n=U cs):cs.length=n/\ ∀j v,cs[j]?=U v->w.cell? (a.add j)=U v:=by
 unfold World.cells? at h;split at h
 .obtain⟨h1,h2⟩:=OC h;refine⟨by simp_all,λj v H=> ?_⟩;obtain⟨y,k,K⟩:=h2 j j (by grind);simp_all
 trivial
theorem YsM{w:World}{a:Addr}{v:Value}(h:w.cell? a=U v):a.spot=zz/\a.block<w.heap.size:=by
 unfold World.cell? at h;split at h
 .rename_i c t f H;split at h
  .cases h
  .rename_i d;exact⟨by simp_all,(pV.1 H).1⟩
 trivial
theorem YsN{u:TypeId}{es:Nat}{X:Type}{e:X->List AV}{sz:X->Nat}{ok:X->Prop}{bulk:DataW H->Nat}{all:List (DataW H)->Nat}(J:kg bulk all)(B:0<es)
  (h:Reads enc P w base spare held fm bulk u es e sz ok) {fuel len cap:Nat} {a:Addr} (M:len<=cap) {E:List (DataW H×List MemPlace)}
  (N:((List.range len).mapM λi=>(w.cells? base (a.add (i*es)) es).bind (DataW.trod enc P w base spare held fuel u))=U E):
  ∃l:List X,(∀x∈l,ok x)/\ (l.map sz).sum<=all (E.map (·.1))/\VR fm w qA (.slice (U a) len cap) (.rd es (l.map e)):=by
 obtain⟨h1,h2⟩:=OC N;simp only[List.length_range]at h1;have k: ∀i,i<len-> ∃x:X,ok x/\ (e x).length=es/\ (∀d,E[i]?=U d->sz x<=bulk d.1)/\
   ∀j c,(e x)[j]?=U c-> ∃v,w.cell? ((a.add (i*es)).add j)=U v/\v.oneCell'=zZ/\VR fm w qA v c:=by
  intro i p;obtain⟨y,k1,K⟩:=h2 i i (by grind);simp only[xO]at K;obtain⟨cs,O,Q⟩:=K;obtain⟨l1,l2⟩:=YsL O;obtain⟨x,R,m2,S,m4,T⟩:=h fuel cs y.1 y.2 Q;refine⟨x,R,S,λd hd=>by simp_all,λj c V=> ?_⟩;have z:j<cs.length:=by grind
  have hv:cs[j]?=U cs[j]:=je z;obtain⟨n1,n2⟩:=T j cs[j] c (by simp) V;grind
 obtain⟨l,W,Y⟩:=XP len k;refine⟨l,λx A=> ?_,XQ J (by simp_all) (λi x d A hd=> ?_),?_⟩
 .obtain⟨i,p⟩:=mE.1 A;grind
 .grind
 .by_cases h0:len=0
  .subst h0;have:l=[]:=mC.1 W;subst this;exact .lT _ es cap
  .have g: ∃x,l[0]?=U x:=⟨l[0],je (by omega)⟩;obtain⟨F,g⟩:=g;obtain⟨_,q1,_,Z⟩:=Y 0 F g;obtain⟨v0,r1,_⟩:=Z 0 ((e F)[0]) (je (by omega));have G:=YsM r1;have q:a.spot=zz/\a.block<w.heap.size:=by
    have:(a.add (0*es)).add 0=a:=by simp[Addr.add]
    simp_all
   have C: ∀i j,(a.add (i*es)).add j=⟨a.block,a.off+i*es+j,zz⟩:=by
    intro i j;rw[XR q.1,XR rfl]
   have ha:a=⟨a.block,a.off,zz⟩:=by
    obtain⟨b,o,s⟩:=a;simp_all
   have a0: ∀(i:Nat) (el:List AV) (j:Nat) (c:AV),(l.map e)[i]?=U el->el[j]?=U c-> ∃v,w.cell? ⟨a.block,a.off+i*es+j,zz⟩=U v/\v.oneCell'=zZ/\VR fm w qA v c:=by
    grind
   have I:(l.map e).length=len:=by grind
   have:=VR.rd (fm:=fm) (w:=w) (L:=qA) a.block a.off cap es (l.map e) (λi j=>(w.cell? ⟨a.block,a.off+i*es+j,zz⟩).getD undef)
    (λhn=>h0 (by grind)) (λel D=>by
     obtain⟨x,A,rfl⟩:=mH.1 D;obtain⟨i,p⟩:=mE.1 A;grind) B (by omega) (XO _) q.2
    (λi el j c p z=>by grind)
    (λi el j c p z=>by grind)
    (λi el j c p z=>by grind)
   grind
theorem YsO{bulk:DataW H->Nat}{all:List (DataW H)->Nat}(p:kg bulk all){t u:TypeId}{es:Nat}{X:Type}{e:X->List AV}{sz:X->Nat}{ok:X->Prop}
  (z:P.underlying t=U (.slice u)) (A:P.cellsOf u=es) (q:0<es) (h:Reads enc P w base spare held fm bulk u es e sz ok):
  Reads enc P w base spare held fm bulk t 1 (λl:List X=>[.rd es (l.map e)]) (λl=>(l.map sz).sum+1) (λl=> ∀x∈l,ok x):=by
 intro fuel cs d D hd;cases fuel with
 |zero=>cases hd
 |succ fuel=>
  unfold DataW.trod at hd;rw[z]at hd;simp only at hd;split at hd
  all_goals(try(simp_all;done))
  .rename_i k;injection hd with hd;injection hd with hd _;subst hd
   exact⟨[],λx B=>(by cases B),rfl,rfl,by simpa using p.nil,GH rfl (.lT zz es 0)⟩
  .rename_i F a len cap k;injection k with k;injection k with k;subst k
   rw[A]at hd;split at hd
   .rename_i g;simp only[xO,lS]at hd;obtain⟨E,h1,R,h2,y⟩:=hd;injection y with y _;subst y
    obtain⟨l,K,G,C⟩:=YsN p q h g.2.1 h1;refine⟨l,K,rfl,rfl,?_,GH rfl C⟩;have:=p.slice (E.map (·.1)) (R.map (·.1));grind
   trivial
end
end Go.Abs
namespace Go.Abs
open Go Go.RowKit
mutual
inductive Ty where
 |i (k:IntKind)
 |b
 |s
 |l (c:Cs)
inductive Cs where
 |nil
 |cons (t:Ty) (r:Cs)
end
instance:Inhabited Ty:=⟨.b⟩
instance:Inhabited Cs:=⟨.nil⟩
def qB(A B:Type):Cs->Type
 | .nil=>A
 | .cons _ _=>A×B
mutual
def Ty.den:Ty->Type
 | .i _=>Int
 | .b=>Bool
 | .s=>ByteArray
 | .l c=>List c.den
def Cs.den:Cs->Type
 | .nil=>Unit
 | .cons t r=>qB t.den r.den r
end
def kU{A B:Type}:(r:Cs)->qB A B r->A
 | .nil,x=>x
 | .cons _ _,x=>x.1
def lM{A:Type}:(r:Cs)->qB A r.den r->r.den
 | .nil,_=>()
 | .cons _ _,x=>x.2
def uh{A:Type}:(r:Cs)->A->r.den->qB A r.den r
 | .nil,a,_=>a
 | .cons _ _,a,b=>(a,b)
theorem xS{A:Type}(r:Cs)(a:A)(b:r.den):kU r (uh r a b)=a:=by cases r<;>rfl
theorem vX{A:Type}(r:Cs)(a:A)(b:r.den):lM r (uh r a b)=b:=by cases r<;>rfl
theorem XS{A:Type}(r:Cs)(x:qB A r.den r):uh r (kU r x) (lM r x)=x:=by cases r<;>rfl
mutual
def Ty.qC:(t:Ty)->t.den
 | .i _=>(0:Int)
 | .b=>zj
 | .s=>a_ #[]
 | .l _=>[]
def Cs.qC:(c:Cs)->c.den
 | .nil=>()
 | .cons t r=>uh r t.qC r.qC
end
mutual
def Ty.eqb:Ty->Ty->Bool
 | .i k,.i k'=>decide (k=k')
 | .b,.b=>zZ
 | .s,.s=>zZ
 | .l c,.l c'=>c.eqb c'
 |_,_=>zj
def Cs.eqb:Cs->Cs->Bool
 | .nil,.nil=>zZ
 | .cons t r,.cons t' r'=>t.eqb t'&&r.eqb r'
 |_,_=>zj
end
mutual
theorem Ty.jd: ∀{a a':Ty},a.eqb a'=zZ->a=a'
 | .i k,.i k',h=>by simp only[Ty.eqb,decide_eq_true_eq]at h;rw[h]
 | .b,.b,_=>rfl
 | .s,.s,_=>rfl
 | .l c,.l c',h=>by rw[Cs.jd (a:=c) (b:=c') (by simpa[Ty.eqb]using h)]
 | .i _,.b,h| .i _,.s,h| .i _,.l _,h| .b,.i _,h| .b,.s,h| .b,.l _,h| .s,.i _,h| .s,.b,h| .s,.l _,h| .l _,.i _,h| .l _,.b,h| .l _,.s,h=>by simp[Ty.eqb]at h
theorem Cs.jd: ∀{a b:Cs},a.eqb b=zZ->a=b
 | .nil,.nil,_=>rfl
 | .cons t r,.cons t' r',h=>by
   simp only[Cs.eqb,iI]at h;rw[Ty.jd h.1,Cs.jd h.2]
 | .nil,.cons _ _,h| .cons _ _,.nil,h=>by simp[Cs.eqb]at h
end
mutual
theorem Ty.jS: ∀a:Ty,a.eqb a=zZ
 | .i k=>by simp[Ty.eqb]
 | .b=>rfl
 | .s=>rfl
 | .l c=>by simp[Ty.eqb,Cs.jS c]
theorem Cs.jS: ∀a:Cs,a.eqb a=zZ
 | .nil=>rfl
 | .cons t r=>by simp[Cs.eqb,Ty.jS t,Cs.jS r]
end
def Ty.cast(t t':Ty)(v:t.den):Option t'.den:=
 if h:t.eqb t'=zZ then U (Eq.mp (congrArg Ty.den (Ty.jd h)) v)else zz
def Cs.cast(c c':Cs)(v:c.den):Option c'.den:=
 if h:c.eqb c'=zZ then U (Eq.mp (congrArg Cs.den (Cs.jd h)) v)else zz
theorem Ty.kC{t t':Ty}{v:t.den}{V:t'.den}(h:t.cast t' v=U V): ∃e:t=t',e▸v=V:=by
 unfold Ty.cast at h;split at h
 .rename_i e;have e':=Ty.jd e;subst e';injection h with h
  exact⟨rfl,h⟩
 .cases h
theorem Cs.kC{t t':Cs}{v:t.den}{V:t'.den}(h:t.cast t' v=U V): ∃e:t=t',e▸v=V:=by
 unfold Cs.cast at h;split at h
 .rename_i e;have e':=Cs.jd e;subst e';injection h with h
  exact⟨rfl,h⟩
 .cases h
theorem Cs.cast_refl(c:Cs)(v:c.den):c.cast c v=U v:=by
 unfold Cs.cast;rw[dif_pos (Cs.jS c)];rfl
def Cs.width:Cs->Nat
 | .nil=>0
 | .cons _ r=>r.width+1
mutual
def Ty.enc:(t:Ty)->t.den->AV
 | .i k,v=>.v (.int k v)
 | .b,v=>.v (.bool v)
 | .s,v=>.v (.string v)
 | .l c,v=>.rd c.width (v.map c.enc)
def Cs.enc:(c:Cs)->c.den->List AV
 | .nil,_=>[]
 | .cons t r,x=>t.enc (kU r x)::r.enc (lM r x)
end
theorem rJ: ∀(c:Cs) (x:c.den),(c.enc x).length=c.width
 | .nil,_=>rfl
 | .cons t r,x=>by simp only[Cs.enc,pL,Cs.width,rJ r]
mutual
theorem GI: ∀(t:Ty) (v:t.den),NR (t.enc v)
 | .i k,v=>.v _
 | .b,v=>.v _
 | .s,v=>.v _
 | .l c,v=>.rd _ _ (λe he x hx=>by
   obtain⟨y,_,rfl⟩:=mH.1 he;exact vY c y x hx)
theorem vY: ∀(c:Cs) (v:c.den) (x:AV),x∈c.enc v->NR x
 | .nil,_,x,h=>by simp[Cs.enc]at h
 | .cons t r,v,x,h=>by
   simp only[Cs.enc,mT]at h;rcases h with rfl|h
   .exact GI t _
   .exact vY r _ x h
end
def Ty.zero:Ty->Value
 | .i k=>.int k 0
 | .b=>.bool zj
 | .s=>.string (a_ #[])
 | .l _=>.slice zz 0 0
def Cs.kS:Cs->List Value
 | .nil=>[]
 | .cons t r=>t.zero::r.kS
def sn(c:Cs):Cs->Cs
 | .nil=>.cons (.l c) .nil
 | .cons t r=>.cons t (sn c r)
def ow(c:Cs):(A:Cs)->(sn c A).den->List c.den
 | .nil,x=>x
 | .cons _ r,x=>ow c r (lM (sn c r) x)
def da(c:Cs):(A:Cs)->(sn c A).den->A.den
 | .nil,_=>()
 | .cons _ r,x=>uh r (kU (sn c r) x) (da c r (lM (sn c r) x))
def nS(c:Cs):(A:Cs)->A.den->List c.den->(sn c A).den
 | .nil,_,v=>v
 | .cons _ r,d,v=>uh (sn c r) (kU r d) (nS c r (lM r d) v)
theorem ui(c:Cs): ∀(A:Cs) (d:A.den) (v:List c.den),ow c A (nS c A d v)=v
 | .nil,_,_=>rfl
 | .cons _ r,d,v=>by simp only[ow,nS,vX];exact ui c r _ v
theorem Av(c:Cs): ∀(A:Cs) (d:A.den) (v:List c.den),da c A (nS c A d v)=d
 | .nil,_,_=>rfl
 | .cons _ r,d,v=>by simp only[da,nS,xS,vX];rw[Av c r];exact XS r d
theorem XT(c:Cs): ∀A:Cs,ow c A (sn c A).qC=[]
 | .nil=>rfl
 | .cons t r=>by show ow c r (lM (sn c r) (uh (sn c r) t.qC (sn c r).qC))=[];rw[vX];exact XT c r
theorem XU(c:Cs): ∀A:Cs,(sn c A).width=A.width+1
 | .nil=>rfl
 | .cons _ r=>by simp only[sn,Cs.width,XU c r]
theorem XV(c:Cs): ∀(A:Cs) (x:(sn c A).den),(sn c A).enc x=A.enc (da c A x)++[.rd c.width ((ow c A x).map c.enc)]
 | .nil,_=>rfl
 | .cons t r,x=>by
   show t.enc (kU (sn c r) x)::(sn c r).enc (lM (sn c r) x)=t.enc (kU r (uh r (kU (sn c r) x) (da c r (lM (sn c r) x))))::r.enc (lM r (uh r (kU (sn c r) x) (da c r (lM (sn c r) x))))++_;rw[xS,vX,XV c r];rfl
def yH:Cs->Option (Cs×Cs)
 | .cons (.l c) .nil=>U (.nil,c)
 | .cons t r=>match yH r with|some (A,c)=>U (.cons t A,c)|none=>zz
 | .nil=>zz
end Go.Abs
namespace Go.Abs
open Go Go.RowKit
inductive TV where
 |i (k:IntKind) (n:Int)
 |b (x:Bool)
 |s (x:ByteArray)
 |l (c:Cs) (v:List c.den)
 |e (c:Cs)
 |u
 |v (x:Value)
 |ref (a:Nat)
 |pre (a:Nat) (n:Int)
 |sub (a lV i:Nat)
 |ptr (a i j:Nat)
 |nq (a lV i k j:Nat)
 |rp (cs:List TV)
 |lt (els:List (List TV))
 |ag (cs:List TV)
 |tp (cs:List TV)
 |clo (g:Nat) (cs:List TV)
 |np (a:Nat)
 |nl
 |ef (x:Bool)
instance:Inhabited TV:=⟨.u⟩
def KE:Bool->AV
 |true=>.er
 |false=>.v .nilIface
def mV:Option IntKind->Ty
 |none=>.s
 |some k=>.i k
inductive Hd where
 |rw(A:Cs) (nn:Bool)
 |mp (o:Option IntKind) (n:Int)
abbrev Hd.A:Hd->Cs
 | .rw A _=>A
 | .mp o _=>.cons (.i .i64) (.cons (mV o) .nil)
def Hd.nn:Hd->Bool
 | .rw _ b=>b
 | .mp _ _=>zZ
def Hd.wO:Hd->Bool
 | .rw _ _=>zZ
 | .mp _ _=>zj
inductive il where
 |sq (c:Cs) (l:List c.den)
 |fm (hd:Hd) (c:Cs) (lV:Nat) (hole:Option Nat) (l:List (sn c hd.A).den)
 |st (cs:List TV)
 |sb (s:ByteArray)
abbrev jO:=List (Nat×TV)
abbrev hZ:=List (Option il)
structure lu where
 env:jO
 heap:hZ
def lW:jO->Nat->TV
 | [],_=>.u
 | (n,v)::r,t=>bif im n t then v else lW r t
def b_:hZ->Nat->Option il
 | [],_=>zz
 |o::_,0=>o
 |_::r,a+1=>b_ r a
def hU:hZ->Nat->Option il->hZ
 | [],_,_=>[]
 |_::r,0,o=>o::r
 |p::r,a+1,o=>p::hU r a o
def lX(c:Cs)(l:List c.den)(i:Nat):c.den:=l.getD i c.qC
def kG(hd:Hd)(c:Cs)(l:List (sn c hd.A).den)(i:Nat):List c.den:=ow c hd.A (lX (sn c hd.A) l i)
def yI(hd:Hd)(c:Cs)(l:List (sn c hd.A).den)(i:Nat):hd.A.den:=da c hd.A (lX (sn c hd.A) l i)
def kV(hd:Hd)(c:Cs)(l:List (sn c hd.A).den)(i:Nat)(v:List c.den):List (sn c hd.A).den:=l.set i (nS c hd.A (yI hd c l i) v)
def sr(hd:Hd)(c:Cs)(l:List (sn c hd.A).den)(i:Nat)(d:hd.A.den):List (sn c hd.A).den:=l.set i (nS c hd.A d (kG hd c l i))
inductive K1 where
 |i (k:IntKind) (n:Int)
 |b (x:Bool)
 |s (x:ByteArray)
 |e (c:Cs)
 |v (x:Value)
 |nl
inductive KC where
 |one (k:K1)
 |ag (l:List K1)
 |tp (l:List K1)
 |ls (l:List ByteArray)
 |f (g:Nat)
 |v (x:Value)
inductive iq where
 |t (n:Nat)
 |c (k:KC)
def K1.tv:K1->TV
 | .i k n=>.i k n
 | .b x=>.b x
 | .s x=>.s x
 | .e c=>.e c
 | .v x=>.v x
 | .nl=>.nl
def KC.tv:KC->TV
 | .one k=>k.tv
 | .ag l=>.ag (l.map K1.tv)
 | .tp l=>.tp (l.map K1.tv)
 | .ls l=>.l (.cons .s .nil) l
 | .f g=>.clo g []
 | .v x=>.v x
def vo(env:jO):iq->TV
 | .t n=>lW env n
 | .c k=>k.tv
def e_{β:Type}(p:Prop)[Decidable p](x:Option β):Option β:=bif decide p then x else zz
def m_(c c':Cs)(l:List c.den):Option (List c'.den):=(Ty.l c).cast (.l c') l
def nx:(t:Ty)->t.den->TV
 | .i k,n=>.i k n
 | .b,x=>.b x
 | .s,x=>.s x
 | .l c,v=>.l c v
def Aw:(t:Ty)->TV->Option t.den
 | .i k,.i K n=>bif decide (K=k)then U n else zz
 | .b,.b x=>U x
 | .s,.s x=>U x
 | .l c,.l c' v=>m_ c' c v
 | .l c,.e c'=>bif c'.eqb c then U []else zz
 |_,_=>zz
def pack:(c:Cs)->List TV->Option c.den
 | .nil,[]=>U ()
 | .cons t r,a::as=>match Aw t a,pack r as with
   |some x,U y=>U (uh r x y)
   |_,_=>zz
 |_,_=>zz
def KF(t:Ty):List TV->Option (List t.den)
 | []=>U []
 |a::r=>match Aw t a,KF t r with
  |some x,U y=>U (x::y)
  |_,_=>zz
def xT(c:Cs):List (List TV)->Option (List c.den)
 | []=>U []
 |a::r=>match pack c a,xT c r with
  |some x,U y=>U (x::y)
  |_,_=>zz
def cells:(c:Cs)->c.den->List TV
 | .nil,_=>[]
 | .cons t r,x=>nx t (kU r x)::cells r (lM r x)
def Cs.kh:Cs->List TV
 | .nil=>[]
 | .cons (.l c) r=>.e c::r.kh
 | .cons t r=>nx t t.qC::r.kh
def qe(X:hZ):TV->Option (List TV)
 | .u| .tp _| .lt _| .sub _ _ _| .nq _ _ _ _ _| .ef _=>zz
 | .v x=>bif x.oneCell' then U [.v x]else zz
 | .ag cs=>U cs
 | .ref a=>bif(b_ X a).isSome then U [.ref a]else zz
 | .pre a n=>bif(b_ X a).isSome then U [.pre a n]else zz
 | .ptr a i j=>bif(b_ X a).isSome then U [.ptr a i j]else zz
 | .np a=>bif(b_ X a).isSome then U [.np a]else zz
 |a=>U [a]
def K1.ok:K1->Bool
 | .v (.slice _ _ _)=>zj
 |_=>zZ
def tm(l:List TV)(j:Nat)(cs:List TV):List TV:=l.take j++cs++l.drop (j+cs.length)
def wP(g:Bool)(n:Nat)(cs:List TV):Option TV:=
 match g with
 |true=>bif iS n cs.length then U (.ag (cs.take n))else zz
 |false=>cs[0]?
def KG(X:hZ)(l:List TV)(env:jO):List (Nat×Nat×iq)->Option (List TV)
 | []=>U l
 | (O,n,x)::r=>match qe X (vo env x)with
   |some cs=>bif im cs.length n&&iS (O+n) l.length then KG X (tm l O cs) env r else zz
   |none=>zz
def GJ(X:hZ)(es:Nat)(l:List (List TV))(env:jO):List (Nat×iq)->Option (List (List TV))
 | []=>U l
 | (i,x)::r=>match qe X (vo env x)with
   |some cs=>bif im cs.length es&&js i l.length then GJ X es (l.set i cs) env r else zz
   |none=>zz
section
variable{β:Type}
def B6(p:BinOp)(k:IntKind)(x y:Int)(K:TV->Option β):Option β:=
 match p with
 | .add=>K (.i k (k.wrap (x+y)))
 | .sub=>K (.i k (k.wrap (x-y)))
 | .mul=>K (.i k (k.wrap (x*y)))
 | .quo=>e_ (y≠0) (K (.i k (k.wrap (x.tdiv y))))
 | .rem=>e_ (y≠0) (K (.i k (x.tmod y)))
 | .and=>K (.i k (bits .and k x y))
 | .or=>K (.i k (bits .or k x y))
 | .xor=>K (.i k (bits .xor k x y))
 | .andNot=>K (.i k (bits .andNot k x y))
 | .shl=>e_ (0<=y) (K (.i k (k.wrap (x*2^(min y.toNat k.bits)))))
 | .shr=>e_ (0<=y) (K (.i k (x.fdiv (2^(min y.toNat k.bits)))))
 | .eql=>K (.b (decide (x=y)))
 | .neq=>K (.b (!decide (x=y)))
 | .lss=>K (.b (decide (x<y)))
 | .leq=>K (.b (decide (x<=y)))
 | .gtr=>K (.b (decide (y<x)))
 | .geq=>K (.b (decide (y<=x)))
def B7(p:BinOp)(x y:ByteArray)(K:TV->Option β):Option β:=
 match p with
 | .add=>e_ (iS (x.size+y.size) 9223372036854775807=zZ) (K (.s (x++y)))
 | .eql=>K (.b (decide (x=y)))
 | .neq=>K (.b (!decide (x=y)))
 | .lss=>K (.b (Op.bytesLess x.toList y.toList))
 | .leq=>K (.b (Op.bytesLess x.toList y.toList||decide (x=y)))
 | .gtr=>K (.b (!(Op.bytesLess x.toList y.toList||decide (x=y))))
 | .geq=>K (.b (!Op.bytesLess x.toList y.toList))
 |_=>zz
def B8(p:BinOp)(a b:TV)(K:TV->Option β):Option β:=
 match a,b with
 | .i k x,.i d y=>bif decide (k=d\/p= .shl\/p= .shr)then B6 p k x y K else zz
 | .s x,.s y=>B7 p x y K
 |_,_=>zz
def GK:Nat->TV->TV->Option Bool
 |0,.b a,.b b=>U (a==b)
 |1,.i k a,.i K b=>bif decide (k=K)then U (decide (a=b))else zz
 |2,.s a,.s b=>U (decide (a=b))
 |_,_,_=>zz
def KH:List Nat->List TV->List TV->Option Bool
 | [],[],[]=>U zZ
 |k::K,a::as,b::B=>match GK k a b,KH K as B with
  |some x,U y=>U (x&&y)
  |_,_=>zz
 |_,_,_=>zz
def KI(mx:Bool)(k:IntKind):Int->List TV->Option TV
 |m,[]=>U (.i k m)
 |m,.i _ n::r=>KI mx k (match mx with|true=>max m n|false=>min m n) r
 |_,_=>zz
def jV:(o:Option IntKind)->(mV o).den->(mV o).den->Bool
 |none=>λ(a b:ByteArray)=>decide (a=b)
 |some _=>λ(a b:Int)=>decide (a=b)
abbrev iE(o:Option IntKind)(t:Ty)(V:Cs):Cs:=.cons (.i .i64) (.cons (mV o) (.cons t V))
section
variable{κ ν:Type}
def tn(q:κ->κ->Bool)(k:κ):List (Int× (κ×ν))->Option ν
 | []=>zz
 |e::r=>bif q k e.2.1 then U e.2.2 else tn q k r
def oc(q:κ->κ->Bool)(c:Int)(k:κ)(v:ν):List (Int× (κ×ν))->List (Int× (κ×ν))
 | []=>[(c,(k,v))]
 |e::r=>bif q k e.2.1 then(e.1,(k,v))::r else e::oc q c k v r
def rK(q:κ->κ->Bool)(k:κ):List (Int× (κ×ν))->List (Int× (κ×ν))
 | []=>[]
 |e::r=>bif q k e.2.1 then r else e::rK q k r
def tq(q:κ->κ->Bool)(c:Int)(k:κ)(l:List (Int× (κ×ν))):Int:=match tn q k l with|some _=>c|none=>c+1
def B9(q:κ->κ->Bool)(k:κ)(l:List (Int× (κ×ν)))(z:ν):ν:=match tn q k l with|some v=>v|none=>z
def B'(q:κ->κ->Bool)(k:κ)(l:List (Int× (κ×ν))):Bool:=match tn q k l with|some _=>zZ|none=>zj
def Ax(n:Int):List (Int× (κ×ν))->Option (κ×ν)
 | []=>zz
 |e::r=>bif decide (e.1=n)then U e.2 else Ax n r
end
def KJ(g:Bool)(V:Cs)(v:V.den):TV:=
 match g with
 |true=>.ag (cells V v)
 |false=>match cells V v with
  | [x]=>x
  |_=>.u
def wQ{κ ν:Type}(q:κ->κ->Bool)(k:κ):List (Int× (κ×ν))->Nat
 | []=>0
 |e::r=>bif q k e.2.1 then 0 else wQ q k r+1
def E1{κ ν:Type}(n:Int):List (Int× (κ×ν))->Nat
 | []=>0
 |e::r=>bif decide (e.1=n)then 0 else E1 n r+1
def uN(c:Cs)(X:hZ)(v:TV):Option (Nat×List c.den):=
 match v with
 | .ref b=>match b_ X b with
   |some (.sq c' L)=>match m_ c' c L with|some L=>U (b,L)|none=>zz
   |_=>zz
 | .pre b n=>match b_ X b with
   |some (.sq c' L)=>match m_ c' c L with|some L=>e_ (n=(L.length:Nat)) (U (b,L))|none=>zz
   |_=>zz
 |_=>zz
def yJ{β:Type}(c:Cs)(X:hZ)(v:TV)(K:Nat->List c.den->Option β):Option β:=
 match v with
 | .ref b=>match b_ X b with
   |some (.sq c' L)=>match m_ c' c L with|some L=>K b L|none=>zz
   |_=>zz
 | .pre b n=>match b_ X b with
   |some (.sq c' L)=>match m_ c' c L with|some L=>e_ (n=(L.length:Nat)) (K b L)|none=>zz
   |_=>zz
 |_=>zz
structure uO(o:Option IntKind)where
 a:Nat
 n:Int
 c:Cs
 lV:Nat
 hole:Option Nat
 l:List (iE o (.l c) .nil).den
def yK(o:Option IntKind)(X:hZ)(x:TV):Option (uO o):=
 match x with
 | .np a=>match b_ X a with
   |some (.fm (.mp o' n) c V h l)=>match m_ (sn c (Hd.mp o' n).A) (iE o (.l c) .nil) l with
    |some l=>U ⟨a,n,c,V,h,l⟩
    |none=>zz
   |_=>zz
 |_=>zz
def uP(o:Option IntKind)(t:Ty)(V:Cs)(X:hZ)(x:TV):Option (Nat×Int×List (iE o t V).den×List TV):=
 match x with
 | .np a=>match b_ X a with
   |some (.st (.i .i64 n:: .l c l::T))=>match m_ c (iE o t V) l with
    |some l=>bif im T.length 1||im T.length 2 then U (a,n,l,T)else zz
    |none=>zz
   |_=>zz
 |_=>zz
def nH(g:Bool):Nat:=match g with|true=>2|false=>1
def Ay(g:Bool)(V:Cs):Bool:=match g with|true=>zZ|false=>im V.width 0
inductive qE where
 |mkm (o:Option IntKind) (t:Ty) (V:Cs) (ag:Bool)
 |mget (o:Option IntKind) (t:Ty) (V:Cs) (ag ok:Bool) (m k:iq)
 |mput (o:Option IntKind) (t:Ty) (V:Cs) (ag:Bool) (m k v:iq)
 |mdel (o:Option IntKind) (t:Ty) (V:Cs) (m k:iq)
 |mlen (m:iq)
 |mrng (m:iq)
 |ment (o:Option IntKind) (t:Ty) (V:Cs) (ag:Bool) (it:iq)
 |mnxt (it:iq)
 |cpy (c:Cs) (d s:iq)
 |mm (mx:Bool) (xs:List iq)
 |emz (x lo hi mx:iq)
 |sl3 (es:Nat) (x lo hi mx:iq)
 |mv (x:iq)
 |mvp (x:iq)
 |pick (c a b:iq)
 |box (x:iq)
 |alloc (z:List K1)
 |build (z:List K1) (parts:List (Nat×Nat×iq))
 |bsl (c:Cs) (len:Nat) (parts:List (Nat×iq))
 |bslT (c:Cs) (len:Nat) (parts:List (Nat×iq))
 |load (agg:Bool) (n:Nat) (x:iq)
 |loadR (agg:Bool) (n:Nat) (x:iq)
 |store (n:Nat) (x y:iq)
 |nilc (x:iq)
 |bin (op:BinOp) (x y:iq)
 |beq (neg:Bool) (x y:iq)
 |eqa (neg:Bool) (ks:List Nat) (x y:iq)
 |not (x:iq)
 |neg (x:iq)
 |conv (k:IntKind) (x:iq)
 |cvs (x:iq)
 |fad (off:Nat) (x:iq)
 |fld (agg:Bool) (off n:Nat) (x:iq)
 |iad (es:Nat) (x i:iq)
 |iada (es len:Nat) (x i:iq)
 |idx (x i:iq)
 |slcS (x:iq) (lo hi:Option iq)
 |slcR (es:Nat) (x:iq) (lo hi:Option iq)
 |ext (x:iq) (i:Nat)
 |len (x:iq)
 |lenS (x:iq)
 |app (c:Cs) (w:Nat) (s x:iq)
 |mksl (c:Cs) (w:Nat) (n cp:iq)
 |call (f:Nat) (args:List iq)
 |callF (f:Nat) (args:List iq)
 |mkmF (o:Option IntKind) (c:Cs)
 |dyn (x:iq) (args:List iq)
 |dynP (x:iq) (args:List iq)
 |callN (g:Nat) (args:List iq) (d:Bool)
 |isp (ng:Bool) (x:iq)
 |isi (ng:Bool) (x:iq)
 |ixa (t:Ty) (n:Nat) (x i:iq)
 |mkf (f:Nat) (F':List iq)
 |lit (c:Cs) (xs:List iq)
 |appD (c:Cs) (s x:iq)
 |apps (s x:iq)
 |bstr (x:iq)
 |bld
 |sbyt (x:iq)
 |appb (s x:iq)
 |appDb (s x:iq)
 |litb (xs:List iq)
 |add64 (xs:List iq)
 |sub64 (xs:List iq)
abbrev U8:Cs:=.cons (.i .u8) .nil
def od(s:ByteArray):List Int:=s.toList.map λb=>(b.toNat:Int)
def nT(l:List Int):ByteArray:=⟨(l.map λn=>UInt8.ofNat n.toNat).toArray⟩
def B_(X:hZ):List TV->Option (List (List TV))
 | []=>U []
 |a::r=>match qe X a,B_ X r with
  |some cs,U l=>U (cs::l)
  |_,_=>zz
def ig(s:ByteArray)(n:Int):Int:=((s.data.getD n.toNat 0).toNat:Nat)
def oG(c:Cs):TV->Option (List c.den)
 | .l c' v=>m_ c' c v
 | .e _=>U []
 | .lt E=>xT c E
 |_=>zz
def iz:il->Option Nat
 | .sq _ l=>U l.length
 | .fm (.rw _ _) _ _ _ l=>U l.length
 | .fm (.mp _ _) _ _ _ _=>zz
 | .st _=>zz
 | .sb s=>U s.size
def vZ(env:jO)(o:Option iq)(d:Int):Option Int:=
 match o with
 |none=>U d
 |some x=>match vo env x with
  | .i _ n=>U n
  |_=>zz
def KK(g:Bool)(n:Nat)(x:TV)(X:hZ)(K:TV->hZ->Option β):Option β:=
 match x with
 | .rp cs=>match wP g n cs with|some a=>K a X|none=>zz
 | .ptr a i j=>match b_ X a with
   |some (.sq c l)=>match wP g n ((cells c (lX c l i)).drop j)with|some a=>K a X|none=>zz
   |some (.st cs)=>bif im i 0 then match wP g n (cs.drop j)with|some a=>K a X|none=>zz else zz
   |some (.fm hd c V zz l)=>bif hd.wO then match wP g n ((cells hd.A (yI hd c l i)++[TV.sub a V i]).drop j)with|some a=>K a X|none=>zz else zz
   |some (.fm _ _ _ (U _) _)=>zz
   |some (.sb s)=>match g,j with
    |false,0=>K (.i .u8 (ig s i)) X
    |_,_=>zz
   |none=>zz
 | .nq a V i k j=>match b_ X a with
   |some (.fm hd c ver' zz l)=>bif im V ver' then match wP g n ((cells c (lX c (kG hd c l i) k)).drop j)with|some a=>K a X|none=>zz else zz
   |_=>zz
 |_=>zz
def OD(n:Nat)(x y:TV)(X:hZ)(K:TV->hZ->Option β):Option β:=
 match x with
 | .ptr a i j=>match b_ X a with
   |some (.sq c l)=>match qe X y with
    |some cs=>bif im cs.length n&&iS (j+n) c.width then match pack c (tm (cells c (lX c l i)) j cs)with
     |some e=>K .u (hU X a (U (.sq c (l.set i e))))
     |none=>zz
     else zz
    |none=>zz
   |some (.st ds)=>match qe X y with
    |some cs=>bif im i 0&&im cs.length n&&iS (j+n) ds.length then K .u (hU X a (U (.st (tm ds j cs))))else zz
    |none=>zz
   |some (.fm hd c V H l)=>bif hd.wO then(bif im j hd.A.width&&im n 1 then match y with
    | .ref m=>bif im m a then zz else match b_ X m with
      |some (.sq c' g)=>match m_ c' c g with
       |some L=>match H with
        |none=>K .u (hU (hU X m zz) a (U (.fm hd c (V+1) zz (kV hd c l i L))))
        |some h=>e_ (h=i) (K .u (hU (hU X m zz) a (U (.fm hd c (V+1) zz (kV hd c l i L)))))
       |none=>zz
      |_=>zz
    | .e _=>bif hd.nn then zz else match H with
      |none=>K .u (hU X a (U (.fm hd c (V+1) zz (kV hd c l i []))))
      |some _=>zz
    |_=>zz
    else match H,qe X y with
     |none,U cs=>bif im cs.length n&&iS (j+n) hd.A.width then match pack hd.A (tm (cells hd.A (yI hd c l i)) j cs)with
      |some d=>K .u (hU X a (U (.fm hd c V zz (sr hd c l i d))))
      |none=>zz
      else zz
     |_,_=>zz)else zz
   |some (.sb _)=>zz
   |none=>zz
 | .nq a V i k j=>match b_ X a with
   |some (.fm hd c ver' zz l)=>match qe X y with
    |some cs=>bif im V ver'&&im cs.length n&&iS (j+n) c.width then match pack c (tm (cells c (lX c (kG hd c l i) k)) j cs)with
     |some e=>K .u (hU X a (U (.fm hd c V zz (kV hd c l i ((kG hd c l i).set k e)))))
     |none=>zz
     else zz
    |none=>zz
   |_=>zz
 |_=>zz
def Ca(es:Nat)(x i:TV)(X:hZ)(K:TV->hZ->Option β):Option β:=
 match i with
 | .i _ n=>match x with
   | .l c v=>bif im c.width es then e_ (0<=n/\n< (v.length:Int)) (K (.rp (cells c (lX c v n.toNat))) X)else zz
   | .ref a=>match b_ X a with
     |some (.sq c l)=>bif im c.width es then e_ (0<=n/\n< (l.length:Int)) (K (.ptr a n.toNat 0) X)else zz
     |some (.fm (.rw A _) _ _ _ l)=>bif im es (A.width+1)then e_ (0<=n/\n< (l.length:Int)) (K (.ptr a n.toNat 0) X)else zz
     |some (.sb s)=>bif im es 1 then e_ (0<=n/\n< (s.size:Int)) (K (.ptr a n.toNat 0) X)else zz
     |_=>zz
   | .pre a m=>match b_ X a with
     |some (.sq c l)=>bif im c.width es then e_ (0<=n/\n<m) (K (.ptr a n.toNat 0) X)else zz
     |_=>zz
   | .sub a V i=>match b_ X a with
     |some (.fm hd c ver' zz l)=>bif im c.width es&&im V ver' then e_ (0<=n/\n< ((kG hd c l i).length:Int)) (K (.nq a V i n.toNat 0) X)else zz
     |_=>zz
   |_=>zz
 |_=>zz
def GL(x:TV)(X:hZ)(K:TV->hZ->Option β):Option β:=
 match x with
 | .l _ v=>K (.i .i64 (v.length:Nat)) X
 | .e _=>K (.i .i64 0) X
 | .lt E=>K (.i .i64 (E.length:Nat)) X
 | .ref a=>match b_ X a with
   |some (.sq _ l)=>K (.i .i64 (l.length:Nat)) X
   |some (.fm (.rw _ _) _ _ _ l)=>K (.i .i64 (l.length:Nat)) X
   |some (.sb s)=>K (.i .i64 (s.size:Nat)) X
   |_=>zz
 | .pre _ m=>K (.i .i64 m) X
 | .sub a V i=>match b_ X a with
   |some (.fm hd c ver' zz l)=>bif im V ver' then K (.i .i64 ((kG hd c l i).length:Nat)) X else zz
   |_=>zz
 |_=>zz
def E2:List TV->Option (List TV×TV)
 | []=>zz
 | [x]=>U ([],x)
 |a::r=>match E2 r with|some (l,x)=>U (a::l,x)|none=>zz
def Cb(c:Cs)(w:Nat)(s x:TV)(X:hZ)(K:TV->hZ->Option β):Option β:=
 match s with
 | .ref a=>match b_ X a with
   |some (.sq c' l)=>match oG c' x with
    |some m=>bif im c.width c'.width then e_ (l.length+m.length<=c_) (K (.ref X.length) (hU X a zz++[U (.sq c' (l++m))]))else zz
    |none=>zz
   |some (.fm hd c' _ zz l)=>match x with
    | .lt [es]=>bif hd.wO&&im c.width (hd.A.width+1)then match E2 es with
      |some (ds,.ref m)=>bif im m a then zz else match b_ X m,pack hd.A ds with
       |some (.sq c2 g),U d=>match m_ c2 c' g with
        |some L=>e_ (l.length+1<=c_) (K (.ref X.length) (hU (hU X m zz) a zz++[U (.fm hd c' 0 zz (l++[nS c' hd.A d L]))]))
        |none=>zz
       |_,_=>zz
      |some (ds,.e _)=>bif hd.nn then zz else match pack hd.A ds with
       |some d=>e_ (l.length+1<=c_) (K (.ref X.length) (hU X a zz++[U (.fm hd c' 0 zz (l++[nS c' hd.A d []]))]))
       |none=>zz
      |_=>zz
      else zz
    |_=>zz
   |_=>zz
 | .e _=>match w with
   |0=>bif js 0 c.width then match oG c x with
    |some m=>e_ (m.length<=c_) (K (.ref X.length) (X++[U (.sq c m)]))
    |none=>zz
    else zz
   |1=>zz
   |_=>match yH c,x with
    |some (A,c'),.lt [es]=>match E2 es with
     |some (ds,.ref m)=>match b_ X m,pack A ds with
      |some (.sq c2 g),U d=>match m_ c2 c' g with
       |some L=>bif im c.width (A.width+1)then K (.ref X.length) (hU X m zz++[U (.fm (.rw A zZ) c' 0 zz [nS c' A d L])])else zz
       |none=>zz
      |_,_=>zz
     |_=>zz
    |_,_=>zz
 | .sub a V i=>match b_ X a with
   |some (.fm hd c' ver' zz l)=>match oG c' x with
    |some m=>bif im c.width c'.width&&im V ver' then e_ ((kG hd c' l i).length+m.length<=c_) (bif hd.wO||js i l.length then K (.ref X.length) (hU X a (U (.fm hd c' V (U i) l))++[U (.sq c' (kG hd c' l i++m))])else K (.ref X.length) (X++[U (.sq c' m)]))else zz
    |none=>zz
   |_=>zz
 |_=>zz
def OE(c:Cs)(s x:TV)(X:hZ)(K:TV->hZ->Option β):Option β:=
 match s with
 | .e _=>match oG c x with
   |some m=>e_ (m.length<=c_) (K (.l c m) X)
   |none=>zz
 | .ref a=>match b_ X a with
   |some (.sq c' l)=>match oG c' x with
    |some m=>bif im c.width c'.width then e_ (l.length+m.length<=c_) (K (.l c' (l++m)) (hU X a zz))else zz
    |none=>zz
   |_=>zz
 |_=>zz
def XW(c:Cs)(l:List c.den):Option (List Int):=m_ c U8 l
def XX(s:TV)(b:ByteArray)(X:hZ)(K:TV->hZ->Option β):Option β:=
 match s with
 | .e _=>e_ (0<b.size/\b.size<=c_) (K (.ref X.length) (X++[U (.sb b)]))
 | .ref a=>match b_ X a with
   |some (.sb s)=>e_ (s.size+b.size<=c_) (K (.ref X.length) (hU X a zz++[U (.sb (s++b))]))
   |_=>zz
 |_=>zz
def sT(l:List Int):Bool:=l.all λn=>decide (0<=n)&&decide (n<256)
def GM(x:TV):Option (List Int):=oG U8 x
def OF(s x:TV)(X:hZ)(K:TV->hZ->Option β):Option β:=
 match GM x with
 |some m=>bif sT m then match s with
  | .e _=>e_ (0<m.length/\m.length<=c_) (K (.ref X.length) (X++[U (.sb (nT m))]))
  | .ref a=>match b_ X a with
    |some (.sb s)=>e_ (s.size+m.length<=c_) (K (.ref X.length) (hU X a zz++[U (.sb (s++nT m))]))
    |_=>zz
  |_=>zz
  else zz
 |none=>zz
def OG(s x:TV)(X:hZ)(K:TV->hZ->Option β):Option β:=
 match GM x with
 |some m=>match s with
  | .e _=>e_ (0<m.length/\m.length<=c_) (K (.l U8 m) X)
  | .ref a=>match b_ X a with
    |some (.sb s)=>e_ (s.size+m.length<=c_) (K (.l U8 (od s++m)) (hU X a zz))
    |_=>zz
  |_=>zz
 |none=>zz
def OH(x:TV)(X:hZ)(K:TV->hZ->Option β):Option β:=
 match x with
 | .e _=>K (.s (a_ #[])) X
 | .l c v=>match XW c v with
   |some l=>K (.s (nT l)) X
   |none=>zz
 | .ref a=>match b_ X a with
   |some (.sq c' l)=>match XW c' l with
    |some l=>K (.s (nT l)) X
    |none=>zz
   |some (.sb s)=>K (.s s) X
   |_=>zz
 |_=>zz
def qf:Cs:=.cons (.i .i64) .nil
def wR(ok:Bool)(v:TV)(is:Bool)(X:hZ)(K:TV->hZ->Option β):Option β:=
 match ok with
 |true=>K (.tp [v,.b is]) X
 |false=>K v X
def OI(o:Option IntKind)(t:Ty)(V:Cs)(g ok:Bool)(m k:TV)(X:hZ)(K:TV->hZ->Option β):Option β:=
 match uP o t V X m,Aw (mV o) k with
 |some (_,_,l,T),U k=>bif im T.length (nH g)&&Ay g V then
  wR ok (KJ g (.cons t V) (B9 (jV o) k l (Cs.cons t V).qC)) (B' (jV o) k l) X K
  else zz
 |none,U k=>match yK o X m with
  |some f=>match f.hole with
   |none=>bif im (nH g) 1&& (Ty.l f.c).eqb t&&Ay g V then wR ok (.sub f.a f.lV (wQ (jV o) k f.l)) (B' (jV o) k f.l) X K else zz
   |some _=>zz
  |none=>zz
 |_,_=>zz
def GN:TV->Bool
 | .ag _=>zZ
 |_=>zj
def OJ(o:Option IntKind)(t:Ty)(V:Cs)(g:Bool)(m k v:TV)(X:hZ)(K:TV->hZ->Option β):Option β:=
 match uP o t V X m,Aw (mV o) k with
 |some (a,n,l,T),U k=>bif im T.length (nH g)&& ((GN v==g)&&Ay g V)then(match qe X v with
  |some cs=>match pack (.cons t V) cs with
   |some d=>K .u (hU X a (U (.st (.i .i64 (tq (jV o) n k l):: .l (iE o t V) (oc (jV o) n k d l)::T))))
   |none=>zz
  |none=>zz)else zz
 |none,U k=>match yK o X m with
  |some f=>bif im (nH g) 1&& (Ty.l f.c).eqb t&&Ay g V then(yJ f.c X v λb L=>match f.hole with
   |none=>K .u (hU (hU X b zz) f.a (U (.fm (.mp o (tq (jV o) f.n k f.l)) f.c (f.lV+1) zz (oc (jV o) f.n k L f.l))))
   |some h=>e_ (wQ (jV o) k f.l=h) (K .u (hU (hU X b zz) f.a (U (.fm (.mp o (tq (jV o) f.n k f.l)) f.c (f.lV+1) zz (oc (jV o) f.n k L f.l))))))else zz
  |none=>zz
 |_,_=>zz
def OK(o:Option IntKind)(t:Ty)(V:Cs)(m k:TV)(X:hZ)(K:TV->hZ->Option β):Option β:=
 match uP o t V X m,Aw (mV o) k with
 |some (a,n,l,T),U k=>K .u (hU X a (U (.st (.i .i64 n:: .l (iE o t V) (rK (jV o) k l)::T))))
 |none,U k=>match yK o X m with
  |some f=>match f.hole with
   |none=>bif Cs.eqb (iE o t V) (iE o (.l f.c) .nil)then K .u (hU X f.a (U (.fm (.mp o f.n) f.c (f.lV+1) zz (rK (jV o) k f.l))))else zz
   |some _=>zz
  |none=>zz
 |_,_=>zz
def OL(o:Option IntKind)(t:Ty)(V:Cs)(g:Bool)(I:TV)(X:hZ)(K:TV->hZ->Option β):Option β:=
 match I with
 | .np i=>match b_ X i with
   |some (.st [.np a,.i .i64 _,.i .i64 d,.l c S,_])=>match uP o t V X (.np a),m_ c qf S with
    |some (_,n,l,T),U S=>bif im T.length (nH g)&&Ay g V then e_ (d=n) (match S.getLast? with
     |some b=>match Ax b l with
      |some e=>K (.tp [nx (mV o) e.1,KJ g (.cons t V) e.2]) X
      |none=>zz
     |none=>zz)else zz
    |none,U S=>match yK o X (.np a)with
     |some f=>match f.hole with
      |none=>e_ (d=f.n) (match S.getLast? with
       |some b=>match Ax b f.l with
        |some e=>K (.tp [nx (mV o) e.1,.sub f.a f.lV (E1 b f.l)]) X
        |none=>zz
       |none=>zz)
      |some _=>zz
     |none=>zz
    |_,_=>zz
   |_=>zz
 |_=>zz
def vG(F:qE)(env:jO)(X:hZ)(K:TV->hZ->Option β):Option β:=
 match F with
 | .mkm o t V B=>K (.np X.length) (X++[U (.st (.i .i64 0:: .l (iE o t V) []::List.replicate (nH B) (.b zj)))])
 | .mget o t V B ok m k=>OI o t V B ok (vo env m) (vo env k) X K
 | .mput o t V B m k v=>OJ o t V B (vo env m) (vo env k) (vo env v) X K
 | .mdel o t V m k=>OK o t V (vo env m) (vo env k) X K
 | .mlen m=>match vo env m with
   | .np a=>match b_ X a with
     |some (.fm (.mp _ _) _ _ _ l)=>K (.i .i64 (l.length:Nat)) X
     |some (.st (.i .i64 _:: .l _ l::T))=>bif im T.length 1||im T.length 2 then K (.i .i64 (l.length:Nat)) X else zz
     |_=>zz
   |_=>zz
 | .mrng m=>match vo env m with
   | .np a=>match b_ X a with
     |some (.fm (.mp _ n) _ _ _ _)=>K (.np X.length) (X++[U (.st [.np a,.i .i64 n,.i .i64 n,.l qf [],.b zj])])
     |some (.st (.i .i64 n:: .l _ _::T))=>bif im T.length 1||im T.length 2 then K (.np X.length) (X++[U (.st [.np a,.i .i64 n,.i .i64 n,.l qf [],.b zj])])else zz
     |_=>zz
   |_=>zz
 | .ment o t V B I=>OL o t V B (vo env I) X K
 | .mnxt _=>zz
 | .cpy c d s=>match vo env d with
   | .ref a=>match b_ X a with
     |some (.sq c' l)=>match oG c (vo env s)with
      |some m=>match m_ c c' m with
       |some m=>bif js 0 c.width then K (.i .i64 ((min m.length l.length:Nat):Int)) (hU X a (U (.sq c' (m.take (min m.length l.length)++l.drop (min m.length l.length)))))else zz
       |none=>zz
      |none=>zz
     |_=>zz
   |_=>zz
 | .mm mx xs=>match xs.map (vo env)with
   | .i k m::r=>match KI mx k m r with|some v=>K v X|none=>zz
   |_=>zz
 | .emz x L H mx=>match vo env L,vo env H,vo env mx with
   | .i _ l,.i _ h,.i _ m=>e_ (l=0/\h=0/\m=0) (match vo env x with
     | .l c _=>K (.e c) X
     | .e c=>K (.e c) X
     |_=>zz)
   |_,_,_=>zz
 | .sl3 es x L H mx=>match vo env x,vo env L,vo env H,vo env mx with
   | .l c v,.i _ l,.i _ h,.i _ m=>bif im c.width es then e_ (0<=l/\l<=h/\h<=m/\m<=(v.length:Int)) (K (.l c ((v.take h.toNat).drop l.toNat)) X)else zz
   |_,_,_,_=>zz
 | .mv x=>K (vo env x) X
 | .mvp x=>match vo env x with
   | .ref a=>match b_ X a with
     |some (.sq _ l)=>K (.pre a (l.length:Nat)) X
     |_=>zz
   |_=>zz
 | .pick c a b=>match vo env c with
   | .b t=>bif t then K (vo env a) X else K (vo env b) X
   |_=>zz
 | .box x=>match qe X (vo env x)with
   |some (c::cs)=>bif iS (cs.length+1) 1000 then K (.ptr X.length 0 0) (X++[U (.st (c::cs))])else zz
   |_=>zz
 | .alloc z=>bif z.all K1.ok&&js 0 z.length then K (.ptr X.length 0 0) (X++[U (.st (z.map K1.tv))])else zz
 | .build z p=>bif z.all K1.ok then match KG X (z.map K1.tv) env p with
   |some cs=>K (.ag cs) X
   |none=>zz
   else zz
 | .bsl c n p=>bif js 0 c.width then match GJ X c.width (List.replicate n c.kh) env p with
   |some []=>K (.e c) X
   |some (e::E)=>match xT c (e::E)with
    |some l=>K (.l c l) X
    |none=>K (.lt (e::E)) X
   |none=>zz
   else zz
 | .bslT c n p=>bif js 0 c.width then match GJ X c.width (List.replicate n c.kh) env p with
   |some (e::E)=>K (.lt (e::E)) X
   |_=>zz
   else zz
 | .load g n x=>KK g n (vo env x) X K
 | .loadR g n x=>match vo env x with
   | .rp cs=>match wP g n cs with|some a=>K a X|none=>zz
   |_=>zz
 | .store n x y=>OD n (vo env x) (vo env y) X K
 | .nilc x=>match vo env x with
   | .rp cs=>K (.rp cs) X
   | .ptr a i j=>bif(b_ X a).isSome then K (.ptr a i j) X else zz
   | .nq a A i k j=>match b_ X a with|some (.fm _ _ ver' zz _)=>bif im A ver' then K (.nq a A i k j) X else zz|_=>zz
   | .clo f cs=>K (.clo f cs) X
   |_=>zz
 | .bin F x y=>B8 F (vo env x) (vo env y) λr=>K r X
 | .beq N x y=>match vo env x,vo env y with
   | .b s,.b t=>K (.b (match N with|true=> !(s==t)|false=>s==t)) X
   |_,_=>zz
 | .eqa N J x y=>match vo env x,vo env y with
   | .ag cs,.ag ds=>match KH J cs ds with|some r=>K (.b (match N with|true=> !r|false=>r)) X|none=>zz
   |_,_=>zz
 | .not x=>match vo env x with
   | .b b=>K (.b (!b)) X
   |_=>zz
 | .neg x=>match vo env x with
   | .i k n=>K (.i k (k.wrap (0-n))) X
   |_=>zz
 | .conv k x=>match vo env x with
   | .i _ n=>K (.i k (k.wrap n)) X
   |_=>zz
 | .cvs x=>match vo env x with
   | .s s=>K (.s s) X
   |_=>zz
 | .fad O x=>match vo env x with
   | .rp cs=>K (.rp (cs.drop O)) X
   | .ptr a i j=>bif(b_ X a).isSome then K (.ptr a i (j+O)) X else zz
   | .nq a A i k j=>match b_ X a with|some (.fm _ _ ver' zz _)=>bif im A ver' then K (.nq a A i k (j+O)) X else zz|_=>zz
   |_=>zz
 | .fld g O n x=>match vo env x with
   | .ag cs=>bif iS O cs.length then match wP g n (cs.drop O)with|some a=>K a X|none=>zz else zz
   |_=>zz
 | .iad es x i=>Ca es (vo env x) (vo env i) X K
 | .iada _ _ _ _=>zz
 | .idx x i=>match vo env x,vo env i with
   | .s s,.i _ n=>e_ (0<=n/\n< (s.size:Int)) (K (.i .u8 (ig s n)) X)
   |_,_=>zz
 | .slcS x L H=>match vo env x with
   | .s s=>match vZ env L 0,vZ env H s.size with
     |some l,U h=>e_ (0<=l/\l<=h/\h<=(s.size:Int)) (K (.s (s.extract l.toNat h.toNat)) X)
     |_,_=>zz
   |_=>zz
 | .slcR G x L H=>match vo env x with
   | .l c v=>bif im c.width G then match vZ env L 0,vZ env H v.length with
     |some l,U h=>e_ (0<=l/\l<=h/\h<=(v.length:Int)) (K (.l c ((v.take h.toNat).drop l.toNat)) X)
     |_,_=>zz
     else zz
   | .e c=>match vZ env L 0,vZ env H 0 with
     |some l,U h=>e_ (l=0/\h=0) (K (.e c) X)
     |_,_=>zz
   | .ref a=>match b_ X a with
     |some (.sq _ l)=>match vZ env L 0,H with
      |some L,zz=>e_ (L=0) (K (.ref a) X)
      |some L,U H=>match vo env H with
       | .i _ h=>e_ (L=0/\0<=h/\h<=(l.length:Int)) (K (.pre a h) X)
       |_=>zz
      |_,_=>zz
     |some (.fm (.rw _ _) _ _ _ l)=>match vZ env L 0,H with
      |some L,U H=>match vo env H with
       | .i _ h=>e_ (L=0/\0<=h/\h<=(l.length:Int)) (K (.pre a h) X)
       |_=>zz
      |_,_=>zz
     |_=>zz
   | .pre a m=>match b_ X a with
     |some (.sq _ _)=>match vZ env L 0,vZ env H m with
      |some L,U h=>e_ (L=0/\0<=h/\h<=m) (K (.pre a h) X)
      |_,_=>zz
     |_=>zz
   |_=>zz
 | .ext x i=>match vo env x with
   | .tp l=>match l[i]? with|some b=>K b X|none=>zz
   |_=>zz
 | .lenS x=>match vo env x with
   | .s s=>K (.i .i64 (s.size:Nat)) X
   |_=>zz
 | .len x=>GL (vo env x) X K
 | .app c w s x=>Cb c w (vo env s) (vo env x) X K
 | .mksl c w n D=>match vo env n,vo env D with
   | .i _ n,.i _ D=>e_ (0<=n/\n<=D/\D<=(c_:Nat)) (match w,c with
     |2,.cons (.l c') .nil=>bif js 0 c'.width then K (.ref X.length) (X++[U (.fm (.rw .nil zj) c' 0 zz (List.replicate n.toNat []))])else zz
     |0,c=>bif js 0 c.width then K (.ref X.length) (X++[U (.sq c (List.replicate n.toNat c.qC))])else zz
     |_,_=>zz)
   |_,_=>zz
 | .mkf f C=>K (.clo f (C.map (vo env))) X
 | .lit c xs=>match B_ X (xs.map (vo env))with
   |some (e::E)=>bif js 0 c.width&&iS (E.length+1) 1000000 then match xT c (e::E)with
    |some l=>K (.ref X.length) (X++[U (.sq c l)])
    |none=>zz
    else zz
   |_=>zz
 | .appD c s x=>bif js 0 c.width then OE c (vo env s) (vo env x) X K else zz
 | .apps s x=>match vo env x with
   | .s b=>XX (vo env s) b X K
   |_=>zz
 | .bstr x=>OH (vo env x) X K
 | .appb s x=>OF (vo env s) (vo env x) X K
 | .appDb s x=>OG (vo env s) (vo env x) X K
 | .litb xs=>match B_ X (xs.map (vo env))with
   |some (e::E)=>bif iS (E.length+1) 1000000 then match xT U8 (e::E)with
    |some l=>bif sT l then K (.ref X.length) (X++[U (.sb (nT l))])else zz
    |none=>zz
    else zz
   |_=>zz
 | .bld=>K (.ptr X.length 0 0) (X++[U (.st [.np X.length,.v (.slice zz 0 0)])])
 | .sbyt x=>match vo env x with
   | .s b=>K (.l U8 (od b)) X
   |_=>zz
 | .add64 xs=>match xs.map (vo env)with
   | [.i .u64 x,.i .u64 y,.i .u64 c]=>e_ (c.toNat<=1) (K (.tp [.i .u64 (Aj x y c).1,.i .u64 (Aj x y c).2]) X)
   |_=>zz
 | .sub64 xs=>match xs.map (vo env)with
   | [.i .u64 x,.i .u64 y,.i .u64 c]=>e_ (c.toNat<=1) (K (.tp [.i .u64 (Ak x y c).1,.i .u64 (Ak x y c).2]) X)
   |_=>zz
 | .call _ _=>zz
 | .callF _ _=>zz
 | .mkmF o c=>bif js 0 c.width then K (.np X.length) (X++[U (.fm (.mp o 0) c 0 zz [])])else zz
 | .dyn _ _=>zz
 | .dynP _ _=>zz
 | .callN _ _ _=>zz
 | .isp N x=>match vo env x with
   | .nl=>K (.b (!N)) X
   | .ptr a _ _=>bif(b_ X a).isSome then K (.b N) X else zz
   |_=>zz
 | .isi N x=>match vo env x with
   | .ef q=>K (.b (bif N then q else !q)) X
   |_=>zz
 | .ixa t n x i=>match vo env x,vo env i with
   | .ag cs,.i _ m=>match KF t cs with
     |some l=>bif im cs.length n then e_ (0<=m/\m<n) (K (nx t (l.getD m.toNat t.qC)) X)else zz
     |none=>zz
   |_,_=>zz
end
end Go.Abs
namespace Go.Abs
open Go Go.RowKit
structure Lf where
 t:Ty
 v:t.den
inductive SV where
 |i (k:IntKind)
 |b
 |s
 |l (c:Cs)
 |u
 |e (c:Cs)
 |ref (a:Nat)
 |pre (a:Nat)
 |ptr (a i j:Nat)
 |ag (l:List SV)
 |tp (l:List SV)
 |clo (g:Nat) (l:List SV)
 |np (a:Nat)
 |nl
 |ef
inductive SO where
 |sq (c:Cs)
 |fm (A:Cs) (nn:Bool) (c:Cs)
 |fp (o:Option IntKind) (c:Cs)
 |st (l:List SV)
 |dd
 |sb
mutual
def SV.eqb:SV->SV->Bool
 | .i k,.i k'=>decide (k=k')
 | .b,.b=>zZ
 | .s,.s=>zZ
 | .l c,.l c'=>c.eqb c'
 | .u,.u=>zZ
 | .e c,.e c'=>c.eqb c'
 | .ref a,.ref a'=>im a a'
 | .pre a,.pre a'=>im a a'
 | .ptr a p q,.ptr a' p' q'=>im a a'&&im p p'&&im q q'
 | .ag x,.ag x'=>SV.jW x x'
 | .tp x,.tp x'=>SV.jW x x'
 | .clo g x,.clo g' x'=>im g g'&&SV.jW x x'
 | .np a,.np a'=>im a a'
 | .nl,.nl=>zZ
 | .ef,.ef=>zZ
 |_,_=>zj
def SV.jW:List SV->List SV->Bool
 | [],[]=>zZ
 |a::r,a'::r'=>a.eqb a'&&SV.jW r r'
 |_,_=>zj
end
def SO.eqb:SO->SO->Bool
 | .sq c,.sq c'=>c.eqb c'
 | .fm A n c,.fm d n' c'=>A.eqb d&& (n==n'&&c.eqb c')
 | .fp o c,.fp o' c'=>decide (o=o')&&c.eqb c'
 | .st l,.st l'=>SV.jW l l'
 | .dd,.dd=>zZ
 | .sb,.sb=>zZ
 |_,_=>zj
def SO.jW:List SO->List SO->Bool
 | [],[]=>zZ
 |a::r,A::R=>a.eqb A&&SO.jW r R
 |_,_=>zj
mutual
def TV.sh:TV->Option SV
 | .i k _=>U (.i k)
 | .b _=>U .b
 | .s _=>U .s
 | .l c _=>U (.l c)
 | .u=>U .u
 | .e c=>U (.e c)
 | .ref a=>U (.ref a)
 | .pre a _=>U (.pre a)
 | .ptr a p q=>U (.ptr a p q)
 | .np a=>U (.np a)
 | .nl=>U .nl
 | .ef _=>U .ef
 | .ag x=>match TV.qg x with|some y=>U (.ag y)|none=>zz
 | .tp x=>match TV.qg x with|some y=>U (.tp y)|none=>zz
 | .clo g x=>match TV.qg x with|some y=>U (.clo g y)|none=>zz
 |_=>zz
def TV.qg:List TV->Option (List SV)
 | []=>U []
 |a::r=>match a.sh,TV.qg r with
  |some x,U xs=>U (x::xs)
  |_,_=>zz
end
mutual
def TV.lv:TV->List Lf
 | .i k n=>[⟨.i k,n⟩]
 | .b x=>[⟨.b,x⟩]
 | .ef x=>[⟨.b,x⟩]
 | .s x=>[⟨.s,x⟩]
 | .l c w=>[⟨.l c,w⟩]
 | .pre _ n=>[⟨.i .i64,n⟩]
 | .ag y=>TV.oB y
 | .tp y=>TV.oB y
 | .clo _ y=>TV.oB y
 |_=>[]
def TV.oB:List TV->List Lf
 | []=>[]
 |a::r=>a.lv++TV.oB r
end
def il.sh:il->Option SO
 | .sq c _=>U (.sq c)
 | .fm (.rw A nn) c V zz _=>bif im V 0 then U (.fm A nn c)else zz
 | .fm (.mp o _) c V zz _=>bif im V 0 then U (.fp o c)else zz
 | .fm _ _ _ (U _) _=>zz
 | .st cs=>match TV.qg cs with|some l=>U (.st l)|none=>zz
 | .sb _=>U .sb
def il.lv:il->List Lf
 | .sq c l=>[⟨.l c,l⟩]
 | .fm (.rw A nn) c _ _ l=>[⟨.l (sn c (Hd.rw A nn).A),l⟩]
 | .fm (.mp o n) c _ _ l=>[⟨.i .i64,n⟩,⟨.l (sn c (Hd.mp o n).A),l⟩]
 | .st cs=>TV.oB cs
 | .sb s=>[⟨.s,s⟩]
def tt:List Lf->(c:Cs)×c.den
 | []=>⟨.nil,()⟩
 |a::r=>match tt r with
  | ⟨c,x⟩=>⟨.cons a.t c,uh c a.v x⟩
def kp:(c:Cs)->c.den->List Lf
 | .nil,_=>[]
 | .cons t r,x=>⟨t,kU r x⟩::kp r (lM r x)
mutual
def kH:SV->List Lf->Option (TV×List Lf)
 | .i k,⟨.i k',n⟩::r=>bif decide (k=k')then U (.i k n,r)else zz
 | .b,⟨.b,x⟩::r=>U (.b x,r)
 | .ef,⟨.b,x⟩::r=>U (.ef x,r)
 | .s,⟨.s,x⟩::r=>U (.s x,r)
 | .l c,⟨.l c',v⟩::r=>match m_ c' c v with|some v=>U (.l c v,r)|none=>zz
 | .u,r=>U (.u,r)
 | .e c,r=>U (.e c,r)
 | .ref a,r=>U (.ref a,r)
 | .pre a,⟨.i .i64,n⟩::r=>U (.pre a n,r)
 | .ptr a i j,r=>U (.ptr a i j,r)
 | .np a,r=>U (.np a,r)
 | .nl,r=>U (.nl,r)
 | .ag l,r=>match pn l r with|some (l,r)=>U (.ag l,r)|none=>zz
 | .tp l,r=>match pn l r with|some (l,r)=>U (.tp l,r)|none=>zz
 | .clo g l,r=>match pn l r with|some (l,r)=>U (.clo g l,r)|none=>zz
 |_,_=>zz
def pn:List SV->List Lf->Option (List TV×List Lf)
 | [],r=>U ([],r)
 |a::as,r=>match kH a r with
  |some (x,r)=>match pn as r with
   |some (xs,r)=>U (x::xs,r)
   |none=>zz
  |none=>zz
end
def rL:SO->List Lf->Option (il×List Lf)
 | .sq c,⟨.l c',v⟩::r=>match m_ c' c v with|some v=>U (.sq c v,r)|none=>zz
 | .fm A nn c,⟨.l c',v⟩::r=>match m_ c' (sn c (Hd.rw A nn).A) v with|some v=>U (.fm (.rw A nn) c 0 zz v,r)|none=>zz
 | .fp o c,⟨.i .i64,n⟩::⟨.l c',v⟩::r=>match m_ c' (sn c (Hd.mp o n).A) v with|some v=>U (.fm (.mp o n) c 0 zz v,r)|none=>zz
 | .st l,r=>match pn l r with|some (l,r)=>U (.st l,r)|none=>zz
 | .sb,⟨.s,x⟩::r=>U (.sb x,r)
 |_,_=>zz
def ll:List SO->List Lf->Option (hZ×List Lf)
 | [],r=>U ([],r)
 | .dd::as,r=>match ll as r with
   |some (xs,r)=>U (zz::xs,r)
   |none=>zz
 |a::as,r=>match rL a r with
  |some (x,r)=>match ll as r with
   |some (xs,r)=>U (U x::xs,r)
   |none=>zz
  |none=>zz
structure Sg where
 ts:List Nat
 vs:List SV
 os:List SO
 c:Cs
def ji:List Nat->List TV->jO
 |t::ts,v::vs=>(t,v)::ji ts vs
 |_,_=>[]
def Sg.fill(g:Sg)(x:g.c.den):Option lu:=
 match pn g.vs (kp g.c x)with
 |some (vs,r)=>match ll g.os r with
  |some (X,[])=>U ⟨ji g.ts vs,X⟩
  |_=>zz
 |none=>zz
def ny:hZ->Option (List SO)
 | []=>U []
 |some o::r=>match o.sh,ny r with
  |some x,U xs=>U (x::xs)
  |_,_=>zz
 |none::r=>match ny r with
  |some xs=>U (.dd::xs)
  |none=>zz
def kW:hZ->List Lf
 | []=>[]
 |some o::r=>o.lv++kW r
 |none::r=>kW r
def Sg.read(g:Sg)(vs:List TV)(X:hZ):Option g.c.den:=
 match TV.qg vs,ny X with
 |some svs,U S=>bif SV.jW svs g.vs&&SO.jW S g.os then
  match tt (TV.oB vs++kW X)with
  | ⟨c,x⟩=>c.cast g.c x
  else zz
 |_,_=>zz
mutual
def TV.ids:TV->List Nat
 | .ref a=>[a]
 | .pre a _=>[a]
 | .ptr a _ _=>[a]
 | .np a=>[a]
 | .ag y=>TV.jD y
 | .tp y=>TV.jD y
 | .clo _ y=>TV.jD y
 |_=>[]
def TV.jD:List TV->List Nat
 | []=>[]
 |a::r=>a.ids++TV.jD r
end
mutual
def TV.jm(r:Nat->Option Nat):TV->TV
 | .ref a=>match r a with|some q=>.ref q|none=>.u
 | .pre a n=>match r a with|some q=>.pre q n|none=>.u
 | .ptr a x y=>match r a with|some q=>.ptr q x y|none=>.u
 | .np a=>match r a with|some q=>.np q|none=>.u
 | .e c=>.e c
 | .sub _ _ _=>.u
 | .nq _ _ _ _ _=>.u
 | .rp _=>.u
 | .lt _=>.u
 | .v _=>.u
 | .ag y=>.ag (TV.my r y)
 | .tp y=>.tp (TV.my r y)
 | .clo g y=>.clo g (TV.my r y)
 | .i k n=>.i k n
 | .b x=>.b x
 | .s x=>.s x
 | .l c x=>.l c x
 | .u=>.u
 | .nl=>.nl
 | .ef x=>.ef x
def TV.my(r:Nat->Option Nat):List TV->List TV
 | []=>[]
 |a::y=>a.jm r::TV.my r y
end
def il.ids:Option il->List Nat
 |some (.st cs)=>TV.jD cs
 |_=>[]
def il.jm(r:Nat->Option Nat):il->il
 | .sq c l=>.sq c l
 | .fm hd c _ h l=>.fm hd c 0 h l
 | .st cs=>.st (TV.my r cs)
 | .sb s=>.sb s
def kX(X:hZ):List Nat->List Nat->List Nat
 |m,[]=>m
 |m,a::r=>bif(b_ X a).isSome&& !(m.any (im a))then kX X (m++[a]) r else kX X m r
def lR(X:hZ):Nat->List Nat->List Nat
 |0,m=>m
 |d+1,m=>match kX X m (m.flatMap λa=>il.ids (b_ X a))with
  |M=>bif im M.length m.length then m else lR X d M
def ja:List Nat->Nat->Nat->Option Nat
 | [],_,_=>zz
 |x::r,a,i=>bif im x a then U i else ja r a (i+1)
def v_(a n:Nat):List Nat:=(List.range n).map (λb=>bif im b a then n else b)++[a]
def yL(a:Nat)(s:lu):lu:=match v_ a s.heap.length with
 |m=>⟨s.env.map λp=>(p.1,p.2.jm λb=>ja m b 0),m.map λb=>(b_ s.heap b).map (il.jm λb=>ja m b 0)⟩
def iQ:List (Nat×Option Nat×Bool)->lu->lu
 | [],s=>s
 | (t,zz,w)::r,s=>bif js 999999 t then iQ r (yL (Nat.sub t 1000000) s)else match w,lW s.env t with
   |false,.e c=>bif js 0 c.width then iQ r ⟨(t,.ref s.heap.length)::s.env,s.heap++[U (.sq c [])]⟩else iQ r s
   |true,.e c=>match yH c with
    |some (A,c)=>bif js 0 c.width then iQ r ⟨(t,.ref s.heap.length)::s.env,s.heap++[U (.fm (.rw A zZ) c 0 zz [])]⟩else iQ r s
    |none=>iQ r s
   |_,.pre a n=>match b_ s.heap a with
    |some (.sq c l)=>iQ r ⟨(t,.ref s.heap.length)::s.env,hU s.heap a zz++[U (.sq c (l.take n.toNat))]⟩
    |_=>iQ r s
   |_,_=>iQ r s
 | (t,U j,w)::r,s=>match lW s.env t with
   | .ptr a _ _=>match b_ s.heap a with
     |some (.st cs)=>match w,cs[j]? with
      |false,U (.e c)=>bif js 0 c.width then iQ r ⟨s.env,hU s.heap a (U (.st (cs.set j (.ref s.heap.length))))++[U (.sq c [])]⟩else iQ r s
      |true,U (.e c)=>match yH c with
       |some (A,c)=>bif js 0 c.width then iQ r ⟨s.env,hU s.heap a (U (.st (cs.set j (.ref s.heap.length))))++[U (.fm (.rw A zZ) c 0 zz [])]⟩else iQ r s
       |none=>iQ r s
      |false,U (.v (.slice zz 0 0))=>iQ r ⟨s.env,hU s.heap a (U (.st (cs.set j (.ref s.heap.length))))++[U (.sb (a_ #[]))]⟩
      |_,U (.pre b n)=>match b_ s.heap b with
       |some (.sq c l)=>iQ r ⟨s.env,hU (hU s.heap b zz++[U (.sq c (l.take n.toNat))]) a (U (.st (cs.set j (.ref s.heap.length))))⟩
       |_=>iQ r s
      |_,_=>iQ r s
     |_=>iQ r s
   | .ref a=>match w,b_ s.heap a with
     |true,U (.fm (.rw A zZ) c v h l)=>iQ r ⟨s.env,hU s.heap a (U (.fm (.rw A zj) c v h l))⟩
     |_,_=>iQ r (yL a s)
   |_=>iQ r s
mutual
def TV.nrm:TV->TV
 | .e c=>.l c []
 | .ag y=>.ag (TV.ss y)
 | .tp y=>.tp (TV.ss y)
 | .clo g y=>.clo g (TV.ss y)
 |a=>a
def TV.ss:List TV->List TV
 | []=>[]
 |a::y=>a.nrm::TV.ss y
end
def il.nrm:il->il
 | .st cs=>.st (TV.ss cs)
 |o=>o
def nz(X:hZ):hZ:=X.map λo=>o.map il.nrm
def wa(k:Nat)(ts:List Nat)(s:lu):List TV×hZ:=
 match ts.map (λt=>(lW s.env t).nrm),nz s.heap with
 |vs,X=>match lR X 5 (kX X (List.range (min k X.length)) (TV.jD vs))with
  |m=>(TV.my (λa=>ja m a 0) vs,m.map λa=>(b_ X a).map (il.jm λa=>ja m a 0))
def po(X:hZ)(F:List Nat):TV->TV
 | .ref a=>bif F.any (im a)then match b_ X a with
   |some (.sq c l)=>.l c l
   |some (.fm (.rw A nn) c _ zz l)=>.l (sn c (Hd.rw A nn).A) l
   |some (.sb s)=>.l U8 (od s)
   |_=>.ref a
   else .ref a
 | .pre a n=>bif F.any (im a)then match b_ X a with
   |some (.sq c l)=>.l c (l.take n.toNat)
   |some (.fm (.rw A nn) c _ zz l)=>.l (sn c (Hd.rw A nn).A) (l.take n.toNat)
   |_=>.u
   else match b_ X a with|some _=>.pre a n|none=>.u
 |a=>a
mutual
def kY(X:hZ)(F:List Nat):TV->TV
 | .ag l=>.ag (Cc X F l)
 | .tp l=>.tp (Cc X F l)
 | .clo g l=>.clo g (Cc X F l)
 | .sub _ _ _=>.u
 | .nq _ _ _ _ _=>.u
 | .rp _=>.u
 | .lt _=>.u
 |a=>po X F a
def Cc(X:hZ)(F:List Nat):List TV->List TV
 | []=>[]
 |a::r=>kY X F a::Cc X F r
end
def rh(X:hZ)(F:List Nat):Option il->Option il
 |some (.st cs)=>U (.st (Cc X F cs))
 |o=>o
def Az(X:hZ):List Nat->hZ
 | []=>X
 |a::r=>hU (Az X r) a zz
def AA(X:hZ)(a:Nat):Bool:=
 match b_ X a with
 |some (.sq _ _)=>zZ
 |some (.fm (.rw _ _) _ _ zz _)=>zZ
 |some (.sb _)=>zZ
 |_=>zj
def XY(X:hZ):TV->List Nat
 | .ptr a _ _=>match b_ X a with
   |some (.st cs)=>(TV.jD cs).filter (AA X)
   |_=>[]
 |a=>a.ids.filter (AA X)
def OM(s:lu)(t:Nat):List Nat:=
 bif js t 1000000 then XY s.heap (lW s.env t)else
 match lW s.env (Nat.mod t 1000000)with
 | .ptr a _ _=>match b_ s.heap a with
   |some (.st cs)=>match cs[Nat.sub (Nat.div t 1000000) 1]? with
    |some c=>c.ids.filter (AA s.heap)
    |none=>[]
   |_=>[]
 |_=>[]
def Cd(ts:List Nat)(s:lu):lu:=
 match ts.flatMap (OM s)with
 |F=>⟨s.env.map λp=>(p.1,kY s.heap F p.2),Az (s.heap.map (rh s.heap F)) F⟩
def GO(X:hZ):Bool:=X.all λo=>match o with|some (.fm _ _ _ (U _) _)=>zj|_=>zZ
class Eqb(β:Type)where
 eq:β->β->Bool
 ok: ∀{x y:β},eq x y=zZ->x=y
instance:Eqb Int:=⟨λx y=>decide (x=y),λh=>of_decide_eq_true h⟩
instance:Eqb Bool:=⟨λx y=>decide (x=y),λh=>of_decide_eq_true h⟩
instance:Eqb ByteArray:=⟨λx y=>decide (x=y),λh=>of_decide_eq_true h⟩
instance:Eqb Unit:=⟨λ_ _=>zZ,λ_=>rfl⟩
instance:Eqb Empty:=⟨λ_ _=>zZ,λ{x} _=>nomatch x⟩
instance{A B:Type}[a:Eqb A][b:Eqb B]:Eqb (A×B):=⟨λx y=>a.eq x.1 y.1&&b.eq x.2 y.2,λ{x y} h=>by
 rw[iI]at h;exact Prod.ext (a.ok h.1) (b.ok h.2)⟩
instance{A B:Type}[a:Eqb A][b:Eqb B]:Eqb (A⊕B):=⟨λx y=>match x,y with| .inl x,.inl y=>a.eq x y| .inr x,.inr y=>b.eq x y|_,_=>zj,λ{x y} h=>by
 cases x<;>cases y<;>first|exact congrArg _ (a.ok h)|exact congrArg _ (b.ok h)|cases h⟩
def yM{A:Type}(a:Eqb A):List A->List A->Bool
 | [],[]=>zZ
 |x::r,y::s=>a.eq x y&&yM a r s
 |_,_=>zj
theorem XZ{A:Type}(a:Eqb A): ∀{x y:List A},yM a x y=zZ->x=y
 | [],[],_=>rfl
 |x::r,y::s,h=>by
  simp only[yM,iI]at h;rw[a.ok h.1,XZ a h.2]
 | [],_::_,h|_::_,[],h=>by cases h
instance{A:Type}[a:Eqb A]:Eqb (List A):=⟨yM a,XZ a⟩
@[reducible] def eqP{A B:Type}(a:Eqb A)(b:Eqb B):(r:Cs)->Eqb (qB A B r)
 | .nil=>a
 | .cons _ _=>instEqbProd (a:=a) (b:=b)
mutual
@[reducible] def ON:(t:Ty)->Eqb t.den
 | .i _=>(inferInstance:Eqb Int)
 | .b=>(inferInstance:Eqb Bool)
 | .s=>(inferInstance:Eqb ByteArray)
 | .l c=>instEqbList (a:=yN c)
@[reducible] def yN:(c:Cs)->Eqb c.den
 | .nil=>(inferInstance:Eqb Unit)
 | .cons t r=>eqP (ON t) (yN r) r
end
instance(c:Cs):Eqb c.den:=yN c
def xU{β:Type}[e:Eqb β]:Option β->Option β->Option β
 |some x,U y=>bif e.eq x y then U x else zz
 |_,_=>zz
theorem YsP{β:Type}[e:Eqb β]{a b:Option β}{r:β}(h:xU a b=U r):a=U r/\b=U r:=by
 cases a with
 |none=>cases h
 |some x=>
  cases b with
  |none=>cases h
  |some y=>
   simp only[xU]at h;cases q:e.eq x y with
   |false=>rw[q]at h;cases h
   |true=>
    rw[q]at h;injection h with h;subst h
    exact⟨rfl,by rw[e.ok q]⟩
def Ce{α β:Type}[Eqb β](f:α->Option β):List α->Option β
 | []=>zz
 | [a]=>f a
 |a::b::r=>xU (f a) (Ce f (b::r))
theorem X0{α β:Type}[Eqb β]{f:α->Option β}{r:β}: ∀{l:List α},Ce f l=U r-> ∀a∈l,f a=U r
 | [],h,_,_=>by cases h
 | [a],h,b,d=>by
   have:b=a:=by simpa using d
   subst this;exact h
 |a::b::l,h,c,H=>by
  obtain⟨h1,h2⟩:=YsP h;rcases mT.1 H with rfl|H
  .exact h1
  .exact X0 h2 c H
structure jL where
 ex:Ex
 g:Sg
def GP(A B:Type):List jL->Type
 | []=>A
 |_::_=>A⊕B
def Alt:List jL->Type
 | []=>Empty
 |o::r=>GP o.g.c.den (Alt r) r
@[reducible] def YCs{A B:Type}(a:Eqb A)(b:Eqb B):(r:List jL)->Eqb (GP A B r)
 | []=>a
 |_::_=>instEqbSum (a:=a) (b:=b)
@[reducible] def X1:(os:List jL)->Eqb (Alt os)
 | []=>(inferInstance:Eqb Empty)
 |o::r=>YCs (yN o.g.c) (X1 r) r
instance(os:List jL):Eqb (Alt os):=X1 os
def tu{d:Type}:(os:List jL)->Alt os->((o:jL)->o.g.c.den->d)->d
 | [o],y,K=>K o y
 |o::o'::r,y,K=>match y with
  | .inl x=>K o x
  | .inr z=>tu (o'::r) z K
def GQ:(os:List jL)->Nat->((o:jL)->Option o.g.c.den)->Option (Alt os)
 | [],_,_=>zz
 | [o],0,f=>f o
 |o::_::_,0,f=>match f o with|some x=>U (.inl x)|none=>zz
 | [_],_+1,_=>zz
 |_::o'::r,n+1,f=>match GQ (o'::r) n f with|some y=>U (.inr y)|none=>zz
structure tx where
 id:Nat
 own:List (Nat×Option Nat×Bool)
 g:Sg
 outs:List jL
 F:g.c.den->Option (Alt outs)
structure hM where
 g:Nat
 pf:Bool
 args:Sg
 res:SV
 os:List SO
 co:Cs
 F:args.c.den->Option co.den
structure iT where
 pf:Nat->Bool
 fs:List hM
 ls:List tx
 kb:Nat:=0
def E3(X:hZ):TV->Option TV
 | .ref a=>match b_ X a with
   |some (.sq c l)=>U (.l c l)
   |some (.sb s)=>U (.l U8 (od s))
   |_=>zz
 | .sub a V i=>match b_ X a with
   |some (.fm hd c ver' zz l)=>bif im V ver' then U (.l c (kG hd c l i))else zz
   |_=>zz
 | .pre a n=>match b_ X a with
   |some (.sq c l)=>U (.l c (l.take n.toNat))
   |_=>zz
 |_=>zz
def E4(X:hZ):List TV->List TV×Bool
 | []=>([],zj)
 |a::r=>match E4 X r with
  | (as,t)=>match E3 X a with
    |some x=>(x::as,zZ)
    |none=>match a with
     | .e c=>(.l c []::as,t)
     |a=>(a::as,t)
def AB(X:hZ):List TV->List TV×Bool
 | []=>([],zj)
 |a::r=>match AB X r with
  | (as,t)=>match E3 X a with
    |some x=>(x::as,zZ)
    |none=>match a with
     | .ag cs=>match E4 X cs with
       | (ds,b)=>(.ag ds::as,b||t)
     | .e c=>(.l c []::as,t)
     |a=>(a::as,t)
def X3:SV->Bool
 | .i _| .b| .s=>zZ
 | .tp l=>l.all λy=>match y with| .i _| .b| .s=>zZ|_=>zj
 |_=>zj
def KL(g:Nat)(svs:List SV):List hM->Option hM
 | []=>zz
 |e::r=>bif im e.g g&&SV.jW svs e.args.vs then U e else KL g svs r
def Cf(d:Nat):List tx->Option tx
 | []=>zz
 |e::r=>bif im e.id d then U e else Cf d r
structure VI where
 dst:Option Nat
 op:qE
 guard:Option (Nat×Bool)
 old:Bool
 nw:Bool
inductive iN where
 |skip
 |qx (ops:List VI)
 |seq (a b:iN)
 |cond (c:iq) (a b:iN)
 |lF (id:Nat) (b:iN)
 |loop (lid:Nat) (b:iN)
 |jn (lid:Nat) (b:iN)
 |exit (id:Nat)
 |bad
 |ret
 |fz (ts:List Nat) (b:iN)
 |fa (ts:List Nat) (b:iN)
 |ow (ws:List (Nat×Option Nat×Bool)) (b:iN)
 |wS (ns:List Nat) (ops:List VI)
 |pb (ls:List (List Nat×List VI))
section
variable{β:Type}
mutual
def wb:TV->Bool
 | .i _ _| .b _| .s _| .l _ _| .ef _=>zZ
 | .ag x=>qh x
 | .tp x=>qh x
 | .clo _ x=>qh x
 |_=>zj
def qh:List TV->Bool
 | []=>zZ
 |a::r=>wb a&&qh r
end
def OO(T:iT)(g:Nat)(args:List TV)(X:hZ)(K:TV->hZ->Option β):Option β:=
 match AB X args with
 | (as,L)=>match TV.qg as with
   |some svs=>match KL g svs T.fs with
    |some e=>bif qh as&& (!L||X3 e.res)then match e.args.read as []with
     |some x=>d' (e.F x) λy=>match kH e.res (kp e.co y)with
      |some (v,[])=>bif wb v then K v X else zz
      |_=>zz
     |none=>zz
     else zz
    |none=>zz
   |none=>zz
def KM(g:Nat)(svs:List SV)(S:List SO):List hM->Option hM
 | []=>zz
 |e::r=>bif im e.g g&& (SV.jW svs e.args.vs&&SO.jW S e.args.os)then U e else KM g svs S r
def GR(g:Nat)(svs:List SV)(S:List SO):List hM->List hM
 | []=>[]
 |e::r=>bif im e.g g&& (SV.jW svs e.args.vs&&SO.jW S e.args.os)then e::(GR g svs S r).filter (λe'=> !(e'.res.eqb e.res&&SO.jW e'.os e.os))else GR g svs S r
def nf{α β:Type}(a:Option α)(k:α->Option β)(d:Option β):Option β:=
 match a with
 |some y=>k y
 |none=>d
def tz{β:Type}(as:List TV)(Xs:hZ)(k:(e:hM)->e.co.den->Option β):List hM->Option β
 | []=>zz
 | [e]=>match e.args.read as Xs with
   |some x=>d' (e.F x) (k e)
   |none=>zz
 |e::r=>match e.args.read as Xs with
  |some x=>nf (e.F x) (k e) (tz as Xs k r)
  |none=>tz as Xs k r
mutual
def yO(X:hZ)(m:List Nat):TV->Bool
 | .ref a| .pre a _| .ptr a _ _| .np a=>(b_ X a).isSome&& !(m.any (im a))
 | .u| .sub _ _ _| .nq _ _ _ _ _| .rp _| .lt _=>zj
 | .ag x=>uQ X m x
 | .tp x=>uQ X m x
 | .clo _ x=>uQ X m x
 |_=>zZ
def uQ(X:hZ)(m:List Nat):List TV->Bool
 | []=>zZ
 |a::r=>yO X m a&&uQ X m r
end
def KN:TV->Bool
 | .u=>zZ
 |_=>zj
def okO:Option il->Bool
 |some (.st cs)=>cs.all λv=> !KN v
 |some (.fm _ _ _ (U _) _)=>zj
 |some _=>zZ
 |none=>zj
def GU(X:hZ)(m:List Nat):hZ->Nat->Bool
 | [],_=>zZ
 |o::r,i=>(m.any (im i)|| (match o with|some (.st cs)=>cs.all λv=>KN v||yO X m v|_=>zZ))&&GU X m r (i+1)
mutual
def pq(X:hZ):TV->Bool
 | .i _ _| .b _| .s _| .l _ _| .u| .e _| .nl| .ef _=>zZ
 | .ref a=>match b_ X a with|some (.sq _ _)=>zZ|some (.sb _)=>zZ|some (.fm (.rw _ _) _ _ _ _)=>zZ|_=>zj
 | .ptr a i _=>im i 0&&match b_ X a with|some (.st _)=>zZ|_=>zj
 | .np a=>match b_ X a with|some (.st _)=>zZ|some (.fm (.mp _ _) _ _ _ _)=>zZ|_=>zj
 | .ag x=>mM X x
 | .tp x=>mM X x
 | .clo _ x=>mM X x
 |_=>zj
def mM(X:hZ):List TV->Bool
 | []=>zZ
 |a::r=>pq X a&&mM X r
end
def oC(X:hZ):hZ->Bool
 | []=>zZ
 |some (.sq c _)::r=>js 0 c.width&&oC X r
 |some (.st cs)::r=>js 0 cs.length&&mM X cs&&oC X r
 |some (.sb _)::r=>oC X r
 |some (.fm hd c _ h _)::r=>(js 0 c.width&& (hd.nn&&Option.isNone h))&&oC X r
 |none::r=>oC X r
def uR{β:Type}:hZ->hZ->Option β->Option β
 | [],_,x=>x
 |some (.sq _ l)::r,U (.sq _ L)::R,x=>e_ (L.length=l.length) (uR r R x)
 |some (.st _)::r,U (.st _)::R,x=>uR r R x
 |some (.sb s)::r,U (.sb S)::R,x=>e_ (S.size=s.size) (uR r R x)
 |some (.fm (.rw _ _) c _ _ l)::r,U (.fm (.rw _ _) c' _ _ L)::R,x=>bif c.eqb c' then e_ (L.length=l.length) (uR r R x)else zz
 |some (.fm (.mp _ _) c _ _ _)::r,U (.fm (.mp _ _) c' _ _ _)::R,x=>bif c.eqb c' then uR r R x else zz
 |_::r,zz::R,x=>uR r R x
 |_,_,_=>zz
def yP:hZ->Bool
 | []=>zZ
 |some (.fm hd _ _ h _)::r=>(hd.nn&&Option.isNone h)&&yP r
 |_::r=>yP r
def sU(m:List Nat)(n:Nat)(i:Nat):Nat:=bif js i m.length then m.getD i 0 else n+(i-m.length)
def X4:Option il->Option il->Option il
 |some (.fm _ _ v _ _),U (.fm hd c _ h l)=>U (.fm hd c (v+1) h l)
 |_,o=>o
def AD(r:Nat->Option Nat):hZ->List Nat->hZ->hZ
 |X,a::m,o::Y=>AD r (hU X a (X4 (b_ X a) (o.map (il.jm r)))) m Y
 |X,_,_=>X
def rM(m:List Nat)(r:Nat->Option Nat)(X Y:hZ):hZ:=AD r X m Y++(Y.drop m.length).map λo=>o.map (il.jm r)
def GV(m:List Nat):hZ->Nat->List Nat
 | [],_=>[]
 |o::r,i=>bif(il.ids o).any (λa=>m.any (im a))then i::GV m r (i+1)else GV m r (i+1)
def qF(X:hZ):Nat->List Nat->List Nat
 |0,m=>m
 |d+1,m=>match kX X m (GV m X 0)with
  |M=>bif im M.length m.length then m else qF X d (lR X 5 M)
def KO(T:iT)(g:Nat)(args:List TV)(X:hZ)(K:TV->hZ->Option β):Option β:=
 match qF X 4 (lR X 5 (kX X [] (TV.jD args)))with
 |m=>match TV.my (λa=>ja m a 0) args,m.map (λa=>(b_ X a).map (il.jm λa=>ja m a 0))with
  |as,Xs=>bif GU X m X 0&&yP Xs then match TV.qg as,ny Xs with
   |some svs,U S=>tz as Xs (λe y=>match kH e.res (kp e.co y)with
      |some (v,r)=>match ll e.os r with
       |some (X2,[])=>bif iS m.length X2.length&& (pq X2 v&&oC X2 X2)then
        uR Xs X2 (K (v.jm λa=>U (sU m X.length a)) (rM m (λa=>U (sU m X.length a)) X X2))
        else zz
       |_=>zz
      |none=>zz) (GR g svs S T.fs)
   |_,_=>zz
   else zz
def okF(X:hZ):Option il->Bool
 |some (.st cs)=>cs.all (yO X [])
 |some (.sq _ _)=>zZ
 |some (.sb _)=>zZ
 |_=>zj
def tA:List TV->hZ->(List TV->hZ->Option β)->Option β
 | [],X,K=>K [] X
 | .sub a V i::r,X,K=>match b_ X a with
   |some (.fm hd c ver' zz l)=>bif im V ver'&&hd.nn then
    (bif js i l.length then tA r (hU X a (U (.fm hd c V (U i) l))++[U (.sq c (kG hd c l i))]) λas X'=>K (.ref X.length::as) X'
    else tA r X λas X'=>K (.e c::as) X')else zz
   |_=>zz
 |a::r,X,K=>tA r X λas X'=>K (a::as) X'
def KP(m:List Nat):Option il->Option il
 |some (.st cs)=>U (.st (TV.my (λa=>bif m.any (im a)then zz else U a) cs))
 |o=>o
def pN(m:List Nat):hZ->Nat->hZ
 | [],_=>[]
 |o::r,i=>(bif m.any (im i)then o else KP m o)::pN m r (i+1)
def OP(T:iT)(g:Nat)(args:List TV)(X:hZ)(K:TV->hZ->Option β):Option β:=
 tA args X λas d=>bif !(List.isEmpty (TV.jD args))|| (qF (pN (lR d 5 (kX d [] (TV.jD as))) d 0) 4 (lR (pN (lR d 5 (kX d [] (TV.jD as))) d 0) 5 (kX (pN (lR d 5 (kX d [] (TV.jD as))) d 0) [] (TV.jD as)))).all (iS X.length)then
  KO T g as (pN (lR d 5 (kX d [] (TV.jD as))) d 0) λv X2=>
  bif(List.range d.length).all (λa=>js a X.length|| !(b_ X2 a).isSome)then K v X2 else zz
  else zz
def GW(T:iT)(g:Nat)(args:List TV)(X:hZ)(K:TV->hZ->Option β):Option β:=
 bif T.pf g then OO T g args X K else KO T g args X K
def Cs.plain:Cs->Bool
 | .nil=>zZ
 | .cons (.l _) _=>zj
 | .cons _ r=>r.plain
def OQ(T:iT)(g:Nat)(args:List TV)(d:Bool)(X:hZ)(K:TV->hZ->Option β):Option β:=
 match AB X args with
 | (as,L)=>match TV.qg as with
   |some svs=>match KM g svs [] T.fs with
    |some e=>bif qh as then match e.args.read as []with
     |some x=>d' (e.F x) λy=>match kH e.res (kp e.co y)with
      |some (.ref 0,l)=>match ll e.os l with
       |some ([U (.sq c z)],[])=>bif js 0 c.width&& (!L||c.plain)then(match d with|true=>K (.l c z) X|false=>K (.ref X.length) (X++[U (.sq c z)]))else zz
       |_=>zz
      |_=>zz
     |none=>zz
     else zz
    |none=>zz
   |none=>zz
def OS(T:iT)(p:qE)(env:jO)(X:hZ)(K:TV->hZ->Option β):Option β:=
 match p with
 | .call g args=>GW T g (args.map (vo env)) X K
 | .dyn x args=>match vo env x with
   | .clo f cs=>GW T f (args.map (vo env)++cs) X K
   |_=>zz
 | .dynP x args=>match vo env x with
   | .clo f cs=>bif T.pf f then GW T f (args.map (vo env)++cs) X K else zz
   |_=>zz
 | .callN g args d=>bif T.pf g then zz else OQ T g (args.map (vo env)) d X K
 | .callF g args=>bif T.pf g then zz else OP T g (args.map (vo env)) X K
 |p=>vG p env X K
def qE.iG:qE->List iq
 | .load _ _ x| .store _ x _| .iad _ x _=>[x]
 | .app _ _ s _=>[s]
 | .appD _ s _=>[s]
 | .apps s _=>[s]
 | .bstr x=>[x]
 | .appb s _=>[s]
 | .appDb s _=>[s]
 | .mget _ _ _ _ _ m _=>[m]
 | .mput _ _ _ _ m _ _=>[m]
 | .mdel _ _ _ m _=>[m]
 | .mlen m=>[m]
 | .mrng m=>[m]
 | .ment _ _ _ _ I=>[I]
 | .mnxt I=>[I]
 | .cpy _ d _=>[d]
 | .call _ args=>args
 | .callN _ args _=>args
 | .callF _ args=>args
 | .dynP x args=>x::args
 |_=>[]
def KQ(s:lu)(t:Nat):List Nat:=
 bif js t 1000000 then(lW s.env t).ids else
 bif iS 2000000000000 t then(match lW s.env (Nat.sub t 2000000000000)with
  | .ptr a _ _=>qF s.heap 4 (lR s.heap 5 (kX s.heap [] (il.ids (b_ s.heap a))))
  |v=>qF s.heap 4 (lR s.heap 5 (kX s.heap [] v.ids)))else
 bif iS 1000000000000 t then qF s.heap 4 (lR s.heap 5 (kX s.heap [] (lW s.env (Nat.sub t 1000000000000)).ids))else
 match lW s.env (Nat.mod t 1000000)with
 | .ptr a _ _=>match b_ s.heap a with
   |some (.st cs)=>match cs[Nat.sub (Nat.div t 1000000) 1]? with
    |some c=>c.ids
    |none=>[]
   |_=>[]
 |_=>[]
abbrev Nw:=Nat×List Nat
def uj(n:Nw)(a:Nat):Bool:=iS n.1 a||n.2.any (im a)
def ri(X:hZ)(n0:Nw):TV->Bool
 | .ref a| .pre a _| .ptr a _ _| .np a=>(b_ X a).isSome&& !uj n0 a
 | .u| .sub _ _ _| .nq _ _ _ _ _| .v _=>zj
 | .ag _=>zj
 |_=>zZ
def wT(X:hZ)(n0:Nw):TV->Bool
 | .ag cs=>cs.all (ri X n0)
 |a=>ri X n0 a
def Cg(X:hZ)(n0:Nw):TV->Bool
 | .clo _ cs=>cs.all (wT X n0)
 |a=>wT X n0 a
def oe(X:hZ)(n0:Nw):TV->Bool
 | .ref a| .ptr a _ _| .np a=>(b_ X a).isSome&&uj n0 a
 | .i _ _| .b _| .s _| .l _ _| .e _=>zZ
 |_=>zj
def E5(X:hZ)(n0:Nw)(env:jO):qE->Bool
 | .app _ _ s _=>oe X n0 (vo env s)
 | .appD _ s _=>oe X n0 (vo env s)
 | .apps s _=>oe X n0 (vo env s)
 | .appb s _=>oe X n0 (vo env s)
 | .appDb s _=>oe X n0 (vo env s)
 | .mput _ _ _ _ m _ _=>oe X n0 (vo env m)
 | .mdel _ _ _ m _=>oe X n0 (vo env m)
 | .cpy _ d _=>oe X n0 (vo env d)
 | .store _ x _=>oe X n0 (vo env x)
 | .call _ args=>(qF X 4 (lR X 5 (kX X [] (TV.jD (args.map (vo env)))))).all (uj n0)&& (List.range n0.1).all λa=>uj n0 a||okO (b_ X a)
 | .callF _ args=>List.isEmpty (TV.jD (args.map (vo env)))&& (List.range n0.1).all λa=>uj n0 a||okF X (b_ X a)
 |_=>zj
def E6:hZ->Nat->List Nat
 | [],_=>[]
 |o::r,i=>bif o.isSome then E6 r (i+1)else i::E6 r (i+1)
def X5(X:hZ)(n0:Nw)(i:VI)(env:jO):Bool:=
 (!i.old||i.op.iG.all λx=>Cg X n0 (vo env x))&& (!i.nw||E5 X n0 env i.op)
def tB(env:jO)(d:Option Nat)(v:TV):jO:=
 match d with
 |some d=>(d,v)::env
 |none=>env
def GX(T:iT)(n0:Nw)(i:VI)(env:jO)(X:hZ)(K:lu->Option β):Option β:=
 bif X5 X n0 i env then OS T i.op env X λv X'=>K ⟨tB env i.dst v,X'⟩else zz
abbrev yQ:TV:=.v (.tuple ⟨[]⟩)
def X6(T:iT)(n0:Nw)(i:VI)(s:lu)(K:lu->Option β):Option β:=
 match i.guard with
 |none=>GX T n0 i s.env s.heap K
 |some (g,w)=>match lW s.env g with
  | .b t=>match w with
    |true=>bif t then GX T n0 i ((g,.b zZ)::s.env) s.heap K else K ⟨tB ((g,.b zj)::s.env) i.dst yQ,s.heap⟩
    |false=>bif t then K ⟨tB ((g,.b zZ)::s.env) i.dst yQ,s.heap⟩else GX T n0 i ((g,.b zj)::s.env) s.heap K
  | .v (.tuple ⟨[]⟩)=>K ⟨tB s.env i.dst yQ,s.heap⟩
  |_=>zz
def rj(T:iT)(n0:Nw):List VI->lu->(lu->Option β)->Option β
 | [],s,K=>K s
 |i::r,s,K=>X6 T n0 i s λS=>rj T n0 r S K
def Ch(s:lu):iq->Bool->lu
 | .t g,b=>⟨(g,.b b)::s.env,s.heap⟩
 | .c _,_=>s
def yR(T:iT)(d:Nat)(s:lu)(K:Ex->lu->Option β):Option β:=
 match Cf d T.ls with
 |some e=>match wa T.kb e.g.ts (iQ e.own s)with
  | (vs,X)=>match e.g.read vs X with
    |some x=>d' (e.F x) λy=>tu e.outs y λo z=>match o.g.fill z with
     |some S=>K o.ex S
     |none=>zz
    |none=>zz
 |none=>zz
def ev[Eqb β](T:iT):iN->lu->(Ex->lu->Option β)->Option β
 | .bad,_,_=>zz
 | .skip,s,K=>K .kM s
 | .qx ops,s,K=>rj T (s.heap.length,[]) ops s λS=>K .kM S
 | .wS N ops,s,K=>rj T (s.heap.length,N.flatMap (KQ s)++E6 s.heap 0) ops s λS=>K .kM S
 | .pb ls,s,K=>Ce (λ(p:List Nat×List VI)=>rj T (s.heap.length,p.1.flatMap (KQ s)++E6 s.heap 0) p.2 s λS=>K .kM S) ls
 | .seq a b,s,K=>ev T a s λe S=>match e with
   | .kM=>ev T b S K
   |e=>K e S
 | .cond c a b,s,K=>match vo s.env c with
   | .b t=>bif t then ev T a (Ch s c zZ) K else ev T b (Ch s c zj) K
   |_=>zz
 | .lF g b,s,K=>ev T b s λe S=>match e with
   | .exit I=>bif im I g then K .kM S else K (.exit I) S
   |e=>K e S
 | .loop d _,s,K=>yR T d s K
 | .jn d _,s,K=>yR T d s K
 | .exit g,s,K=>K (.exit g) s
 | .ret,s,K=>K .ret s
 | .fz ts b,s,K=>bif GO s.heap then ev T b (Cd ts s) K else zz
 | .fa ts b,s,K=>ev T b s λe S=>match e with
   | .kM=>bif GO S.heap then K .kM (Cd ts S)else zz
   |e=>K e S
 | .ow ws b,s,K=>ev T b (iQ ws s) K
end
def tC{S R:Type}(step:S->Option (S⊕R)):Nat->S->Option R
 |0,_=>zz
 |n+1,s=>match step s with
  |some (.inl d)=>tC step n d
  |some (.inr r)=>U r
  |none=>zz
open Classical in
noncomputable def lY{S R:Type}(step:S->Option (S⊕R))(s:S):Option R:=
 if h: ∃n r,tC step n s=U r then U (Classical.choose (Classical.choose_spec h))else zz
def G0:Ex->Ex->Bool
 | .kM,.kM=>zZ
 | .ret,.ret=>zZ
 | .exit a,.exit b=>im a b
 |_,_=>zj
def KR(e:Ex):List jL->Nat->Option Nat
 | [],_=>zz
 |o::r,n=>bif G0 o.ex e then U n else KR e r (n+1)
def wU(k:Nat)(O:List jL)(e:Ex)(s:lu):Option (Alt O):=
 match KR e O 0 with
 |some n=>GQ O n λo=>match wa k o.g.ts s with
  | (vs,X)=>o.g.read vs X
 |none=>zz
def E7(T:iT)(d:List (Nat×Option Nat×Bool))(g:Sg)(O:List jL)(b:iN)(x:g.c.den):Option (g.c.den⊕Alt O):=
 match g.fill x with
 |some s=>ev T b s λe S=>match e with
  | .kM=>match wa T.kb g.ts (iQ d S)with
    | (vs,X)=>match g.read vs X with
      |some h=>U (.inl h)
      |none=>zz
  |e=>match wU T.kb O e S with
   |some y=>U (.inr y)
   |none=>zz
 |none=>zz
def uk(T:iT)(g:Sg)(O:List jL)(b:iN)(x:g.c.den):Option (Alt O):=
 match g.fill x with
 |some s=>ev T b s λe S=>wU T.kb O e S
 |none=>zz
structure kT where
 pf:Bool
 lJ:Nat
 res:List RV
 code:iN
def X7(s:lu):RV->Option TV
 | .t n=>U (lW s.env n)
 | .c n g sz=>KK g sz (lW s.env n) s.heap λv _=>U v
def Ci(s:lu):List RV->Option (List TV)
 | []=>U []
 |r::rs=>match X7 s r,Ci s rs with
  |some v,U vs=>U (v::vs)
  |_,_=>zz
def uS:List TV->TV
 | [v]=>v
 |vs=>.tp vs
mutual
def TV.qv(X:hZ):TV->TV
 | .ref a=>match b_ X a with
   |some (.sq c y)=>.l c y
   |some (.fm (.rw A nn) c _ zz y)=>.l (sn c (Hd.rw A nn).A) y
   |some (.sb y)=>.l U8 (od y)
   |_=>.u
 | .pre a n=>match b_ X a with
   |some (.sq c y)=>.l c (y.take n.toNat)
   |some (.fm (.rw A nn) c _ zz y)=>.l (sn c (Hd.rw A nn).A) (y.take n.toNat)
   |_=>.u
 | .e c=>.l c []
 | .ag y=>.ag (TV.rk X y)
 | .tp y=>.tp (TV.rk X y)
 | .clo g y=>.clo g (TV.rk X y)
 |a=>a
def TV.rk(X:hZ):List TV->List TV
 | []=>[]
 |a::r=>a.qv X::TV.rk X r
end
def KS(d:SV)(c:Cs)(v:TV):Option c.den:=
 match v.sh with
 |some S=>bif S.eqb d then match tt v.lv with| ⟨c',x⟩=>c'.cast c x else zz
 |none=>zz
def Cj(T:iT)(F:kT)(g:Sg)(R:SV)(C:Cs)(x:g.c.den):Option C.den:=
 match g.fill x with
 |some s=>ev T F.code s λe S=>match e with
  | .exit _=>zz
  |_=>match Ci S F.res with
   |some vs=>KS R C ((uS vs).qv S.heap)
   |none=>zz
 |none=>zz
def Ck(k:Nat)(V:TV)(d:hZ):TV×hZ:=
 match V.nrm,nz d with
 |vs,X=>match lR X 5 (kX X (List.range (min k X.length)) vs.ids)with
  |m=>(vs.jm λa=>ja m a 0,m.map λa=>(b_ X a).map (il.jm λa=>ja m a 0))
def KT(d:SV)(os:List SO)(c:Cs)(v:TV)(X:hZ):Option c.den:=
 match v.sh,ny X with
 |some S,U O=>bif S.eqb d&&SO.jW O os then match tt (v.lv++kW X)with| ⟨c',x⟩=>c'.cast c x else zz
 |_,_=>zz
def G1(T:iT)(F:kT)(g:Sg)(R:SV)(os:List SO)(C:Cs)(x:g.c.den):Option C.den:=
 match g.fill x with
 |some s=>ev T F.code s λe S=>match e with
  | .exit _=>zz
  |_=>match Ci S F.res with
   |some vs=>match Ck T.kb (uS vs) S.heap with
    | (v,X)=>KT R os C v X
   |none=>zz
 |none=>zz
end Go.Abs
namespace Go.Abs
open Go Go.RowKit
inductive Pos where
 |m (a:Nat)
 |n (a i:Nat)
 deriving DecidableEq
abbrev Pl:=Pos->Option Nat
def lK:il->Nat
 | .sq _ l=>l.length
 | .fm (.rw _ _) _ _ _ l=>l.length
 | .fm (.mp _ _) _ _ _ _=>1
 | .st _=>1
 | .sb s=>s.size
def G2(X:hZ)(a V:Nat):Prop:= ∀o,b_ X a=U o-> ∃hd c ver' h l,o= .fm hd c ver' h l/\ (V<ver'\/(V=ver'/\h≠zz))
def pt:il->Bool
 | .fm _ _ _ _ _=>zZ
 |_=>zj
inductive TR(X:hZ)(pl:Pl):TV->AV->Prop
 |i (k:IntKind) (n:Int):TR X pl (.i k n) (.v (.int k n))
 |b (x:Bool):TR X pl (.b x) (.v (.bool x))
 |s (x:ByteArray):TR X pl (.s x) (.v (.string x))
 |l (c:Cs) (v:List c.den) (a:AV) (h:Coe a (.rd c.width (v.map c.enc))):TR X pl (.l c v) a
 |e (c:Cs):TR X pl (.e c) .emp
 |u (a:AV):TR X pl .u a
 |v (x:Value):TR X pl (.v x) (.v x)
 |nl:TR X pl .nl (.v (.pointer zz))
 |uT:TR X pl (.ef zZ) .er
 |mK:TR X pl (.ef zj) (.v .nilIface)
 |ref (a x:Nat) (o:il) (n:Nat) (h:b_ X a=U o) (hn:iz o=U n) (hp:pl (.m a)=U x):TR X pl (.ref a) (.ref x 0 n)
 |nA (a:Nat) (av:AV) (h:b_ X a=zz) (ha:a<X.length):TR X pl (.ref a) av
 |pre (a x:Nat) (m:Int) (o:il) (n:Nat) (h:b_ X a=U o) (hn:iz o=U n) (hp:pl (.m a)=U x) (h0:0<=m) (hm:m.toNat<=n):TR X pl (.pre a m) (.ref x 0 m.toNat)
 |og (a x:Nat) (m:Int) (h:b_ X a=zz) (ha:a<X.length) (h0:0<=m):TR X pl (.pre a m) (.ref x 0 m.toNat)
 |sub (a lV i y:Nat) (hd:Hd) (c:Cs) (l:List (sn c hd.A).den) (h:b_ X a=U (.fm hd c lV zz l)) (hi:i<l.length) (hp:pl (.n a i)=U y):TR X pl (.sub a lV i) (.ref y 0 (kG hd c l i).length)
 |tD (a lV i:Nat) (hd:Hd) (c:Cs) (l:List (sn c hd.A).den) (h:b_ X a=U (.fm hd c lV zz l)) (hp:pl (.n a i)=zz) (h0:kG hd c l i=[]):TR X pl (.sub a lV i) .emp
 |su (a lV i:Nat) (av:AV) (h:G2 X a lV) (ha:a<X.length):TR X pl (.sub a lV i) av
 |ptr (a i j x:Nat) (o:il) (h:b_ X a=U o) (hi:i<lK o) (hp:pl (.m a)=U x):TR X pl (.ptr a i j) (.ptr x i j)
 |nM (a i j:Nat) (av:AV) (h:b_ X a=zz) (ha:a<X.length):TR X pl (.ptr a i j) av
 |nq (a lV i k j y:Nat) (hd:Hd) (c:Cs) (l:List (sn c hd.A).den) (h:b_ X a=U (.fm hd c lV zz l)) (hi:i<l.length) (hk:k< (kG hd c l i).length) (hp:pl (.n a i)=U y):TR X pl (.nq a lV i k j) (.ptr y k j)
 |tE (a lV i k j:Nat) (av:AV) (h:G2 X a lV) (ha:a<X.length):TR X pl (.nq a lV i k j) av
 |np (a x:Nat) (o:il) (h:b_ X a=U o) (hp:pl (.m a)=U x):TR X pl (.np a) (.np x)
 |wc (a:Nat) (av:AV) (h:b_ X a=zz) (ha:a<X.length):TR X pl (.np a) av
 |rp (cs:List TV) (as:List AV) (hl:cs.length=as.length) (h: ∀(j:Nat) (c:TV) (a:AV),cs[j]?=U c->as[j]?=U a->TR X pl c a):TR X pl (.rp cs) (.rp as)
 |lt (es:Nat) (cs:List (List TV)) (as:List (List AV)) (hl:cs.length=as.length) (h0:cs≠ []) (hz: ∀e∈cs,e.length=es) (hz': ∀e∈as,e.length=es)
  (h: ∀(i j:Nat) (e:List TV) (f:List AV) (c:TV) (a:AV),cs[i]?=U e->as[i]?=U f->e[j]?=U c->f[j]?=U a->TR X pl c a):TR X pl (.lt cs) (.rd es as)
 |ag (cs:List TV) (as:List AV) (hl:cs.length=as.length) (h: ∀(j:Nat) (c:TV) (a:AV),cs[j]?=U c->as[j]?=U a->TR X pl c a):TR X pl (.ag cs) (.agg as)
 |tp (cs:List TV) (as:List AV) (hl:cs.length=as.length) (h: ∀(j:Nat) (c:TV) (a:AV),cs[j]?=U c->as[j]?=U a->TR X pl c a):TR X pl (.tp cs) (.iZ as)
 |clo (g:Nat) (cs:List TV) (as:List AV) (hl:cs.length=as.length) (h: ∀(j:Nat) (c:TV) (a:AV),cs[j]?=U c->as[j]?=U a->TR X pl c a):TR X pl (.clo g cs) (.clo g as)
theorem TR.ef{X:hZ}{pl:Pl}(x:Bool):TR X pl (.ef x) (KE x):=by
 cases x
 .exact .mK
 .exact .uT
def CC(e e':List AV):Prop:=e.length=e'.length/\ ∀(j:Nat) (x X:AV),e[j]?=U x->e'[j]?=U X->Coe x X
def Rows(el:List (List AV))(c:Cs)(l:List c.den):Prop:=
 el.length=l.length/\ ∀(i:Nat) (e:List AV) (v:c.den),el[i]?=U e->l[i]?=U v->CC e (c.enc v)
def CT(X:hZ)(pl:Pl)(cs:List TV)(as:List AV):Prop:=
 cs.length=as.length/\ ∀(j:Nat) (c:TV) (a:AV),cs[j]?=U c->as[j]?=U a->TR X pl c a
def Hd.obj:Hd->List (List AV)->iu
 | .rw A _,el=>⟨A.width+1,el⟩
 | .mp _ n,el=>⟨3,[[.v (.int .i64 n),.rd 3 el,.v (.bool zj)]]⟩
def wV(pl:Pl)(H:ic)(a:Nat)(hd:Hd)(c:Cs)(h:Option Nat)(i:Nat)(e:List AV)(v:(sn c hd.A).den):Prop:=
 ∃d r,e=d++[r]/\CC d (hd.A.enc (da c hd.A v))/\ (h≠U i->
  (∃y el',pl (.n a i)=U y/\r= .ref y 0 (ow c hd.A v).length/\H[y]?=U (U ⟨c.width,el'⟩)/\Rows el' c (ow c hd.A v))\/
  (hd.nn=zj/\pl (.n a i)=zz/\ow c hd.A v=[]/\r= .emp))
def OR(X:hZ)(pl:Pl)(H:ic)(a:Nat):il->Prop
 | .sq c l=> ∃x el,pl (.m a)=U x/\H[x]?=U (U ⟨c.width,el⟩)/\0<c.width/\Rows el c l
 | .fm hd c _ h l=> ∃x el,pl (.m a)=U x/\H[x]?=U (U (hd.obj el))/\0<c.width/\el.length=l.length/\
   (∀(i:Nat) (e:List AV) (v:(sn c hd.A).den),el[i]?=U e->l[i]?=U v->wV pl H a hd c h i e v)
 | .st cs=> ∃x e,pl (.m a)=U x/\H[x]?=U (U ⟨cs.length,[e]⟩)/\0<cs.length/\CT X pl cs e
 | .sb s=> ∃x,pl (.m a)=U x/\H[x]?=U (U ⟨0,iM s⟩)
def Live(X:hZ):Pos->Prop
 | .m a=> ∃o,b_ X a=U o
 | .n a i=> ∃hd c V h l,b_ X a=U (.fm hd c V h l)/\i<l.length/\h≠U i
structure ib(Fr:Nat->Prop)(H0:ic)(X:hZ)(pl:Pl)(H:ic):Prop where
 obj: ∀a o,b_ X a=U o->OR X pl H a o
 inj: ∀p q x,pl p=U x->pl q=U x->p=q
 own: ∀p x,pl p=U x->Live X p
 fr: ∀x,Fr x->x<H0.length/\H[x]?=H0[x]?
 nU: ∀p x,pl p=U x-> ¬Fr x
 le:H0.length<=H.length
structure Ext(X:hZ)(pl:Pl)(X':hZ)(X8:Pl):Prop where
 le:X.length<=X'.length
 keep: ∀a,a<X.length->b_ X' a=zz\/ ∃o o',b_ X a=U o/\b_ X' a=U o'/\lK o'=lK o/\iz o'=iz o/\X8 (.m a)=pl (.m a)/\pt o'=pt o/\
  ∀hd c lV hole l,o'= .fm hd c lV hole l-> ∃E8 Cm AE l0,o= .fm E8 c Cm AE l0/\ (Cm<lV\/(Cm=lV/\ (hole=zz->AE=zz/\l.length=l0.length/\ ∀i,(kG hd c l i).length=(kG E8 c l0 i).length/\X8 (.n a i)=pl (.n a i))))
theorem ki: ∀{X:hZ} {a:Nat} {o:il},b_ X a=U o->a<X.length
 | [],_,_,h=>by trivial
 |_::_,0,_,_=>by simp
 |_::r,a+1,o,h=>by simp only[b_]at h;have:=ki h;simp_all
theorem Ext.sub{X:hZ}{pl:Pl}{X':hZ}{p:Pl}(A:Ext X pl X' p){a V:Nat}{hd:Hd}{c:Cs}{l:List (sn c hd.A).den}(h:b_ X a=U (.fm hd c V zz l)):
  G2 X' a V\/ ∃hd' l',b_ X' a=U (.fm hd' c V zz l')/\l'.length=l.length/\ ∀i,(kG hd' c l' i).length=(kG hd c l i).length/\p (.n a i)=pl (.n a i):=by
 rcases A.keep a (ki h)with D| ⟨O,o',h1,h2,F,G,I,g,B⟩
 .exact .inl (λo d=>by simp_all)
 .rw[h]at h1;injection h1 with h1;subst h1
  cases o' with
  |sq c' l'=>cases g
  |st cs=>cases g
  |sb s=>cases g
  |fm hd' c' ver' H l'=>
   obtain⟨C,z,k,L,w,E⟩:=B hd' c' ver' H l' rfl;injection w with e0 w e5 e6 y
   subst e0;subst w;subst e5;subst e6;have y:=eq_of_heq y;subst y;rcases E with E| ⟨rfl,E⟩
   .exact .inl (λo d=>by rw[h2]at d;injection d with d;subst d;exact⟨_,_,_,_,_,rfl,.inl E⟩)
   .cases H with
    |none=>exact .inr ⟨hd',l',h2,(E rfl).2.1,(E rfl).2.2⟩
    |some q=>exact .inl (λo d=>by rw[h2]at d;injection d with d;subst d;exact⟨_,_,_,_,_,rfl,.inr ⟨rfl,by simp⟩⟩)
theorem Ext.dead{X:hZ}{pl:Pl}{X':hZ}{p:Pl}(A:Ext X pl X' p){a V:Nat}(B:a<X.length)(h:G2 X a V):G2 X' a V:=by
 intro o g;rcases A.keep a B with F| ⟨O,o',h1,h2,G,I,J,k,C⟩
 .simp_all
 .rw[h2]at g;injection g with g;subst g
  obtain⟨hd,c,ver',y,l,rfl,hd⟩:=h O h1;cases o' with
  |sq c' l'=>cases k
  |st cs=>cases k
  |sb s=>cases k
  |fm hd' c' d H l'=>
   obtain⟨D,z,q,L,w,E⟩:=C hd' c' d H l' rfl;injection w with e0 w e5 e6 e4
   subst e0;subst w;subst e5;subst e6;refine⟨_,_,_,_,_,rfl,?_⟩;rcases E with E| ⟨rfl,E⟩
   .omega
   .rcases hd with hd| ⟨rfl,hd⟩
    .exact .inl hd
    .refine .inr ⟨rfl,λe=>hd (E e).1⟩
theorem TR.ext{X:hZ}{pl:Pl}{X':hZ}{P:Pl}(H:Ext X pl X' P){v:TV}{a:AV}(h:TR X pl v a):TR X' P v a:=by
 induction h with
 |i k n=>exact .i k n
 |b x=>exact .b x
 |s x=>exact .s x
 |l c v a h=>exact .l c v a h
 |e c=>exact .e c
 |u a=>exact .u a
 |v x=>exact .v x
 |nl=>exact .nl
 |uT=>exact .uT
 |mK=>exact .mK
 |ref a x o n h E q=>
  rcases H.keep a (ki h)with p| ⟨O,o',h1,h2,w,C,B,_,_⟩
  .exact .nA _ _ p (mS (ki h) H.le)
  .rw[h]at h1;injection h1 with h1;subst h1
   exact .ref a x o' n h2 (C.trans E) (B.trans q)
 |nA a D h d=>
  rcases H.keep a d with p| ⟨O,o',h1,_⟩
  .exact .nA _ _ p (mS d H.le)
  simp_all
 |pre a x m o n h E q h0 J=>
  rcases H.keep a (ki h)with p| ⟨O,o',h1,h2,w,C,B,_,_⟩
  .exact .og _ _ _ p (mS (ki h) H.le) h0
  .rw[h]at h1;injection h1 with h1;subst h1
   exact .pre a x m o' n h2 (C.trans E) (B.trans q) h0 J
 |og a x m h d h0=>
  rcases H.keep a d with p| ⟨O,o',h1,_⟩
  .exact .og _ _ _ p (mS d H.le) h0
  simp_all
 |sub a V i y hd c l h G q=>
  have z:=mS (ki h) H.le;rcases H.sub h with hd| ⟨hd',l',h1,h2,w⟩
  .exact .su _ _ _ _ hd z
  .rw[<-(w i).1];exact .sub a V i y hd' c l' h1 (by omega) ((w i).2.trans q)
 |tD a V i hd c l h q h0=>
  have z:=mS (ki h) H.le;rcases H.sub h with hd| ⟨hd',l',h1,h2,w⟩
  .exact .su _ _ _ _ hd z
  .refine .tD a V i hd' c l' h1 ((w i).2.trans q) (mC.1 ?_);rw[(w i).1,h0];rfl
 |su a V i D h d=>exact .su _ _ _ _ (H.dead d h) (mS d H.le)
 |ptr a i j x o h G q=>
  rcases H.keep a (ki h)with p| ⟨O,o',h1,h2,w,C,B,_,_⟩
  .exact .nM _ _ _ _ p (mS (ki h) H.le)
  .rw[h]at h1;injection h1 with h1;subst h1
   exact .ptr a i j x o' h2 (by omega) (B.trans q)
 |nM a i j D h d=>
  rcases H.keep a d with p| ⟨O,o',h1,_⟩
  .exact .nM _ _ _ _ p (mS d H.le)
  simp_all
 |nq a V i k j y hd c l h G L q=>
  have z:=mS (ki h) H.le;rcases H.sub h with hd| ⟨hd',l',h1,h2,w⟩
  .exact .tE _ _ _ _ _ _ hd z
  .exact .nq a V i k j y hd' c l' h1 (by omega) (by have:=(w i).1;omega) ((w i).2.trans q)
 |tE a V i k j D h d=>exact .tE _ _ _ _ _ _ (H.dead d h) (mS d H.le)
 |np a x o h q=>
  rcases H.keep a (ki h)with p| ⟨O,o',h1,h2,w,C,B,_,_⟩
  .exact .wc _ _ p (mS (ki h) H.le)
  .exact .np a x o' h2 (B.trans q)
 |wc a D h d=>
  rcases H.keep a d with p| ⟨O,o',h1,_⟩
  .exact .wc _ _ p (mS d H.le)
  simp_all
 |rp cs as A h I=>exact .rp cs as A I
 |lt es cs as A h0 K F h I=>exact .lt es cs as A h0 K F I
 |ag cs as A h I=>exact .ag cs as A I
 |tp cs as A h I=>exact .tp cs as A I
 |clo g cs as A h I=>exact .clo g cs as A I
theorem CT.ext{X:hZ}{pl:Pl}{X':hZ}{p:Pl}(H:Ext X pl X' p){cs:List TV}{as:List AV}(h:CT X pl cs as):CT X' p cs as:=
 ⟨h.1,λj c a h1 h2=>(h.2 j c a h1 h2).ext H⟩
theorem Ext.refl(X:hZ)(pl:Pl):Ext X pl X pl:=by
 refine⟨jG _,λa _=> ?_⟩;cases h:b_ X a with
 |none=>simp
 |some o=>grind
theorem Ext.trans{A:hZ}{p:Pl}{B:hZ}{q:Pl}{C:hZ}{r:Pl}(h:Ext A p B q)(k:Ext B q C r):Ext A p C r:=by
 refine⟨nu h.le k.le,λa w=> ?_⟩;rcases k.keep a (mS w h.le)with k'| ⟨o2,O,K,z,D,I,J,L,M⟩
 .simp_all
 .rcases h.keep a w with h'| ⟨N,P,h1,h2,Q,R,S,T,W⟩
  .simp_all
  .rw[K]at h2;injection h2 with h2;subst h2
   refine .inr ⟨N,O,h1,z,D.trans Q,I.trans R,J.trans S,L.trans T,λhd c V H l e=> ?_⟩;obtain⟨d,X,Y,Z,e1,E⟩:=M hd c V H l e;obtain⟨g,v1,q1,l1,f1,F⟩:=W d c X Y Z e1;refine⟨g,v1,q1,l1,f1,?_⟩;rcases E with E| ⟨rfl,E⟩<;>rcases F with F| ⟨rfl,F⟩
   .exact .inl (by omega)
   .exact .inl E
   .exact .inl F
   .refine .inr ⟨rfl,λhn=> ?_⟩;obtain⟨g1,g2,G⟩:=E hn;obtain⟨g4,g5,y⟩:=F g1;exact⟨g4,g2.trans g5,λi=>⟨(G i).1.trans (y i).1,(G i).2.trans (y i).2⟩⟩
end Go.Abs
