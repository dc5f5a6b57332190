/- Loops over maps, with what stands behind them: whatever the order of the entries. No condition. -/
import Derived.Test.YtanbdececkgkhaaGreatDoorA3
import Derived.Shelf.Spec.SlicesGrow
import Derived.Laws.AppendOwn
import Derived.Shelf.Strings.Builder1
import Derived.Shelf.Small.Strs
import Derived.Shelf.Strings.Repeat
import Derived.Carry
import Derived.WalkKit
import Derived.ProofKit
import Derived.OpenShut
import Derived.Shelf.Sort.Plain
import Derived.Shelf.Strings.OnBuilder
import Derived.JoinedCond
import Derived.LaidMore
import Derived.Shelf.Slices.CompactI
import Derived.Shelf.Strings.Count
import Derived.Shelf.Strconv.Itoa4
import Derived.Lib.AppendIntMem
import Derived.Shelf.Spec.SlicesInsert
import Derived.Lib.AppendZerosOnto
import Derived.Shelf.SlGeneric
import Derived.Shelf.SlicesE.DeleteFunc
import Derived.Shelf.SortG.Plain
import Derived.Shelf.Strings.Split
import Derived.Shelf.Strconv.ParseIntPublic10
import Derived.Shelf.Strconv.ParseUint10b8
set_option linter.unusedVariables false
set_option linter.unusedSimpArgs false
set_option linter.unusedSectionVars false
open Option renaming some → U,none → zz
open Bool renaming true → zZ,false → zj
open List renaming getElem?_eq_some_iff → iP, mem_of_getElem? → jc, getElem?_eq_getElem → je, getElem?_map → jt, map_cons → kn, getElem?_append_left → ld, mem_iff_getElem? → mE, length_eq_zero_iff → mC, mem_map → mH, mem_cons → mT, getElem?_append_right → nF, length_append → nV, getElem?_take → oU, getElem?_set_self → o_, getElem?_range → pO, getElem?_eq_none → qb, mem_cons_self → pM, length_map → pQ, length_singleton → qG, append_assoc → qS, nil_append → qt, ext_getElem? → pT, getElem?_drop → rU, cons_append → rV, length_take → xd, mem_cons_of_mem → wD, getD_eq_getElem?_getD → vW, nodup_range → wW, getElem?_replicate → vN
open Nat renaming beq → im, ble → iS, eq_of_beq_eq_true → jr, blt → js, le_refl → jG, mul_le_mul_right → lD, le_of_ble_eq_true → l9, zero_add → mD, lt_of_lt_of_le → mS, le_trans → nu, add_mul → nY, ble_eq_true_of_le → qi, add_zero → sZ, zero_le → sP
open Option renaming bind → d', map_some → l_, bind_some → pK, getD_some → qu
open Bool renaming and_eq_true → iI, or_eq_true → rG, and_self → uW
open Int renaming toNat_natCast → mN
open Array renaming getD_eq_getD_getElem? → mI, getElem?_eq_some_iff → pV, getElem?_eq_getElem → rH, getElem?_push → yo
namespace Go.Abs
open Go Go.RowKit
abbrev xX:=List Int×List Int×Int×Int×Int
def CB(c:Cs)(l:List (Cs.cons (.i .i64) c).den):List Int:= @List.map (Cs.cons (.i .i64) c).den Int (λx=>kU c x) l
def Lv(it:Nat)(s:lu):Option xX:=
 match lW s.env it with
 | .np i=>match b_ s.heap i with
   |some (.st [.np a,.i .i64 d,.i .i64 g,.l c S,_])=>match m_ c qf S with
    |some S=>match b_ s.heap a with
     |some (.st (.i .i64 n:: .l (.cons (.i .i64) c') l::T))=>bif im T.length 1||im T.length 2 then U (CB c' l,S,n,d,g)else zz
     |some (.fm (.mp o n) c _ _ l)=>U (CB (.cons (mV o) (.cons (.l c) .nil)) l,S,n,d,g)
     |_=>zz
    |none=>zz
   |_=>zz
 |_=>zz
def xe(S:List Int)(b:Int):List Int:=S++[b]
def Px(it N M:Nat)(b:Int)(s:lu):Option lu:=
 match lW s.env it with
 | .np i=>match b_ s.heap i with
   |some (.st [m,d,T,.l c S,tg])=>match m_ c qf S with
    |some S=>U ⟨(M,.b zZ)::(N,.u)::s.env,hU s.heap i (U (.st [m,d,T,.l qf (xe S b),tg]))⟩
    |none=>zz
   |_=>zz
 |_=>zz
def CD(M O:Nat)(B:iN):iN:=.seq (.cond (.t M) .skip (.exit O)) B
def Py(g:Sg)(it:Nat)(x:g.c.den):Option xX:=match g.fill x with|some s=>Lv it s|none=>zz
def Pz(T:iT)(O:List (Nat×Option Nat×Bool))(g:Sg)(it N M d:Nat)(B:iN)(x:g.c.den)(b:Int):Option g.c.den:=
 match g.fill x with
 |some s=>match Px it N M b s with
  |some S=>ev T (CD M d B) S λe h=>match e with
   | .kM=>match wa T.kb g.ts (iQ O h)with| (vs,X)=>g.read vs X
   |_=>zz
  |none=>zz
 |none=>zz
def CF(T:iT)(g:Sg)(N M d:Nat)(B R:iN)(O:List jL)(x:g.c.den):Option (Alt O):=
 match g.fill x with
 |some s=>ev T (CD M d B) ⟨(M,.b zj)::(N,.u)::s.env,s.heap⟩ λe h=>match e with
  | .exit I=>bif im I d then ev T R h (λe S=>wU T.kb O e S)else zz
  |_=>zz
 |none=>zz
def CG(T:iT)(pre:iN)(O:List (Nat×Option Nat×Bool))(G g:Sg)(x:G.c.den):Option g.c.den:=
 match G.fill x with
 |some s=>ev T pre s λe S=>match e with
  | .kM=>match wa T.kb g.ts (iQ O S)with| (vs,X)=>g.read vs X
  |_=>zz
 |none=>zz
section
variable{A R:Type}
inductive tL(p:A->xX)(t:A->Int->Option A)(r:A->Option R)(B:List Int)(c:Int):List Int->A->R->Prop
 |fin {sn:List Int} {x:A} {y:R} (h: ∀b∈B,b∈sn) (hp:p x=(B,sn,c,c,c)) (hr:r x=U y):tL p t r B c sn x y
 |go {sn:List Int} {x:A} {y:R} (f:Int->A) (hp:p x=(B,sn,c,c,c)) (hb: ∃b∈B,b∉sn) (ht: ∀b∈B,b∉sn->t x b=U (f b))
  (hg: ∀b∈B,b∉sn->tL p t r B c (sn++[b]) (f b) y):tL p t r B c sn x y
def Good(p:A->xX)(t:A->Int->Option A)(r:A->Option R)(x:A)(y:R):Prop:= ∃B c,tL p t r B c [] x y
open Classical in
noncomputable def zd(p:A->xX)(t:A->Int->Option A)(r:A->Option R)(x:A):Option R:=
 if h: ∃y,Good p t r x y then U (Classical.choose h)else zz
theorem Yuw{p:A->xX}{t:A->Int->Option A}{r:A->Option R}{x:A}{y:R}(h:zd p t r x=U y):Good p t r x y:=by
 unfold zd at h;split at h
 .grind
 trivial
theorem tL.p{p:A->xX}{t:A->Int->Option A}{r:A->Option R}{B:List Int}{c:Int}{S:List Int}{x:A}{y:R}(h:tL p t r B c S x y):p x=(B,S,c,c,c):=by cases h<;>assumption
end
section
variable{Fr:Nat->Prop}{H0:ic}{T:iT}{C:Ctx}
def Fq(B S:List Int):Nat:=(B.filter λb=> !S.contains b).length
theorem Yux{B S:List Int}{b:Int}(h:b∈B)(d:b∉S):Fq B (S++[b])<Fq B S:=by
 unfold Fq;induction B with
 |nil=>cases h
 |cons a B I=>
  have H: ∀B:List Int,(B.filter λx=> !(S++[b]).contains x).length<=(B.filter λx=> !S.contains x).length:=by
   intro B;induction B with
   |nil=>simp
   |cons c B I=>
    grind
  grind
theorem Yuy{B:List (List AV)}{S:List Int}(h:Rows B qf S):B=S.map λb=>[.v (.int .i64 b)]:=by
 refine pT λi=> ?_;rw[jt];cases d:B[i]? with
 |none=>
  have:S[i]?=none:=by
   rw[List.getElem?_eq_none_iff]at d⊢;have k:B.length=S.length:=h.1;omega
  simp_all
 |some e=>
  have p:=(iP.1 d).1;have k:B.length=S.length:=h.1;have g:S[i]?=U S[i]:=je (by omega);have H:=h.2 i e _ d g;rw[g];have h1:=H.1
  match e,h1 with
  | [z],_=>
    have:=H.2 0 z _ rfl rfl;rw[show z= .v (.int .i64 S[i])from um this];rfl
theorem Yuz{el:List (List AV)}{c:Cs}{l:List (Cs.cons (.i .i64) c).den}(h:Rows el (.cons (.i .i64) c) l):el.map yw=(CB c l).map some:=by
 unfold CB;refine pT λi=> ?_;rw[jt,jt,jt];cases d:el[i]? with
 |none=>
  have:l[i]?=none:=by
   rw[List.getElem?_eq_none_iff]at d⊢;have k:el.length=l.length:=h.1;omega
  simp_all
 |some e=>
  have p:=(iP.1 d).1;have k:el.length=l.length:=h.1;have g:l[i]?=U l[i]:=je (by omega);have H:=h.2 i e _ d g;rw[g];have h1:=H.1
  match e,h1 with
  |z::r,_=>
   have:=H.2 0 z _ rfl rfl;rw[show z= .v (.int .i64 (kU c l[i]))from um this];rfl
theorem YuA(c:Cs)(l:List (Cs.cons (.i .i64) c).den)(i:Nat):(CB c l)[i]?=(l[i]?).map λx=>kU c x:=by exact jt
def CH(X:hZ)(a:Nat)(n:Int)(B:List Int):Prop:=
 (∃c' l T,b_ X a=U (.st (.i .i64 n:: .l (.cons (.i .i64) c') l::T))/\ (T.length=1\/T.length=2)/\B=CB c' l)\/
 ∃o c v h l,b_ X a=U (.fm (.mp o n) c v h l)/\B=CB (.cons (mV o) (.cons (.l c) .nil)) l
theorem YuB{X:hZ}{pl:Pl}{H:ic}{a y:Nat}{n:Int}{B:List Int}(k:ib Fr H0 X pl H)(h:CH X a n B)(p:pl (.m a)=U y): ∃O el T,H[y]?=U (U O)/\ka O=U (n,el,T)/\el.map yw=B.map some:=by
 rcases h with⟨c',l,T,h1,h2,rfl⟩| ⟨o,c,v,h,l,h1,rfl⟩
 .obtain⟨el,A,R,q,w,F,C⟩:=K3 k h1 p h2;exact⟨_,el,_,q,w,Yuz F⟩
 .obtain⟨Y,el,g,G,E,I,D⟩:=k.obj a _ h1;rw[p]at g;injection g with g;subst g
  refine⟨_,el,[.v (.bool zj)],G,rfl,?_⟩;apply pT;intro i;rw[jt,jt];refine Eq.trans ?_ (congrArg (Option.map U) (YuA (.cons (mV o) (.cons (.l c) .nil)) l i).symm);by_cases d:i<l.length
  .obtain⟨r,e,_⟩:=O3 (D i _ l[i] (je (by omega:i<el.length)) (je d));rw[je (by omega:i<el.length),e];exact congrArg (λz=>Option.map U (Option.map (λx:(iE o (.l c) .nil).den=>x.1) z)) (je (l:=(show List (iE o (.l c) .nil).den from l)) d).symm
  .rw[qb (by omega)];exact congrArg (λz=>Option.map U (Option.map (λx:(iE o (.l c) .nil).den=>x.1) z)) (qb (l:=(show List (iE o (.l c) .nil).den from l)) (Nat.le_of_not_lt d)).symm
theorem YuC{X:hZ}{a:Nat}{n:Int}{B:List Int}(h:CH X a n B): ∃o,b_ X a=U o:=by
 rcases h with⟨_,_,_,h,_⟩| ⟨_,_,_,_,_,h,_⟩<;>exact⟨_,h⟩
theorem YuD{it:Nat}{s:lu}{B S:List Int}{n g T:Int}(h:Lv it s=U (B,S,n,g,T)):
  ∃i a tg,lW s.env it= .np i/\b_ s.heap i=U (.st [.np a,.i .i64 g,.i .i64 T,.l qf S,tg])/\CH s.heap a n B:=by
 unfold Lv at h;split at h
 .rename_i i k;split at h
  .rename_i a A C c D tg p;split at h
   .rename_i F q;split at h
    .rename_i n' c' l w H;obtain⟨y,E⟩:=iU h;injection E with E;injection E with e3 E;injection E with e4 E;injection E with e5 E;injection E with e6 e7
     subst e3;subst e4;subst e5;subst e6;subst e7;obtain⟨d,es⟩:=tG q;subst d;subst es;simp at y;exact⟨i,_,_,k,p,.inl ⟨_,_,_,H,y,rfl⟩⟩
    .rename_i o n' c' V z l H;injection h with E;injection E with e3 E;injection E with e4 E;injection E with e5 E;injection E with e6 e7
     subst e3;subst e4;subst e5;subst e6;subst e7;obtain⟨d,es⟩:=tG q;subst d;subst es;exact⟨i,_,_,k,p,.inr ⟨_,_,_,_,_,H,rfl⟩⟩
    trivial
   trivial
  trivial
 trivial
theorem YuE(hT:oE T C)(a6:kZ Fr H0){id it P M k:Nat}{ae A:List (Nat×Option Nat×Bool)}{g0 g:Sg}{D:List jL}{pre bb R:iN}
  (aj:lZ Fr H0 C T pre) (ag:lZ Fr H0 C T (CD M k bb)) (ak:lZ Fr H0 C T R)
  {p:g.c.den->xX} {t:g.c.den->Int->Option g.c.den} {r:g.c.den->Option (Alt D)} {u:g0.c.den->Option g.c.den} {F:g0.c.den->Option (Alt D)}
  (hp: ∀x,Py g it x=U (p x)) (ht: ∀x b,Pz T A g it P M k bb x b=t x b) (hr: ∀x,CF T g P M k bb R D x=r x) (hu: ∀x,CG T pre A g0 g x=u x)
  (hF: ∀x y,F x=U y-> ∃z,u x=U z/\Good p t r z y):
  xW Fr H0 T.kb C (.seq (.seq pre.er (.lF k (.loop (.seq (.qx [⟨U P,.px .mnxt [.t it],zz,zj,zj⟩,⟨U M,.ext (.t P) 0,zz,zj,zj⟩]) (CD M k bb).er)))) R.er) ⟨id,ae,g0,D,F⟩:=by
 intro x0 y al am a5 q b st an;obtain⟨z,hz,B,c,af⟩:=hF x0 y al;rw[<-hu]at hz;unfold CG at hz;have V:g0.fill x0=U am:=a5;rw[V]at hz;simp only at hz;let QF:Ex->jI->Prop:=λex G=> ∃W,tu D y (λo z=>o.ex=ex/\o.g.fill z=U W)/\VS Fr H0 (T.kb,q) b W G;refine yF (yF (sV hT a6 hz aj an (λe W G K g2=> ?_)));cases e with
 |exit a7=>trivial
 |ret=>trivial
 |kM=>
 simp only at K;show Sat C (.lF k _) _ G;cases Y:wa T.kb g.ts (iQ A W)with
 |mk vs X=>
 rw[Y]at K;simp only at K;obtain⟨hb,I,pl,he,L,N⟩:=g2;obtain⟨a8,ao,k1,k2,k3,k4,k8,k9⟩:=uo (ws:=A) hb he L;obtain⟨a9,k5,k6,k7,aa⟩:=He (env:=(iQ A W).env) (X:=(iQ A W).heap) k3 k4 (nu I k8) Y;refine Xw (Xx (λm t=> ∃x Z s,tL p _ r B c Z x y/\m=Fq B Z/\g.fill x=U s/\VS Fr H0 (T.kb,q) b s t)
  ⟨Fq B [],a8,⟨z,[],_,af,rfl,rm K,k2,k7,a9,k5,k6,λi hi w hw=>N i hi w (k9 i (mS hi I) w (aa i hi w hw))⟩,k1⟩ ?_)
 rintro m Q ⟨x,Z,s,ab,rfl,J,ap⟩;have aq:Lv it s=U (B,Z,c,c,c):=by
  have:=hp x;unfold Py at this;rw[J]at this;rw[ab.p]at this;trivial
 obtain⟨i,a,tg,e1,e2,e3⟩:=YuD aq;obtain⟨oa,ah⟩:=YuC e3;obtain⟨hb,I,pl,he,L,N⟩:=ap;have ai:=he it;rw[e1]at ai;obtain⟨yi,f1,f2⟩:=tI e2 ai;obtain⟨e,f3,_,f4⟩:=K0 L e2 f2;obtain⟨a0,r1,rfl,q0,f4⟩:=f4.inv;obtain⟨a1,r2,rfl,q1,f4⟩:=f4.inv;obtain⟨a2,r3,rfl,q2,f4⟩:=f4.inv;obtain⟨a3,r4,rfl,q3,f4⟩:=f4.inv;obtain⟨a4,r5,rfl,q4,f4⟩:=f4.inv;have:r5=[]:=mC.1 f4.1.symm;subst this;obtain⟨ya,rfl,f5⟩:=tI ah q0;cases q1;cases q2;obtain⟨bl,f6,f7⟩:=K2 q3;obtain⟨O,el,az,f8,f9,ar⟩:=YuB L e3 f5;have au:=Yuy f7;refine yF (Yuv (S:=a3) (tg:=a4) f1 f3 rfl f6 au f8 f9 ar (λay=> ?_) (λE ac ad=> ?_))
 ·
  have H:r x=U y:=by
   cases ab with
   |fin _ _ h=>exact h
   |go f _ aA _ _=>grind
  rw[<-hr]at H;unfold CF at H;rw[J]at H;simp only at H;show Sat C (CD M k bb).er _ ⟨(M,.v (.bool zj))::(P,.u)::Q.env,Q.heap,Q.base⟩;refine sV hT a6 H ag (b:=b) (q:=q) (st:=⟨(M,.v (.bool zj))::(P,.u)::Q.env,Q.heap,Q.base⟩) ⟨hb,I,pl,AN (d:=U M) (AN (d:=U P) he (.u _)) (.b zj),L,N⟩ (λe W G K g2=> ?_);cases e with
  |kM=>trivial
  |ret=>trivial
  |exit a7=>
   simp only at K;obtain⟨K,g3⟩:=iU K;show Ex.lF k _ (.exit a7) G;have e0:(a7==k)=true:=by simp_all
   simp only[Ex.lF,e0];show Sat C R.er _ G;exact sV hT a6 g3 ak g2 (λe2 s2 aB g4 g5=>Lr g4 g5)
 ·
  cases ab with
  |fin h _ _=>simp_all
  |go f _ _ av aw=>
   have h1:=av E ac ad;rw[<-ht]at h1;unfold Pz at h1;rw[J]at h1;have ax:Px it P M E s=U ⟨(M,.b zZ)::(P,.u)::s.env,hU s.heap i (U (.st [.np a,.i .i64 c,.i .i64 c,.l qf (xe Z E),tg]))⟩:=by
    unfold Px;simp only[e1,e2];rfl
   simp only[ax]at h1;obtain⟨m1,m2⟩:=E9 (o':=.st [.np a,.i .i64 c,.i .i64 c,.l qf (xe Z E),tg]) L e2 f2 ⟨5,[[.np ya,.v (.int .i64 c),.v (.int .i64 c),.rd 1 (bl++[[.v (.int .i64 E)]]),a4]]⟩ rfl rfl (λ_ _ _ _ _ e=>by cases e) (λ_ _ _ _ _ e=>by cases e)
    (λhx=>⟨yi,_,f2,o_ (iP.1 f3).1,by simp,CT.cons ((TR.np a ya _ ah f5).ext hx) (CT.cons (.i _ _) (CT.cons (.i _ _) (CT.cons
     (show TR _ _ (.l qf (xe Z E)) (.rd 1 (bl++[[.v (.int .i64 E)]]))from AG (c:=qf) (l:=xe Z E) (yW (c:=qf) (l:=Z) (m:=[E]) f7 ⟨rfl,λj e v h1 h2=>by
      match j,h1,h2 with
      |0,h1,h2=>injection h1 with h1;subst h1;have hv:U E=U v:=h2;injection hv with hv;subst hv;exact⟨rfl,λj x x' h1 h2=>by
       match j,h1,h2 with
       |0,h1,h2=>simp[Cs.enc,qf,Ty.enc,kU]at h1 h2;subst h1;subst h2;exact .refl _
       |j+1,h1,h2=>trivial⟩
      |j+1,h1,h2=>trivial⟩)) (CT.cons (q4.ext hx) CT.nil))))⟩)
   show Sat C (CD M k bb).er _ ⟨(M,.v (.bool zZ))::(P,.u)::Q.env,Q.heap.set yi (U ⟨5,[[.np ya,.v (.int .i64 c),.v (.int .i64 c),.rd 1 (bl++[[.v (.int .i64 E)]]),a4]]⟩),Q.base⟩;refine sV hT a6 h1 ag (b:=b) (q:=q) (st:=⟨(M,.v (.bool zZ))::(P,.u)::Q.env,Q.heap.set yi (U ⟨5,[[.np ya,.v (.int .i64 c),.v (.int .i64 c),.rd 1 (bl++[[.v (.int .i64 E)]]),a4]]⟩),Q.base⟩) ⟨hb,by rw[km];omega,pl,AN (d:=U M) (AN (d:=U P) (he.ext m2) (.u _)) (.b zZ),m1,N⟩ (λe W G K g2=> ?_);cases e with
   |exit a7=>trivial
   |ret=>trivial
   |kM=>
    simp only at K;cases Y:wa T.kb g.ts (iQ A W)with
    |mk vs X=>
     rw[Y]at K;simp only at K;obtain⟨hb,I,pl,he,hr,N⟩:=g2;obtain⟨a8,ao,k1,k2,k3,k4,k8,k9⟩:=uo (ws:=A) hb he hr;obtain⟨a9,k5,k6,k7,aa⟩:=He (env:=(iQ A W).env) (X:=(iQ A W).heap) k3 k4 (nu I k8) Y;exact⟨Fq B (Z++[E]),a8,⟨f E,Z++[E],_,aw E ac ad,rfl,rm K,k2,k7,a9,k5,k6,λi hi w hw=>N i hi w (k9 i (mS hi I) w (aa i hi w hw))⟩,Yux ac ad,k1⟩
end
theorem YuF{d A R:Type}{u:d->Option A}{p:A->xX}{t:A->Int->Option A}{r:A->Option R}{x:d}{y:R}(h:d' (u x) (zd p t r)=U y): ∃z,u x=U z/\Good p t r z y:=by
 cases H:u x with
 |none=>simp_all
 |some z=>rw[H]at h;exact⟨z,rfl,Yuw h⟩
def sX(a b:ByteArray):Bool:=decide (a=b)
end Go.Abs
namespace Go.Abs
open Go Go.RowKit Go.Shelf Go.Proofs
structure l5(P:Program)(fm:FM)(ρ:Ren):Prop where
 X:Builder.Extra P ρ
 bt:fm.bt=ρ.t 72
theorem ZE{vals:Array Value}(h:vals.size=1):vals= #[vals.getD 0 undef]:=by
 apply Array.ext
 .simp[h]
 simp_all
theorem ZF{fm:FM}{w:World}{Lc:Nat->Loc}{h:HF}(q:HR fm w Lc h){x:Nat}{b:AV}(y:h x=U (U ⟨2,[[.np x,b]]⟩)){v:Value}(F:VR fm w Lc v (.ptr x 0 0)):
  ∃g p s cur,v= .pointer (U ⟨g,0,zz⟩)/\Lc x= .cells g 2 1/\w.heap[g]?=U (.cells cur fm.bt (0,0))/\cur.size=2/\cur[0]?=U p/\cur[1]?=U s/\ (p= .pointer zz\/p= .pointer (U ⟨g,0,zz⟩))/\s.oneCell'=zZ/\VR fm w Lc s b:=by
 obtain⟨g,es,cap,L,E,rfl⟩:=Kb q y F;have d:=q.obj x _ y;rw[L]at d;obtain⟨h0,h1,h2,N,O,cur,ty,C,G,D⟩:=d;have z:es=2:=h0;subst z;have P:1<=cap:=by trivial
 have A:0<cur.size:=by omega
 have B:1<cur.size:=by omega
 obtain⟨_,K⟩:=D 0 _ 0 _ rfl rfl;obtain⟨I,J⟩:=D 0 _ 1 _ rfl rfl;obtain⟨Q,k,H,M⟩:=(Kc q y K).resolve_right (λh=>h.elim (λ⟨g,e,_⟩=>by grind) (λ⟨g,e,_⟩=>by grind));rw[L]at k;injection k with E e2 e3;subst E;subst e3
 obtain⟨c2,R,H⟩:=H;rw[C]at H;injection H with H;injection H with _ H _
 subst H;exact⟨g,_,_,cur,by simp,L,C,G,BT A,BT B,M,I,J⟩
theorem YuP{P:Program}{fm:FM}{f:FuncId}{ρ:Ren}(L:Lays.n240 P ρ)(B:l5 P fm ρ)(A:ρ.f 240=f){w:World}{Lc:Nat->Loc}{h:HF}(z:HR fm w Lc h){x:Nat}{b:AV}(C:h x=U (U ⟨2,[[.np x,b]]⟩)){vals:Array Value}(D:vals.size=1)(M:VR fm w Lc (vals.getD 0 undef) (.ptr x 0 0)):
  Calls P f vals w λe w'=>e= .returned (.tuple #[])/\iv Lc w w'/\HR fm w' Lc h:=by
 obtain⟨g,p,s,cur,N,E,d,F,O,Q,R,J,S⟩:=ZF z C M;rw[ZE D,N];subst A;have k:w.cell? ⟨g,0,zz⟩=U p:=by rw[Lib.cell_of_heap d];omega
 rcases R with rfl|rfl
 .have G:w.shape? g=U (ρ.t 72,2):=by
   unfold World.shape?;rw[d];simp[F,B.bt]
  refine(Any.Builder_copyCheck_fresh L B.X.toX72 g w k G (Lib.frozen_of_heap d 0)).mono ?_;rintro e w' ⟨rfl,rfl⟩;rw[setCell_eq_setRow w g 0 cur _ _ _ d];have q:=z.obj x _ C;rw[E]at q;obtain⟨h0,h1,h2,W,X,cur',T,Y,Z,h7⟩:=q;obtain⟨V,k2⟩:=EK (cur':=cur.setIfInBounds 0 (.pointer (U ⟨g,0,zz⟩))) (el:=[[.np x,b]]) z C E d (by grind) (by simp) (by simp) (λi e j c y H=>by
   match i,y with
   |0,y=>
    simp at y;subst y
    match j,H with
    |0,H=>
     simp at H;subst H;have I:0<cur.size:=by omega
     simp only[Nat.zero_mul,sZ];have:(cur.setIfInBounds 0 (.pointer (U ⟨g,0,zz⟩))).getD 0 undef= .pointer (U ⟨g,0,zz⟩):=by
      simp[Array.getD,I]
     rw[this];exact⟨rfl,.qT g x _ E ⟨cur,(0,0),d⟩ (.inr rfl)⟩
    |1,H=>
     simp at H;subst H;simp;grind
    |j+2,H=>trivial
   |i+1,y=>trivial)
  refine⟨rfl,V,?_⟩;have:(λK=>if K=x then U (U (⟨2,[[.np x,b]]⟩:iu))else h K)=h:=by
   grind
  grind
 .refine(Any.Builder_copyCheck_used L B.X.toX72 g w k).mono ?_;rintro e w' ⟨rfl,rfl⟩;exact⟨rfl,iv.refl _ _,z⟩
def mj(g:Nat):hM:=⟨g,zj,⟨[0],[.ptr 0 0 0],[.st [.np 0,.ref 1],.sb],.cons .s .nil⟩,.tp [],[.st [.np 0,.ref 1],.sb],.cons .s .nil,λl=>U l⟩
theorem xY{g:Sg}{vs:List TV}{X:hZ}{x:g.c.den}(h:g.read vs X=U x):vs.length=g.vs.length:=by
 unfold Sg.read at h;split at h
 .rename_i svs S k K;obtain⟨E,_⟩:=iU h;simp at E;rw[<-Fo k,SV.jv E.1]
 trivial
theorem YuQ{P:Program}{fm:FM}{f:FuncId}{ρ:Ren}(L:Lays.n240 P ρ)(B:l5 P fm ρ)(A:ρ.f 240=f){Xs:hZ}{pls:Pl}{Kp:Nat->Prop}{H:ic}{args:List AV}{b:TV}
  (C:CT Xs pls [.ptr 0 0 0] args) (g:ib Kp H Xs pls H) (D:kZ Kp H) (h0:b_ Xs 0=U (.st [.np 0,b])) (k:iw Xs (List.range Xs.length)=Xs) (hX:oC Xs Xs=zZ)
  {w:World} {Lc:Nat->Loc} {vals:Array Value} (K:HR fm w Lc (hf H)) (N:vals.size=args.length) (O: ∀j a,args[j]?=U a->VR fm w Lc (vals.getD j undef) a):
  Calls P f vals w λe w'=> ∃v E,e= .returned v/\iv Lc w w'/\hY Lc E w.heap.size/\HR fm w' E (hf (oD Kp H Xs.length Xs (jx pls Xs.length H.length Xs)))/\VR fm w' E v (kE Xs (jx pls Xs.length H.length Xs) (.tp [])):=by
 obtain⟨a0,R,rfl,F,I⟩:=C.inv;have p:R=[]:=mC.1 I.1.symm;subst p;obtain⟨x,rfl,M,_⟩:=AF h0 F;obtain⟨x',e,G,Q,g3,S⟩:=g.obj 0 _ h0;rw[M]at G;injection G with G;subst G
 obtain⟨c0,e',rfl,T,V⟩:=S.inv;obtain⟨W,J,rfl,q3,X⟩:=V.inv;have q:J=[]:=mC.1 X.1.symm;subst q;obtain⟨y,rfl,z⟩:=tI h0 T;rw[M]at z;injection z with z;subst z
 refine(YuP L B A (h:=hf H) (x:=x) (b:=W) K Q (by trivial) (O 0 _ rfl)).mono ?_;rintro e w' ⟨rfl,Y,Z⟩;have d:=CA (Xs:=Xs) (pls:=pls) (Xh:=Xs) (ph:=pls) (v:=.tp []) (a:=.iZ []) (m:=List.range Xs.length) (s:=⟨[],H,H.length⟩) g D g rfl (jG _) (λi hi x hx=>hx) wW (List.prefix_refl _) (.tp [] [] rfl (λj c a h=>by simp)) (by rfl) (by simp_all);rw[k]at d;obtain⟨L2,f1,f2,f3⟩:=d fm w' Lc (.tuple #[]) Z (.iZ _ _ rfl (λj a h=>by grind));refine⟨_,L2,rfl,Y,f1 Lc w.heap.size (λb hb=> ?_) (hY.refl _ _),f2,f3⟩;apply Classical.byContradiction;intro a1;exact hb ((K.fresh b).2 (qb (by simp_all)))
theorem YuR{P:Program}{fm:FM}{f:FuncId}{g:Nat}{ρ:Ren}(L:Lays.n240 P ρ)(B:l5 P fm ρ)(q:ρ.f 240=f)(d:kB P f=zZ):qc P fm f (mj g).RI:=by
 rintro args H r H' ⟨x,y,vs,Xs,pls,Kp,v,l,X2,h1,h2,V,z,A,C,E,G,I,W,X,J,M,rfl,rfl⟩;refine⟨d,λw Lc vals N D O=> ?_⟩;have Q:=xY h2;have h:=rm h2;have K: ∀(x y:ByteArray),U x=U y->Sg.fill (mj g).args x=U ⟨ji [0] vs,Xs⟩->vs.length=1->kH (.tp []) (kp (.cons .s .nil) y)=U (v,l)->ll [.st [.np 0,.ref 1],.sb] l=U (X2,[])->
   vs=[.ptr 0 0 0]/\Xs=[U (.st [.np 0,.ref 1]),U (.sb x)]/\v= .tp []/\X2=Xs:=by
  intro x y F h k R S;injection F with F;subst F
  have T:kp (.cons .s .nil) x=[⟨.s,x⟩]:=rfl;unfold Sg.fill at h;simp only[mj,T,pn,kH,ll,rL]at h;injection h with h;injection h with hz hX
  match vs,k with
  | [Y],_=>
    simp only[ji,List.cons.injEq,Prod.mk.injEq,and_true,true_and]at hz;obtain⟨rfl,rfl⟩:=R;simp only[ll,rL,pn,kH]at S;simp_all
 obtain⟨rfl,p,rfl,rfl⟩:=K x y h1 h Q G I;exact YuQ L B q z A C (b:=.ref 1) (by rw[p];rfl) (by rw[p];rfl) J N D O
theorem YuS{P:Program}{fm:FM}{T:iT}(S:l4 P fm T){g:Nat}(p:T.pf g=zj)
  (G: ∀f,fm f=g->kB P f=zZ/\ ∃ρ:Ren,Lays.n240 P ρ/\l5 P fm ρ/\ρ.f 240=f):l4 P fm ⟨T.pf,mj g::T.fs,T.ls,0⟩:=by
 obtain⟨C,k,d⟩:=S;have H:C.pf g=zZ->Pure (mj g).RI:=λh=>by rw[d.p.pf,p]at h;cases h
 exact⟨ur C g (mj g).RI,wm k H (λf q=>by obtain⟨K,ρ,w,y,z⟩:=G f q;exact YuR w y z K),AO (e:=mj g) d (λh=>by rw[show(mj g).g=g from rfl,p]at h;cases h) (λ_ _ _ _ _ h=>h)⟩
end Go.Abs
namespace Go.Abs
open Go Go.RowKit Go.Shelf Go.Proofs
variable{P:Program}{ρ:Ren}
set_option maxHeartbeats 1000000 in
set_option maxRecDepth 100000 in
theorem YuT(L:Lays.n169 P ρ)(X:Builder.Extra P ρ)(b:Nat)(l:List UInt8)(w:World){p:Value}{g cap:Nat}{cur:Array Value}(hbk:w.heap[b]?=U (.cells #[p,.slice (U ⟨g,0,zz⟩) l.length cap] (ρ.t 72) (0,0)))
  (hg:w.heap[g]?=U (.cells cur (ρ.t 5) (0,0))) (ZG:l.length<=cur.size) (hnc:l.length<=cap) (PA:cap<=maxLen) (CI: ∀j x,l[j]?=U x->w.cell? ⟨g,j,zz⟩=U (.int .u8 x.toNat)) (h0:l≠ []):
  Calls P (ρ.f 169) #[.pointer (U ⟨b,0,zz⟩)] w λe w'=>e= .returned (.string ⟨l.toArray⟩)/\w'.heap=(w.freeze ⟨g,0,zz⟩ l.length).heap/\w'.os=w.os/\w'.tape=w.tape/\w'.output=w.output:=by
 have AP:l.length≠0:=by simpa using h0
 have c1:w.drew.cell? ⟨b,1,zz⟩=U (.slice (U ⟨g,0,zz⟩) l.length cap):=by
  have:w.drew.heap[b]?=U (.cells #[p,.slice (U ⟨g,0,zz⟩) l.length cap] (ρ.t 72) (0,0)):=hbk;rw[Lib.cell_of_heap this];rfl
 have hSD:(Builtin.unsafeSliceData_ #[(ρ.t 37)] (ρ.t 127) #[.slice (U ⟨g,0,zz⟩) l.length cap]).run P w.drew= .ok (.pointer (U ⟨g,0,zz⟩)) w.drew:=
  Lib.run_unsafeSliceData_row _ _ _ _ _ _ (by omega)
 have hUS:(Builtin.unsafeString_ #[(ρ.t 127),(ρ.t 3)] (ρ.t 9) #[.pointer (U ⟨g,0,zz⟩),.int .i64 l.length]).run P w.drew= .ok (.string ⟨l.toArray⟩) (w.drew.freeze ⟨g,0,zz⟩ l.length):=by
  refine Lib.run_unsafeString_row w.drew (ρ.t 127) (ρ.t 3) (ρ.t 9) (ρ.t 5) L.t127 X.cellsByte g cur.size (by have PB:w.drew.heap[g]?=U (.cells cur (ρ.t 5) (0,0)):=hg;simp[World.shape?,PB]) l h0 (by omega) (by unfold maxLen at PA;omega) ?_;intro j x hx;have:=CI j x hx;rw[Addr.add_lit,mD];exact this
 have mixed:=L.mixed;have t72:=L.t72;have a72:=L.a72;have z72:=L.z72;have v72:=L.v72;have u72:=run_underlying L.t72;have t70:=L.t70;have a70:=L.a70;have z70:=L.z70;have v70:=L.v70;have u70:=run_underlying L.t70;have t37:=L.t37;have a37:=L.a37;have z37:=L.z37;have v37:=L.v37;have u37:=run_underlying L.t37;have t127:=L.t127;have a127:=L.a127;have z127:=L.z127;have v127:=L.v127;have YF6:=run_underlying L.t127;have t3:=L.t3;have a3:=L.a3;have z3:=L.z3;have v3:=L.v3;have u3:=run_underlying L.t3;have t9:=L.t9;have a9:=L.a9;have z9:=L.z9;have v9:=L.v9;have u9:=run_underlying L.t9;have t5:=X.t5;have a5:=X.a5;have z5:=X.z5;have v5:=X.v5;have u5:=run_underlying X.t5
 go_enter L.f169,Body.n169_ntmps ρ
 go_wp2
 go_region_o
 all_goals(go_wp2;go_ret;refine⟨rfl,?_⟩;unfold World.freeze;rw[if_neg AP,if_neg AP];exact⟨rfl,rfl,rfl,rfl⟩)
theorem YuU{fm:FM}{w w':World}{Lc:Nat->Loc}{h:HF}(k:HR fm w Lc h){y g es cap:Nat}(L:Lc y= .cells g es cap)(p:iv Lc w w')(F: ∀b,b<w.heap.size->kN Lc b->b≠g->w'.heap[b]?=w.heap[b]?)(n:Nat):
  hY Lc (λb=>if b=y then .dead else Lc b) n/\HR fm w' (λb=>if b=y then .dead else Lc b) (λb=>if b=y then U zz else h b):=by
 obtain⟨O,K⟩:=Ap k y n (λG e=>by simp_all);have z:hY Lc (λb=>if b=y then .dead else Lc b) w.heap.size:=(Ap k y w.heap.size (λG e=>by simp_all)).1;refine⟨O,⟨λb o q=> ?_,K.live,K.fresh,K.inj,λb s q G P=> ?_,λb o G E C h1 h2 A=>p.tY _ _ (K.qw b o G E C h1 h2 A),K.qU,k.tab.mono p z.own⟩⟩
 .by_cases e:b=y
  .simp_all
  .simp[e]at q;simp only[e,if_false];have H:=k.obj b o q;revert H;cases d:Lc b with
   |fresh=>exact id
   |dead=>exact id
   |nil=>exact id
   |hid g=>exact id
   |cells G E C=>
    rintro⟨h0,h1,h2,A,Q,cur',T,B,R,I⟩;refine⟨h0,h1,h2,A,Q,cur',T,?_,R,λi e' j x J M=>⟨(I i e' j x J M).1,(I i e' j x J M).2.mono p z⟩⟩;rw[F G (pV.1 B).1 (.inl ⟨b,E,C,d⟩) (λN=>e (k.inj b y g _ _ _ _ (by rw[d,N]) L))];exact B
   |mp i G=>
    intro S;obtain⟨_,V,W⟩:=k.Ew d;obtain⟨X,D⟩:=k.live y (.inl ⟨g,es,cap,L⟩);have H:=k.obj y X D;rw[L]at H;obtain⟨_,_,_,_,_,cur,ty,B,_⟩:=H;exact xL S p z (λob h1=>by
     rw[F G (pV.1 h1).1 (.inr ⟨b,i,d⟩) (λN=>by grind)];exact h1)
 .have:=K.hid b s q G P;exact⟨mS this.1 p.size,this.2⟩
theorem uu{Lc:Nat->Loc}{w w':World}(h:Below w.heap.size w w'):iv Lc w w':=
 ⟨h.os,h.tape,h.output,h.size,λb d _=>h.block b d,λb t H=>H.of (h.block b H.lt)⟩
theorem YuV{Lc:Nat->Loc}{w w':World}{g n es cap y:Nat}(L:Lc y= .cells g es cap)(H:w'.heap=(w.freeze ⟨g,0,zz⟩ n).heap)(h1:w'.os=w.os)(h2:w'.tape=w.tape)(k:w'.output=w.output):
  iv Lc w w'/\ ∀b,b≠g->w'.heap[b]?=w.heap[b]?:=by
 have h: ∀b,b≠g->w'.heap[b]?=w.heap[b]?:=λb h=>by
  rw[H];unfold World.freeze;grind
 refine⟨⟨h1,h2,k,?_,λb _ p=>h b (λe=>p (e▸ .inl ⟨y,es,cap,L⟩)),λb t d=> ?_⟩,h⟩
 .rw[H];unfold World.freeze;grind
 .by_cases e:b=g
  .subst e;obtain⟨c,f,d⟩:=d;unfold nZ;rw[H];unfold World.freeze;grind
  .exact d.of (h b e)
theorem YuW{P:Program}{fm:FM}{f:FuncId}{ρ:Ren}(L:Lays.n169 P ρ)(B:l5 P fm ρ)(M:fm.bu=ρ.t 5)(N:ρ.f 169=f){w:World}{Lc:Nat->Loc}{h:HF}(C:HR fm w Lc h){x y:Nat}{s:ByteArray}(hx:h x=U (U ⟨2,[[.np x,.ref y 0 (iM s).length]]⟩))(O:h y=U (U ⟨0,iM s⟩))
  {vals:Array Value} (Q:vals.size=1) (hv:VR fm w Lc (vals.getD 0 undef) (.ptr x 0 0)):
  Calls P f vals w λe w'=>e= .returned (.string s)/\iv Lc w w'/\hY Lc (λb=>if b=y then .dead else Lc b) w.heap.size/\HR fm w' (λb=>if b=y then .dead else Lc b) (λb=>if b=y then U zz else h b):=by
 obtain⟨I,p,sl,cur,e1,a1,H,a2,a3,a4,hp,a0,R⟩:=ZF C hx hv;rw[ZE Q,e1];subst N;have E:cur= #[p,sl]:=by
  grind
 subst E;rw[B.bt]at H;have z:s.size=0->s=⟨#[]⟩:=λh0=>by
  cases s with|mk d=>have:d= #[]:=Array.eq_empty_of_size_eq_zero h0
                     grind
 have q:=C.obj y _ O;have S: ∀g,Lc y≠ .hid g:=λg e=>by rw[e]at q;exact q
 have T: ∀{w':World},Below w.heap.size w w'->iv Lc w w'/\hY Lc (λb=>if b=y then .dead else Lc b) w.heap.size/\HR fm w' (λb=>if b=y then .dead else Lc b) (λb=>if b=y then U zz else h b):=λF=>by
  obtain⟨K,V⟩:=Ap (C.mono (uu F) (λb W _=>F.block b W)) y w.heap.size S;exact⟨uu F,K,V⟩
 rcases td C O R with⟨g,es,cap,D,X,e3,rfl⟩| ⟨A,b,D,hA,_,e3,rfl⟩
 .have X:es=1:=X;subst X;have k:=C.qw y _ g 1 cap O rfl D;rw[D]at q;obtain⟨_,_,h2,h3,h4,cur',ty,J,h6,h7⟩:=q;obtain⟨c',f',k⟩:=k;rw[J]at k;injection k with k;injection k with _ k _
  rw[M]at k;subst k;simp only[Nat.zero_mul,Nat.sub_zero,iX]at H h2 e3;by_cases h0:s.size=0
  .rw[h0]at H;rw[z h0];by_cases G:cap=0
   .subst G;refine(Any.Builder_String_noroom L B.X w.heap.size I g p cur' w (jG _) H J).mono ?_;grind
   .refine(Any.Builder_String_room L B.X w.heap.size I g cap p w G H).mono ?_;grind
  .have hl:s.toList.length=s.size:=by rw[xV];rfl
   have hs:(⟨s.toList.toArray⟩:ByteArray)=s:=by rw[xV]
   rw[<-hl]at H;refine(YuT L B.X I s.toList w (p:=p) (g:=g) (cap:=cap) (cur:=cur') H J (by omega) (by omega) h3 (λj x hj=> ?_) (λe=>h0 (by simp_all))).mono ?_
   .have Y:(iM s)[j]?=U [.v (.int .u8 x.toNat)]:=by unfold iM;simp_all
    obtain⟨_,K⟩:=h7 j _ 0 _ Y rfl;rw[Lib.cell_of_heap J];have a5:j<cur'.size:=by grind
    have:=kI K;simp at this;simp_all
   .rintro e w' ⟨rfl,q1,q2,q3,q4⟩;obtain⟨K,V⟩:=YuV D q1 q2 q3 q4;obtain⟨k3,k4⟩:=YuU C D K (λb _ _ F=>V b F) w.heap.size;simp_all
 .rw[D]at q;have Z:iM s=[]:=q.1;have h0:s.size=0:=by rw[<-iX,Z];rfl
  rw[hA (q.2 rfl)]at H;rw[z h0];refine(Any.Builder_String_nil L B.X w.heap.size I p w H).mono ?_;grind
def nN(g:Nat):hM:=⟨g,zj,⟨[0],[.ptr 0 0 0],[.st [.np 0,.ref 1],.sb],.cons .s .nil⟩,.s,[.st [.np 0,.u],.dd],.cons .s .nil,λs=>U s⟩
theorem YuX{P:Program}{fm:FM}{f:FuncId}{ρ:Ren}(L:Lays.n169 P ρ)(B:l5 P fm ρ)(C:fm.bu=ρ.t 5)(D:ρ.f 169=f){s:ByteArray}{pls:Pl}{Kp:Nat->Prop}{H:ic}{args:List AV}
  (E:CT [U (.st [.np 0,.ref 1]),U (.sb s)] pls [.ptr 0 0 0] args) (d:ib Kp H [U (.st [.np 0,.ref 1]),U (.sb s)] pls H) (F:kZ Kp H)
  {w:World} {Lc:Nat->Loc} {vals:Array Value} (Q:HR fm w Lc (hf H)) (W:vals.size=args.length) (X: ∀j a,args[j]?=U a->VR fm w Lc (vals.getD j undef) a):
  Calls P f vals w λe w'=> ∃v I,e= .returned v/\iv Lc w w'/\hY Lc I w.heap.size/\HR fm w' I (hf (oD Kp H 2 [U (.st [.np 0,.u]),zz] (jx pls 2 H.length [U (.st [.np 0,.u]),zz])))/\VR fm w' I v (kE [U (.st [.np 0,.u]),zz] (jx pls 2 H.length [U (.st [.np 0,.u]),zz]) (.s s)):=by
 obtain⟨a0,Y,rfl,J,K⟩:=E.inv;have p:Y=[]:=mC.1 K.1.symm;subst p;obtain⟨x,rfl,R,_⟩:=AF (o:=.st [.np 0,.ref 1]) rfl J;obtain⟨x',e,G,Z,g3,g4⟩:=d.obj 0 (.st [.np 0,.ref 1]) rfl;rw[R]at G;injection G with G;subst G
 obtain⟨c0,e',rfl,q1,q2⟩:=g4.inv;obtain⟨c1,M,rfl,q3,q4⟩:=q2.inv;have q:M=[]:=mC.1 q4.1.symm;subst q;obtain⟨y',rfl,g⟩:=tI (o:=.st [.np 0,.ref 1]) rfl q1;rw[R]at g;injection g with g;subst g
 obtain⟨y,N,hy,rfl⟩:=KY d (a:=1) (b:=s) rfl q3;refine(YuW L B C D (h:=hf H) (x:=x) (y:=y) (s:=s) Q Z hy (by trivial) (X 0 _ rfl)).mono ?_;rintro e w' ⟨rfl,k1,k2,S⟩;obtain⟨m1,m2⟩:=Cn d (a:=1) (o:=.sb s) rfl N;have a1:x≠y:=λe=>by
  simp_all
 have k:tF pls 1 (.m 0)=U x:=by trivial
 have O:(H.set y zz)[x]?=U (U ⟨2,[[.np x,.ref y 0 (iM s).length]]⟩):=by
  grind
 obtain⟨T,n2⟩:=E9 m1 (a:=0) (x:=x) (o:=.st [.np 0,.ref 1]) (o':=.st [.np 0,.u]) rfl k ⟨2,[[.np x,.ref y 0 (iM s).length]]⟩ rfl rfl (λ_ _ _ _ _ e=>by cases e) (λ_ _ _ _ _ e=>by cases e)
  (λV=>⟨x,[.np x,.ref y 0 (iM s).length],k,o_ (iP.1 O).1,by decide,.cons (.np 0 x (.st [.np 0,.u]) rfl k) (.cons (.u _) .nil)⟩)
 have z:(H.set y zz).set x (U ⟨2,[[.np x,.ref y 0 (iM s).length]]⟩)=H.set y none:=by
  apply pT;grind
 rw[z]at T;have hh:(λb=>if b=y then U zz else hf H b)=hf (H.set y zz):=by
  funext b;simp only[hf];grind
 rw[hh]at S;have A:=CA (Xs:=[U (.st [.np 0,.ref 1]),U (.sb s)]) (pls:=pls) (Xh:=[U (.st [.np 0,.u]),zz]) (ph:=tF pls 1) (v:=.s s) (a:=.v (.string s)) (m:=List.range 2) (s:=⟨[],H.set y zz,H.length⟩) d F T rfl (jG _) (λi hi x V=>by
   unfold tF at V;simp_all) wW (List.prefix_refl _) (.s s) rfl rfl
 obtain⟨L2,f1,f2,f3⟩:=A fm w' _ (.string s) S (.v _);exact⟨_,L2,rfl,k1,f1 Lc w.heap.size (λb hb=>by
  apply Classical.byContradiction;intro a2;exact hb ((Q.fresh b).2 (qb (by simp_all)))) k2,f2,f3⟩
theorem YuY{P:Program}{fm:FM}{f:FuncId}{g:Nat}{ρ:Ren}(L:Lays.n169 P ρ)(B:l5 P fm ρ)(p:fm.bu=ρ.t 5)(q:ρ.f 169=f)(d:kB P f=zZ):qc P fm f (nN g).RI:=by
 rintro args H r H' ⟨x,y,vs,Xs,pls,Kp,v,l,X2,h1,h2,T,z,A,C,E,J,M,V,W,X,N,rfl,rfl⟩;refine⟨d,λw Lc vals O D Q=> ?_⟩;have R:=xY h2;have h:=rm h2;have K: ∀(x y:ByteArray),U x=U y->Sg.fill (nN g).args x=U ⟨ji [0] vs,Xs⟩->vs.length=1->kH .s (kp (.cons .s .nil) y)=U (v,l)->ll [.st [.np 0,.u],.dd] l=U (X2,[])->
   vs=[.ptr 0 0 0]/\Xs=[U (.st [.np 0,.ref 1]),U (.sb x)]/\v= .s x/\X2=[U (.st [.np 0,.u]),zz]:=by
  intro x y F h k G S;injection F with F;subst F
  have I:kp (.cons .s .nil) x=[⟨.s,x⟩]:=rfl;unfold Sg.fill at h;simp only[nN,I,pn,kH,ll,rL]at h;injection h with h;injection h with hz hX
  match vs,k with
  | [Y],_=>
    simp only[ji,List.cons.injEq,Prod.mk.injEq,and_true,true_and]at hz;simp only[I,kH,Option.some.injEq,Prod.mk.injEq]at G;obtain⟨rfl,rfl⟩:=G;simp only[ll,rL,pn,kH,Option.some.injEq,Prod.mk.injEq,and_true]at S;simp_all
 obtain⟨rfl,rfl,rfl,rfl⟩:=K x y h1 h R J M;exact YuX L B p q z A C O D Q
theorem YuZ{P:Program}{fm:FM}{T:iT}(S:l4 P fm T){g:Nat}(p:T.pf g=zj)
  (G: ∀f,fm f=g->kB P f=zZ/\ ∃ρ:Ren,Lays.n169 P ρ/\l5 P fm ρ/\fm.bu=ρ.t 5/\ρ.f 169=f):l4 P fm ⟨T.pf,nN g::T.fs,T.ls,0⟩:=by
 obtain⟨C,k,d⟩:=S;have H:C.pf g=zZ->Pure (nN g).RI:=λh=>by rw[d.p.pf,p]at h;cases h
 exact⟨ur C g (nN g).RI,wm k H (λf q=>by obtain⟨K,ρ,w,y,z,A⟩:=G f q;exact YuY w y z A K),AO (e:=nN g) d (λh=>by rw[show(nN g).g=g from rfl,p]at h;cases h) (λ_ _ _ _ _ h=>h)⟩
end Go.Abs
namespace Go.Abs
open Go Go.RowKit Go.Shelf Go.Proofs
theorem ZH{P:Program}{fm:FM}{f:FuncId}{R:List AV->AV->Prop}(d:kB P f=zZ)
  (h: ∀args r,R args r-> ∃(xs:List Value) (x:Value),args=xs.map AV.v/\r= .v x/\ ∀w,Calls P f xs.toArray w λe w'=>e= .returned x/\Below w.heap.size w w'):qc P fm f (q_ R):=by
 rintro args H r H' ⟨n,rfl,rfl,_,_,p⟩;refine⟨d,λw L vs q z y=> ?_⟩;obtain⟨xs,x,rfl,rfl,A⟩:=h _ _ p;have:vs=xs.toArray:=by
  apply Array.ext
  .simp_all
  .intro i h1 h2;have B:i<xs.length:=by trivial
   have:=y i (.v xs[i]) (by simp);have:=kI this;simp_all
 subst this;refine(A w).mono ?_;rintro e w' ⟨rfl,g⟩;exact⟨x,L,rfl,uu g,hY.refl _ _,q.mono (uu g) (λb k _=>g.block b k),.v x⟩
theorem Fs{P:Program}{fm:FM}{T:iT}(h:l4 P fm T){e:hM}(p:T.pf e.g=zZ)(G: ∀f,fm f=e.g->qc P fm f (q_ e.R)):l4 P fm ⟨T.pf,e::T.fs,T.ls,0⟩:=by
 obtain⟨C,H,d⟩:=h;exact⟨ur C e.g (q_ e.R),wm H (λ_=>GF _) G,Hn d p⟩
theorem PC{vs:List TV}(H:vs.length=2){X:hZ}{V d:TV}(h:U (lu.mk (ji [0,1] [V,d]) [])=U ⟨ji [0,1] vs,X⟩):vs=[V,d]:=by
 match vs,H with
 | [g,k],_=>
   injection h with h;injection h with h _
   simp only[ji,List.cons.injEq,Prod.mk.injEq,and_true,true_and]at h;simp_all
end Go.Abs
namespace Go.Abs
open Go Go.RowKit Go.ChangeShapes Go.WideShapes Go.ChangeAt
section
variable{H:Type}{enc:TypeId×Value->H}{P:Program}{fm:FM}{T:iT}
theorem Yu0{W:World}{base:Nat}{t:TypeId}{fs:Array Field}(w:P.underlying t=U (.struct fs)){v:Value}(p:Value.okWide P W .any base t v){b:Nat}{S:Nat->Bool}{held:Bool}{d:DataW H}{q:List MemPlace}
  (hd:DataW.Trod enc P W b S held t v d q) {bulk:DataW H->Nat} {es:Nat} {X:Type} {e:X->List TV} {sz:X->Nat} {ok:X->Prop} (R:Reads enc P W b S held fm bulk t es (λx=>jC (e x)) sz ok):
  ∃x,ok x/\sz x<=bulk d/\VR fm W qA v (oX (.ag (e x))):=by
 simp only[Value.okWide,w]at p;obtain⟨cs,rfl,_,_⟩:=p;obtain⟨fuel,hd⟩:=hd;obtain⟨x,h1,h2,B,y,z⟩:=R fuel _ d q hd;have A:cs.size=es:=by trivial
 have k: ∀j a,(jC (e x))[j]?=U a->(cs.getD j undef).oneCell'=zZ/\VR fm W qA (cs.getD j undef) a:=by
  intro j a h;have g:j<cs.size:=by grind
  have:=z j cs[j] a (by simp[Value.cells,g]) h;rw[mI];grind
 refine⟨x,h1,y,?_⟩;exact .agg cs _ (by simp_all) (λj a h=>(k j a h).1) (λj a h=>(k j a h).2)
theorem Yu1{W:World}{base:Nat}{t:TypeId}(h: ∀fs,P.underlying t≠U (.struct fs))(k: ∀n u,P.underlying t≠U (.array n u)){v:Value}(q:Value.okWide P W .any base t v)(w: ∀cs,¬Cell.okWide P W .any base t (.agg cs)){b:Nat}{S:Nat->Bool}{held:Bool}{d:DataW H}{g:List MemPlace}
  (hd:DataW.Trod enc P W b S held t v d g) {bulk:DataW H->Nat} {X:Type} {e:X->List TV} {sz:X->Nat} {ok:X->Prop} {p:X->TV} (y: ∀x,e x=[p x]) (R:Reads enc P W b S held fm bulk t 1 (λx=>jC (e x)) sz ok):
  ∃x,ok x/\sz x<=bulk d/\VR fm W qA v (oX (p x)):=by
 have z:Cell.okWide P W .any base t v:=by
  unfold Value.okWide at q;simp_all
 have C:v.cells= #[v]:=by
  cases v with
  |agg cs=>simp_all
  |_=>rfl
 obtain⟨fuel,hd⟩:=hd;obtain⟨x,h1,h2,D,A,B⟩:=R fuel _ d g hd;refine⟨x,h1,A,?_⟩;have:=B 0 v (oX (p x)) (by grind) (by simp[y x,jC]);simp_all
theorem ZI(y:laidOutB P=zZ){W z:World}(A:Below W.heap.size W z): ∀{ts:List TypeId} {vs:List Value} {ds:List (DataW H)} {g:List MemPlace},
  DataW.TrodAll enc P W 0 (λ_=>zZ) zZ ts vs ds g->(∀t∈ts,P.readableRec t=zZ/\t<P.types.size)->(∀x∈g,x.block<W.heap.size)->
  DataW.TrodAll enc P z 0 (λb=>decide (b<W.heap.size)) zZ ts vs ds g
 | [],[],[],g,h,_,_=>h
 |t::ts,v::vs,d::ds,g,h,B,k=>by
  obtain⟨p,q,h1,h2,rfl⟩:=h;have C:=B t (pM ..);exact⟨p,q,Below.trod y C.1 C.2 h1 A (λx w=>k x (List.mem_append_left _ w)),
   ZI y A h2 (λu D=>B u (wD _ D)) (λx w=>k x (List.mem_append_right _ w)),rfl⟩
 | [],_::_,_,_,h,_,_=>h.elim
 | [],[],_::_,_,h,_,_=>h.elim
 |_::_,[],_,_,h,_,_=>h.elim
 |_::_,_::_,[],_,h,_,_=>h.elim
theorem Yu2(E:laidOutB P=zZ){f:Func}{s:ChangeSpec}{T:TypeId}(k:f.resultTypes= #[T])(w:P.underlying T=U .bool)(F: ∀t∈f.params.toList,P.readableRec t=zZ/\t<P.types.size)(d:s.vars=[])
  {W C:World} {args:Array Value} {ds G:List (DataW H)} {B:List MemPlace} (y:DataW.Whole enc P f.params.toList s.vars zj W args.toList ds G B) (g:(s.fn H (ds++G))={results:=[.lit (.bool zZ)],args:=ds}) (D:Below W.heap.size W C):
  s.post enc P f zj zZ zj zj W args (.bool zZ) C:=by
 have z:=y.lt;have A:=y;obtain⟨p,q,I,V,rfl,J,K⟩:=y;rw[d]at V;obtain⟨rfl,rfl⟩:=trodVars_none V;refine⟨ds,[],p++[],[],p,[],A,?_,?_,?_,D.frame _,λh=>by cases h⟩
 .rw[g,k];exact trodAll_cons_mk (shut_bool w _) trodAll_mk0
 .rw[g];exact ZI E D I F (λx L=>z x (List.mem_append_left _ L))
 .rw[g,d];rfl
theorem Yu3{w w':World}(h:iv qA w w'):Below w.heap.size w w':=
 ⟨h.os,h.tape,h.output,h.size,λk H=>h.lF k H (XN k)⟩
theorem Yu4(S:l4 P fm T){e:hM}(p:e∈T.fs)(q:T.pf e.g=zZ){f:FuncId}(w:fm f=e.g){vs:List TV}(d:qh vs=zZ){x:e.args.c.den}{y:e.co.den}(h:e.args.read vs []=U x)(F:e.F x=U y)(H:kH e.res (kp e.co y)=U (.b zZ,[]))
  {W:World} {args:Array Value} (z:args.size=vs.length) (A: ∀j a,(jC vs)[j]?=U a->VR fm W qA (args.getD j undef) a) (g:rf fm W):
  Calls P f args W λe B=>e= .returned (.bool zZ)/\Below W.heap.size W B:=by
 refine(Yup S p q w (args:=jC vs) (r:=oX (.b zZ)) ⟨x,y,vs,.b zZ,F,h,d,rfl,H,rfl,rfl⟩ (by simpa[Cx]using z) A g).mono ?_;rintro E w' ⟨v,rfl,C,L,k⟩;have:=kI (show VR fm w' L v (.v (.bool zZ))from k);rw[this];exact⟨rfl,Yu3 C⟩
end
end Go.Abs
namespace Go.Abs
open Go Go.RowKit Go.ChangeShapes Go.WideShapes Go.ChangeAt
mutual
def Ty.sz:(t:Ty)->t.den->Nat
 | .i _,_=>1
 | .b,_=>1
 | .s,x=>ByteArray.size x+1
 | .l c,v=>(List.map c.sz v).sum+1
def Cs.sz:(c:Cs)->c.den->Nat
 | .nil,_=>0
 | .cons t r,x=>t.sz (kU r x)+r.sz (lM r x)
end
mutual
def Ty.tM:(t:Ty)->t.den->Prop
 | .i k,n=>(Lit.int k n).wf=zZ
 | .b,_=>True
 | .s,_=>True
 | .l c,v=> ∀x∈ (show List c.den from v),c.tM x
def Cs.tM:(c:Cs)->c.den->Prop
 | .nil,_=>True
 | .cons t r,x=>t.tM (kU r x)/\r.tM (lM r x)
end
def Cs.tk:Nat->Cs->Cs
 |0,_=>.nil
 |_+1,.nil=>.nil
 |n+1,.cons t r=>.cons t (Cs.tk n r)
def Cs.dp:Nat->Cs->Cs
 |0,c=>c
 |_+1,.nil=>.nil
 |n+1,.cons _ r=>Cs.dp n r
def Cs.jn:(n:Nat)->(c:Cs)->(Cs.tk n c).den->(Cs.dp n c).den->c.den
 |0,_,_,y=>y
 |_+1,.nil,_,_=>()
 |n+1,.cons t r,x,y=>uh r (kU (Cs.tk n r) x) (Cs.jn n r (lM (Cs.tk n r) x) y)
theorem ZJ: ∀(n:Nat) (c:Cs),n<=c.width->(Cs.tk n c).width=n
 |0,_,_=>rfl
 |n+1,.nil,h=>by trivial
 |n+1,.cons t r,h=>by simp only[Cs.width]at h;simp only[Cs.tk,Cs.width,ZJ n r (by omega)]
theorem ZK: ∀(n:Nat) (c:Cs),n<=c.width->(Cs.dp n c).width+n=c.width
 |0,_,_=>rfl
 |n+1,.nil,h=>by trivial
 |n+1,.cons t r,h=>by simp only[Cs.width]at h;have:=ZK n r (by omega);simp only[Cs.dp,Cs.width];omega
theorem ZL: ∀(n:Nat) (c:Cs) (x:(Cs.tk n c).den) (y:(Cs.dp n c).den),c.enc (Cs.jn n c x y)=(Cs.tk n c).enc x++(Cs.dp n c).enc y
 |0,_,_,y=>rfl
 |n+1,.nil,_,_=>rfl
 |n+1,.cons t r,x,y=>by simp only[Cs.jn,Cs.enc,xS,vX,Cs.tk,Cs.dp,rV];exact congrArg _ (ZL n r _ _)
theorem PD: ∀(n:Nat) (c:Cs) (x:(Cs.tk n c).den) (y:(Cs.dp n c).den),c.sz (Cs.jn n c x y)=(Cs.tk n c).sz x+(Cs.dp n c).sz y
 |0,_,_,y=>by simp only[Cs.jn,Cs.tk,Cs.dp,Cs.sz,mD]
 |n+1,.nil,_,_=>by rfl
 |n+1,.cons t r,x,y=>by simp only[Cs.jn,Cs.sz,xS,vX,Cs.tk,Cs.dp,Nat.add_assoc];exact congrArg _ (PD n r _ _)
theorem PE: ∀(n:Nat) (c:Cs) (x:(Cs.tk n c).den) (y:(Cs.dp n c).den),(Cs.tk n c).tM x->(Cs.dp n c).tM y->c.tM (Cs.jn n c x y)
 |0,_,_,y,_,h=>h
 |n+1,.nil,_,_,_,_=>trivial
 |n+1,.cons t r,x,y,h,h2=>by
  simp only[Cs.jn,Cs.tM,xS,vX];exact⟨h.1,PE n r _ _ h.2 h2⟩
theorem ZM: ∀(n:Nat) (c:Cs) (x:(Cs.tk n c).den) (y:(Cs.dp n c).den),kp c (Cs.jn n c x y)=kp (Cs.tk n c) x++kp (Cs.dp n c) y
 |0,_,_,y=>rfl
 |n+1,.nil,_,_=>rfl
 |n+1,.cons t r,x,y=>by simp only[Cs.jn,kp,xS,vX,Cs.tk,Cs.dp,rV];exact congrArg _ (ZM n r _ _)
def ze(P:Program):Nat->TypeId->Cs->Bool
 |0,_,_=>zj
 |f+1,t,c=>match P.underlying t with
  |some (.int k)=>c.eqb (.cons (.i k) .nil)
  |some .bool=>c.eqb (.cons .b .nil)
  |some .string=>c.eqb (.cons .s .nil)
  |some (.slice u)=>match c with
   | .cons (.l c') .nil=>js 0 c'.width&&im (P.cellsOf u) c'.width&&ze P f u c'
   |_=>zj
  |some (.struct fs)=>im (P.cellsOf t) c.width&&okF (λg c=>ze P f g c) fs.toList 0 c
  |_=>zj
where
 okF (k:TypeId->Cs->Bool):List Field->Nat->Cs->Bool
 | [],_,.nil=>zZ
 | [],_,_=>zj
 |g::r,o,c=>im g.offset o&&iS (P.cellsOf g.type) c.width&&k g.type (Cs.tk (P.cellsOf g.type) c)&&okF k r (o+P.cellsOf g.type) (Cs.dp (P.cellsOf g.type) c)
section
variable{H:Type}{enc:TypeId×Value->H}{P:Program}{w:World}{base:Nat}{spare:Nat->Bool}{held:Bool}{fm:FM}{bulk:DataW H->Nat}{all:List (DataW H)->Nat}
theorem ZN(H:kg bulk all){k:TypeId->Cs->Bool}(d: ∀t c,k t c=zZ->Reads enc P w base spare held fm bulk t c.width c.enc c.sz c.tM):
  ∀(fs:List Field) (o:Nat) (c:Cs),ze.okF P k fs o c=zZ->GG enc P w base spare held fm all fs o c.width c.enc c.sz c.tM
 | [],o,.nil,_=>YsI o
 | [],o,.cons _ _,h=>by trivial
 |g::r,o,c,h=>by
  simp only[ze.okF,iI]at h;obtain⟨⟨⟨h1,h2⟩,p⟩,q⟩:=h;have h1:=jr h1;have h2:=l9 h2;have W:=ZJ _ _ h2;have E:=ZK _ _ h2;have R:=d _ _ p;rw[W]at R;have z:=ZN H d r _ _ q;have:=YsJ H h1 rfl R z;intro fuel cs xs A B;obtain⟨⟨x,y⟩,K,F,C,D⟩:=this fuel cs xs A (by omega);refine⟨Cs.jn _ c x y,PE _ _ _ _ K.1 K.2,?_,?_,?_⟩
  .exact rJ _ _
  .rw[PD];exact C
  .rw[ZL];exact D
theorem Lw(d:kg bulk all): ∀(f:Nat) (t:TypeId) (c:Cs),ze P f t c=zZ->Reads enc P w base spare held fm bulk t c.width c.enc c.sz c.tM
 |0,_,_,h=>by trivial
 |f+1,t,c,h=>by
  unfold ze at h;split at h
  .rename_i k H;have e:=Cs.jd h;subst e;refine(YsF d H).conv ?_;intro n g;exact⟨n,⟨g,trivial⟩,rfl,jG _⟩
  .rename_i H;have e:=Cs.jd h;subst e;refine(YsG d H).conv ?_;intro n g;exact⟨n,⟨g,trivial⟩,rfl,jG _⟩
  .rename_i H;have e:=Cs.jd h;subst e;refine(YsH d H).conv ?_;intro n g;exact⟨n,⟨g,trivial⟩,rfl,jG _⟩
  .rename_i u H;split at h
   .rename_i c';simp only[iI]at h;obtain⟨⟨h1,h2⟩,p⟩:=h;have h1:0<c'.width:=l9 h1;have h2:=jr h2;refine(YsO d H h2 h1 (Lw d f u c' p)).conv ?_;intro l q;exact⟨l,⟨q,trivial⟩,rfl,jG _⟩
   trivial
  .rename_i fs H;simp only[iI]at h;have h1:=jr h.1;exact YsK d H h1 (ZN d (λt c=>Lw d f t c) _ _ _ h.2)
  trivial
def Ty.sv:Ty->SV
 | .i k=>.i k
 | .b=>.b
 | .s=>.s
 | .l c=>.l c
def Cs.svs:Cs->List SV
 | .nil=>[]
 | .cons t r=>t.sv::r.svs
def Cs.xf:(c:Cs)->c.den->List TV
 | .nil,_=>[]
 | .cons t r,x=>nx t (kU r x)::r.xf (lM r x)
theorem ZO(t:Ty)(v:t.den):(nx t v).sh=U t.sv:=by cases t<;>rfl
theorem ZP(t:Ty)(v:t.den):(nx t v).lv=[⟨t,v⟩]:=by cases t<;>rfl
theorem ZQ(t:Ty)(v:t.den):oX (nx t v)=t.enc v:=by cases t<;>rfl
theorem ZR(t:Ty)(v:t.den):wb (nx t v)=true:=by cases t<;>rfl
theorem ZS: ∀(c:Cs) (x:c.den),TV.qg (c.xf x)=U c.svs
 | .nil,_=>rfl
 | .cons t r,x=>by simp only[Cs.xf,TV.qg,ZO,ZS r,Cs.svs]
theorem ZT: ∀(c:Cs) (x:c.den),TV.oB (c.xf x)=kp c x
 | .nil,_=>rfl
 | .cons t r,x=>by simp only[Cs.xf,TV.oB,ZP,ZT r,kp,rV,qt]
theorem ZU: ∀(c:Cs) (x:c.den),jC (c.xf x)=c.enc x
 | .nil,_=>rfl
 | .cons t r,x=>by simp only[Cs.xf,jC,ZQ,ZU r,Cs.enc]
theorem ZV: ∀(c:Cs) (x:c.den),qh (c.xf x)=zZ
 | .nil,_=>rfl
 | .cons t r,x=>by simp only[Cs.xf,qh,ZR,ZV r,uW]
mutual
theorem SV.jS: ∀a:SV,a.eqb a=zZ
 | .i z=>by simp[SV.eqb]
 | .b=>rfl
 | .s=>rfl
 | .u=>rfl
 | .nl=>rfl
 | .ef=>rfl
 | .l z=>by simp[SV.eqb,Cs.jS z]
 | .e z=>by simp[SV.eqb,Cs.jS z]
 | .ref z=>by simp[SV.eqb]
 | .pre z=>by simp[SV.eqb]
 | .np z=>by simp[SV.eqb]
 | .ptr z x y=>by simp[SV.eqb]
 | .ag z=>by simp[SV.eqb,SV.l6 z]
 | .tp z=>by simp[SV.eqb,SV.l6 z]
 | .clo g z=>by simp[SV.eqb,SV.l6 z]
theorem SV.l6: ∀a:List SV,SV.jW a a=zZ
 | []=>rfl
 |a::r=>by simp[SV.jW,SV.jS a,SV.l6 r]
end
def CJ(P:Program)(t:TypeId)(S:SV)(c:Cs):Bool:=match P.underlying t with
 |some (.struct _)=>S.eqb (.ag c.svs)&&ze P 20 t c
 |some (.array _ _)=>zj
 |_=>match c with
  | .cons u .nil=>S.eqb u.sv&&ze P 20 t c
  |_=>zj
def Lx(P:Program):List TypeId->List SV->Cs->Bool
 | [],[],.nil=>zZ
 |t::ts,v::vs,c=>iS (P.cellsOf t) c.width&&CJ P t v (Cs.tk (P.cellsOf t) c)&&Lx P ts vs (Cs.dp (P.cellsOf t) c)
 |_,_,_=>zj
theorem Yu5(B:kg bulk all){W:World}{t:TypeId}{C:SV}{c:Cs}(h:CJ P t C c=zZ){v:Value}(D:Value.okWide P W .any base t v){b:Nat}{S:Nat->Bool}{held:Bool}{d:DataW H}{F:List MemPlace}
  (hd:DataW.Trod enc P W b S held t v d F): ∃x:c.den,c.tM x/\c.sz x<=bulk d/\ ∃tv:TV,tv.sh=U C/\tv.lv=kp c x/\wb tv=zZ/\VR fm W qA v (oX tv):=by
 unfold CJ at h;split at h
 .rename_i fs g;simp at h;have h1:=SV.jd h.1;subst h1;have R:=Lw (enc:=enc) (w:=W) (base:=b) (spare:=S) (held:=held) (fm:=fm) B _ _ _ h.2;obtain⟨x,K,E,z⟩:=Yu0 (fm:=fm) (e:=c.xf) g D hd (by simpa only[ZU]using R);exact⟨x,K,E,.ag (c.xf x),by simp only[TV.sh,ZS],by simp only[TV.lv,ZT],by simp only[wb,ZV],z⟩
 .cases h
 .rename_i k q;split at h
  .rename_i u;simp at h;have h1:=SV.jd h.1;subst h1;have R:=Lw (enc:=enc) (w:=W) (base:=b) (spare:=S) (held:=held) (fm:=fm) B _ _ _ h.2;have A: ∀cs,¬Cell.okWide P W .any base t (.agg cs):=by
    intro cs G;have h2:=h.2;unfold ze at h2;cases g:P.underlying t with
    |none=>simp_all
    |some y=>cases y<;>simp[g]at h2<;>simp[Cell.okWide,Cell.ok,g]at G<;>first|exact k _ g|exact q _ _ g
   obtain⟨x,K,E,z⟩:=Yu1 (fm:=fm) (X:=u.den) (e:=λx=>[nx u x]) (p:=nx u) (sz:=u.sz) (ok:=u.tM) k q D A hd (λ_=>rfl) (by
    refine R.conv ?_;intro x I;refine⟨kU .nil x,I.1,?_,?_⟩
    .simp only[jC,ZQ,Cs.enc]
    .simp only[Cs.sz];omega)
   exact⟨x,⟨K,trivial⟩,by trivial,nx u x,ZO _ _,ZP _ _,ZR _ _,z⟩
  trivial
theorem ZW(g:kg bulk all)(h0: ∀l:List (DataW H),0<=all l){W:World}: ∀{ts:List TypeId} {svs:List SV} {c:Cs},Lx P ts svs c=zZ-> ∀{vs:List Value} {b:Nat} {S:Nat->Bool} {held:Bool} {ds:List (DataW H)} {k:List MemPlace},
  DataW.TrodAll enc P W b S held ts vs ds k->(∀(j:Nat) t v,ts[j]?=U t->vs[j]?=U v->Value.okWide P W .any base t v)->
  ∃x:c.den,c.tM x/\c.sz x<=all ds/\ ∃T:List TV,TV.qg T=U svs/\TV.oB T=kp c x/\qh T=zZ/\T.length=vs.length/\ ∀j a,(jC T)[j]?=U a->VR fm W qA (vs.getD j undef) a
 | [],[],.nil,_,[],_,_,_,[],_,_,_=>⟨(),trivial,sP _,[],rfl,rfl,rfl,rfl,λj a h=>by trivial⟩
 |t::ts,J::svs,c,h,v::vs,b,S,held,d::ds,k,hd,w=>by
  simp only[Lx,iI]at h;obtain⟨p,q,h1,h2,rfl⟩:=hd;obtain⟨x,A,K,tv,B,C,D,L⟩:=Yu5 (fm:=fm) g h.1.2 (w 0 t v rfl rfl) h1;obtain⟨y,E,M,T,F,G,I,N,O⟩:=ZW g h0 h.2 h2 (λj t v Q R=>w (j+1) t v (by trivial) (by trivial));refine⟨Cs.jn _ c x y,PE _ _ _ _ A E,?_,tv::T,?_,?_,?_,?_,?_⟩
  .rw[PD];have:=g.cons d ds;omega
  .simp only[TV.qg,B,F]
  .simp only[TV.oB,C,G,ZM]
  .simp only[qh,D,I,uW]
  .simp_all
  .intro j a z;cases j with
   |zero=>simp only[jC,List.getElem?_cons_zero,Option.some.injEq]at z;simp_all
   |succ j=>simp only[jC,List.getElem?_cons_succ]at z;simp_all
 | [],[],.cons _ _,h,_,_,_,_,_,_,_,_=>by trivial
 | [],_::_,_,h,_,_,_,_,_,_,_,_=>by trivial
 |_::_,[],_,h,_,_,_,_,_,_,_,_=>by trivial
 | [],[],.nil,_,_::_,_,_,_,_,_,hd,_=>hd.elim
 | [],[],.nil,_,[],_,_,_,_::_,_,hd,_=>hd.elim
 |_::_,_::_,_,_,[],_,_,_,_,_,hd,_=>hd.elim
 |_::_,_::_,_,_,_::_,_,_,_,[],_,hd,_=>hd.elim
theorem ZX: ∀(c:Cs) (x:c.den),tt (kp c x)=⟨c,x⟩
 | .nil,_=>rfl
 | .cons t r,x=>by
   have:=ZX r (lM r x);show(match tt (kp r (lM r x))with| ⟨c,y⟩=>(⟨.cons t c,uh c (kU r x) y⟩:(c:Cs)×c.den))=_;rw[this];exact congrArg (Sigma.mk (Cs.cons t r)) (XS r x)
theorem Yu6{g:Sg}{T:List TV}{x:g.c.den}(h:g.os=[])(h1:TV.qg T=U g.vs)(h2:TV.oB T=kp g.c x):g.read T []=U x:=by
 unfold Sg.read;rw[h1];have e:tt (TV.oB T++kW [])=⟨g.c,x⟩:=by
  show tt (TV.oB T++[])=_;rw[List.append_nil,h2,ZX]
 simp only[ny,h,SO.jW,Bool.and_true,SV.l6,cond_true];rw[e];exact Cs.cast_refl _ _
end
end Go.Abs
namespace Go.Abs
open Go Go.RowKit Go.ChangeShapes Go.WideShapes Go.ChangeAt
theorem ZY{H:Type}{enc:TypeId×Value->H}{P:Program}{W:World}{b:Nat}{S:Nat->Bool}{held:Bool}: ∀{ts:List TypeId} {vs:List Value} {ds:List (DataW H)} {g:List MemPlace},
  DataW.TrodAll enc P W b S held ts vs ds g->vs.length=ts.length/\ds.length=ts.length
 | [],[],[],_,_=>⟨rfl,rfl⟩
 |t::ts,v::vs,d::ds,g,h=>by
  obtain⟨p,q,h1,h2,rfl⟩:=h;obtain⟨a,b⟩:=ZY h2;simp_all
 | [],_::_,_,_,h=>h.elim
 | [],[],_::_,_,h=>h.elim
 |_::_,[],_,_,h=>h.elim
 |_::_,_::_,[],_,h=>h.elim
theorem Yu7{P:Program}{fm:FM}{T:iT}(S:l4 P fm T)(X:laidOutB P=zZ){f:FuncId}{F:Func}{s:ChangeSpec}{e:hM}(z:e∈T.fs)(Y:T.pf e.g=zZ)(Z:fm f=e.g)(A:e.args.os=[])
  {w:Array TypeId} (C:F.params=w) (g:Lx P w.toList e.args.vs e.args.c=zZ) {K:TypeId} (k:F.resultTypes= #[K]) (D:P.underlying K=U .bool) (hr:(w.toList.all λt=>P.readableRec t&&decide (t<P.types.size))=zZ) (h:s.vars=[])
  {H:Type} {enc:TypeId×Value->H} (a0: ∀ds:List (DataW H),ds.length=w.size->s.fn H ds={results:=[.lit (.bool zZ)],args:=ds})
  {bulk:DataW H->Nat} {all:List (DataW H)->Nat} (E:kg bulk all) {N:Nat}
  (L: ∀x:e.args.c.den,e.args.c.tM x->e.args.c.sz x<=N-> ∃y,e.F x=U y/\kH e.res (kp e.co y)=U (.b zZ,[]))
  (W:World) (base:Nat) (args:Array Value) (ds M:List (DataW H)) (B:List MemPlace)
  (d: ∀(j:Nat) t v,F.params[j]?=U t->args[j]?=U v->Value.okWide P W .any base t v)
  (O:DataW.Whole enc P F.params.toList s.vars zj W args.toList ds M B) (Q:all (ds++M)<=N) (G:rf fm W):
  Calls P f args W λe R=> ∃v,e= .returned v/\s.post enc P F zj zZ zj zj W args v R:=by
 have I:=O;obtain⟨p,q,J,V,rfl,a1,a2⟩:=O;rw[h]at V;obtain⟨rfl,rfl⟩:=trodVars_none V;rw[List.append_nil]at Q;have a3:=ZY J;rw[C]at J d;obtain⟨x,k1,k2,a4,k3,k4,k5,k6,k7⟩:=ZW (fm:=fm) (bulk:=bulk) (all:=all) E (λ_=>sP _) g J (λj t v h1 h2=>d j t v (by simp_all) (by simp_all));obtain⟨y,h1,h2⟩:=L x k1 (nu k2 Q);refine(Yu4 S z Y Z k5 (Yu6 A k3 k4) h1 h2 (args:=args) (by simp_all) (λj a hj=> ?_) G).mono λe R ⟨z,E⟩=> ?_
 .simp_all
 .subst z;refine⟨_,rfl,Yu2 X k D ?_ h I ?_ E⟩
  .grind
  simp_all
end Go.Abs
namespace Go.Abs
open Go Go.RowKit Go.Shelf Go.Proofs Go.Sort
def CK{α:Type}(L:α->α->Bool)(x:α):List α->List α
 | []=>[x]
 |y::r=>bif L x y then x::y::r else y::CK L x r
end Go.Abs
namespace Go.Abs
open Go Go.RowKit Go.Shelf Go.Proofs
def xZ(l:List ByteArray)(p:ByteArray):ByteArray:=⟨(Lib.join (l.map λs=>s.data.toList) p.data.toList).toArray⟩
def PF(l:List ByteArray)(p:ByteArray):Option ByteArray:=bif iS l.length c_&&iS (xZ l p).size 140737488355328 then U (xZ l p)else zz
def ru(g:Nat):hM:=⟨g,zZ,⟨[0,1],[.l (.cons .s .nil),.s],[],.cons (.l (.cons .s .nil)) (.cons .s .nil)⟩,.s,[],.cons .s .nil,λ(p:List ByteArray×ByteArray)=>PF p.1 p.2⟩
theorem Yu8{P:Program}{fm:FM}{ρ:Ren}(L:Lays.n156 P ρ)(X:Builder.Extra P ρ){w:World}{Lc:Nat->Loc}{l:List ByteArray}{p:ByteArray}(H:l.length<=c_)(k:(xZ l p).size<=140737488355328)
  {V:Value} (h:VR fm w Lc V (.rd 1 (l.map λs=>[.v (.string s)]))):Calls P (ρ.f 156) #[V,.string p] w λe w'=>e= .returned (.string (xZ l p))/\Below w.heap.size w w':=by
 generalize q:(l.map λs=>[AV.v (.string s)])=J at h;generalize z:(1:Nat)=es at h;cases h with
 |lT A es c=>
  have:l=[]:=List.map_eq_nil_iff.1 q;subst this;refine(Any.strings_Join_none L X A c p w).mono ?_;rintro e w' ⟨rfl,rfl⟩;exact⟨rfl,Below.refl _ _⟩
 |rd b o c es l' B C D y E K d F G g=>
  subst z;subst q;rw[pQ];refine(Any.strings_Join L X b o c l p w (λj s M=> ?_) d (nu H (by decide)) (by simp_all) (by trivial)).mono ?_
  .have N:=F j [AV.v (.string s)] 0 (.v (.string s)) (by grind) rfl;have O:=kI (g j [AV.v (.string s)] 0 (.v (.string s)) (by grind) rfl);simp_all
  .rintro e w' ⟨rfl,I⟩;trivial
theorem Yu9{P:Program}{fm:FM}{f:FuncId}{g:Nat}{ρ:Ren}(L:Lays.n156 P ρ)(X:Builder.Extra P ρ)(A:ρ.f 156=f)(p:kB P f=zZ):qc P fm f (q_ (ru g).R):=by
 rintro args H r H' ⟨n,rfl,rfl,_,_,⟨x,y,vs,v,h1,h2,W,rfl,O,Y,rfl⟩⟩;refine⟨p,λw Lc vals Q R M=> ?_⟩;have T:vs.length=2:=xY h2;have h:=rm h2;have K: ∀(x:List ByteArray×ByteArray) (y:ByteArray),PF x.1 x.2=U y->Sg.fill ⟨[0,1],[.l (.cons .s .nil),.s],[],.cons (.l (.cons .s .nil)) (.cons .s .nil)⟩ x=U ⟨ji [0,1] vs,[]⟩->kH .s (kp (.cons .s .nil) y)=U (v,[])->
   vs=[.l (.cons .s .nil) x.1,.s x.2]/\v= .s (xZ x.1 x.2)/\x.1.length<=c_/\ (xZ x.1 x.2).size<=140737488355328:=by
  rintro⟨l,S⟩ y F h q;obtain⟨d,F⟩:=iU F;injection F with F;subst F
  simp only[iI]at d;have B:kp (.cons .s .nil) (show(Cs.cons .s .nil).den from xZ l S)=[⟨.s,xZ l S⟩]:=rfl;injection h with h;injection h with hz _
  match vs,T with
  | [v0,v1],_=>
    simp only[ji,List.cons.injEq,Prod.mk.injEq,and_true,true_and]at hz;simp only[B,kH,Option.some.injEq,Prod.mk.injEq]at q;exact⟨by rw[<-hz.1,<-hz.2];rfl,q.1.symm,l9 d.1,l9 d.2⟩
 obtain⟨rfl,rfl,C,z⟩:=K x y h1 h O;have D:=M 0 (.rd 1 (x.1.map λs=>[.v (.string s)])) rfl;have E:=kI (M 1 (.v (.string x.2)) rfl);have k:vals= #[vals.getD 0 undef,.string x.2]:=by
  have V:vals.size=2:=by trivial
  apply Array.ext
  .trivial
  .intro i N _;have:i=0\/i=1:=by omega
   rcases this with rfl|rfl
   .simp[Array.getD,N]
   .simpa[Array.getD,N]using E
 subst A;have G: ∀w',Below w.heap.size w w'-> ∃v I,(Ending.returned (Value.string (xZ x.1 x.2)))= .returned v/\iv Lc w w'/\hY Lc I w.heap.size/\HR fm w' I (hf (Z n []))/\VR fm w' I v (oX (.s (xZ x.1 x.2))):=λw' d=>
  ⟨_,Lc,rfl,uu d,hY.refl _ _,Q.mono (uu d) (λb J _=>d.block b J),.v _⟩
 rw[k];refine(Yu8 L X C z D).mono ?_;rintro e w' ⟨rfl,d⟩;exact G w' d
theorem Yva{P:Program}{fm:FM}{T:iT}(S:l4 P fm T){g:Nat}(p:T.pf g=zZ)
  (G: ∀f,fm f=g->kB P f=zZ/\ ∃ρ:Ren,Lays.n156 P ρ/\Builder.Extra P ρ/\ρ.f 156=f):l4 P fm ⟨T.pf,ru g::T.fs,T.ls,0⟩:=
 Fs S (e:=ru g) p (λf h=>by obtain⟨k,ρ,K,d,q⟩:=G f h;exact Yu9 K d q k)
end Go.Abs
namespace Go.Abs
open Go Go.RowKit
def zf(l:List Nat)(f:Nat):Nat:=l.getD f 0
def CL(g:Nat):List Nat->Nat->Nat->Bool
 | [],_,_=>zZ
 |x::r,i,k=>(!(im x g)||im k i)&&CL g r i (k+1)
theorem ZZ{g i:Nat}: ∀{l:List Nat} {k:Nat},CL g l i k=zZ-> ∀f,l[f]?=U g->k+f=i
 | [],k,_,f,h=>by simp at h
 |x::r,k,h,f,H=>by
  simp only[CL,iI,rG,Bool.not_eq_true']at h;cases f with
  |zero=>
   simp at H;subst H;rcases h.1 with h1|h1
   .rw[Nat.beq_refl]at h1;cases h1
   .exact jr h1
  |succ f=>
   have:=ZZ h.2 f (by simpa using H);omega
theorem Z0{l:List Nat}{g i f:Nat}(h:CL g l i 0=zZ)(k:g≠0)(H:zf l f=g):f=i:=by
 unfold zf at H;cases d:l[f]? with
 |none=>rw[vW,d]at H;exact absurd H.symm k
 |some x=>
  rw[vW,d]at H;have H:x=g:=H;subst H;have:=ZZ h f d;omega
theorem Ly{P:Program}{fm:FM}{pf:Nat->Bool}{l:List Nat}{g i:Nat}{X:Option (Nat×List RV×i_)}(H:fm.f=zf l)(h:CL g l i 0=true:=by kernel_rfl)(d:g≠0:=by decide)(k:lk P fm pf i=X:=by kernel_rfl): ∀f,fm f=g->lk P fm pf f=X:=λf p=>by
 have:f=i:=Z0 h d (by rw[<-H];exact p);rw[this];exact k
end Go.Abs
namespace Go.Abs
open Go Go.RowKit Go.ChangeShapes Go.WideShapes Go.ChangeAt
section
variable{H:Type}{enc:TypeId×Value->H}
theorem Yvb{C:Checked}{os:Os}{f:FuncId}{F:Func}{s:OpenSpec}{k:(H:Type)->List (DataW H)->Bool}(B:s.cond=U k){d:List PathCond}{A:Bool}{X:World->Prop}(modest:Bool)(W:World)(args:Array Value)(fuel:Nat)(p:W.os=os)
  (q:(W.forCall (λ_ _=>0) ⟨#[],args,[]⟩).Shaped C.prog)
  (g:Input.okWideB C.prog (W.forCall (λ_ _=>0) ⟨#[],args,[]⟩) f ⟨#[],args,[]⟩=zZ)
  {x:List (DataW H)×List (DataW H)×List MemPlace} (D:DataW.whole enc C.prog (W.forCall (λ_ _=>0) ⟨#[],args,[]⟩).memory F.params.toList s.vars A args.toList fuel=U x)
  (h:d.all (PathCond.test C.prog ⟨F.params.toList,x.1,s.bare.plain.varTypes C.prog,x.2.1⟩)=zZ) (y:k H (x.1++x.2.1)=zZ)
  (E:X (W.forCall (λ_ _=>0) ⟨#[],args,[]⟩).memory)
  (z:s.bare.sizedB enc C.prog F A (W.forCall (λ_ _=>0) ⟨#[],args,[]⟩).memory args fuel=zZ):
  ∃(w:World) (T:Tape) (i:Input),w.os=os/\ (w.forCall T i).Shaped C.prog/\i.vars=[]/\Input.okWide C.prog (w.forCall T i) .any w.heap.size f i/\
   ((s.pre enc C.prog F d A (w.forCall T i).memory i.args/\X (w.forCall T i).memory)/\sizedMet enc C.prog F s A (w.forCall T i).memory i.args)/\ ({modest:=modest}:Assume).holds C.prog (lone (Frame.enter C.prog f i.args .normal) [] (w.forCall T i)):=
 ⟨W,λ_ _=>0,⟨#[],args,[]⟩,p,q,(Input.okWide_of_okWideB (base:=0) g).1,(Input.okWide_of_okWideB g).2,
  ⟨⟨(OpenSpec.pre_some B d A _ _).2 ⟨x.1,x.2.1,x.2.2,DataW.Whole_of_whole D,h,y⟩,E⟩,sizedMet_of_sizedB z⟩,by
  exact⟨by simp,by simp,λ_=>Modest.zero,by simp,by simp⟩⟩
end
end Go.Abs
namespace Go.Abs
open Go Go.RowKit
def wo:iN->List (Nat×i_)
 | .seq a b=>wo a++wo b
 | .cond _ a b=>wo a++wo b
 | .lF _ b=>wo b
 | .fz _ b=>wo b
 | .fa _ b=>wo b
 | .ow _ b=>wo b
 | .loop d b=>[(d,.loop b.er)]
 | .jn d b=>[(d,b.er)]
 |_=>[]
abbrev LL:=List (tx×i_)
def zg(d:Nat):LL->Option i_
 | []=>zz
 | (p,c)::r=>bif im p.id d then U c else zg d r
def oH(ls:LL)(c:iN):List (Option i_):=(wo c).map λq=>zg q.1 ls
def wq(c:iN):List (Option i_):=(wo c).map λq=>U q.2
abbrev ml(ls:LL):List tx:=ls.map Prod.fst
theorem Z1{ls:LL}{I:Nat}{e:tx}{c:i_}(h:zg I ls=U c)(H:Cf I (ml ls)=U e):(e,c)∈ls:=by
 induction ls with
 |nil=>cases h
 |cons a r g=>
  obtain⟨p,d⟩:=a;simp only[zg]at h;simp only[ml,kn,Cf]at H;grind
section
variable{Fr:Nat->Prop}{H0:ic}{C:Ctx}{pf:Nat->Bool}{fs:List hM}{kb:Nat}{ls:LL}
theorem uv(k: ∀q∈ls,xW Fr H0 kb C q.2 q.1): ∀{c:iN},oH ls c=wq c->lZ Fr H0 C ⟨pf,fs,ml ls,kb⟩ c
 | .seq a b,h=>by
   simp only[oH,wq,wo,List.map_append]at h;obtain⟨h1,h2⟩:=List.append_inj h (by simp);exact⟨uv k h1,uv k h2⟩
 | .cond _ a b,h=>by
   simp only[oH,wq,wo,List.map_append]at h;obtain⟨h1,h2⟩:=List.append_inj h (by simp);exact⟨uv k h1,uv k h2⟩
 | .lF _ b,h=>uv (c:=b) k h
 | .fz _ b,h=>uv (c:=b) k h
 | .fa _ b,h=>uv (c:=b) k h
 | .ow _ b,h=>uv (c:=b) k h
 | .loop d b,h=>λe H=>k _ (Z1 (List.cons.inj h).1 H)
 | .jn d b,h=>λe H=>k _ (Z1 (List.cons.inj h).1 H)
 | .skip,_=>trivial
 | .qx _,_=>trivial
 | .wS _ _,_=>trivial
 | .pb _,_=>trivial
 | .exit _,_=>trivial
 | .ret,_=>trivial
 | .bad,_=>trivial
inductive Lk(lo:Lo)(pf:Nat->Bool)(fs:List hM)(kb:Nat):LL->Prop
 |n:Lk lo pf fs kb []
 |l {ls:LL} {p:tx} {b:iN} (h:Lk lo pf fs kb ls) (s:p.g.c.den->Option (p.g.c.den⊕Alt p.outs)) (hF:p.F=lo.run s:=by rfl) (ok:oH ls b=wq b:=by kernel_rfl)
    (eq: ∀x,E7 ⟨pf,fs,ml ls,kb⟩ p.own p.g p.outs b x=s x:=by intro x;kernel_rfl):Lk lo pf fs kb ((p,.loop b.er)::ls)
 |j {ls:LL} {p:tx} {b:iN} (h:Lk lo pf fs kb ls) (ok:oH ls b=wq b:=by kernel_rfl) (eq: ∀x,uk ⟨pf,fs,ml ls,kb⟩ p.g p.outs b x=p.F x:=by intro x;kernel_rfl):Lk lo pf fs kb ((p,b.er)::ls)
 |r {ls:LL} {p:tx} {c:i_} (h:Lk lo pf fs kb ls) (hs: ∀C,oE ⟨pf,fs,ml ls,kb⟩ C-> ∀Fr H0,kZ Fr H0->(∀q∈ls,xW Fr H0 kb C q.2 q.1)->xW Fr H0 kb C c p):Lk lo pf fs kb ((p,c)::ls)
theorem Lk.snd{lo:Lo}(d:zb lo)(T:oE ⟨pf,fs,[],kb⟩ C)(g:kZ Fr H0)(h:Lk lo pf fs kb ls): ∀q∈ls,xW Fr H0 kb C q.2 q.1:=by
 induction h with
 |n=>simp
 |l h s F ok E I=>
  intro q H;rcases mT.1 H with rfl|H
  .exact Yuh (Fp T) g (uv I ok) (λx y h=>YuG E (d _ _ _ (by simp_all)))
  simp_all
 |j h ok E I=>
  intro q H;rcases mT.1 H with rfl|H
  .exact Yui (Fp T) g (uv I ok) (λx y h=>(E x).trans h)
  simp_all
 |r h k I=>
  intro q H;rcases mT.1 H with rfl|H
  .exact k C (Fp T) Fr H0 g I
  simp_all
theorem Lk.m{lo:Lo}{I it N M d:Nat}{k:List (Nat×Option Nat×Bool)}{G g:Sg}{O:List jL}{pre B R:iN}(h:Lk lo pf fs kb ls)
  {p:g.c.den->xX} {t:g.c.den->Int->Option g.c.den} {r:g.c.den->Option (Alt O)} {u:G.c.den->Option g.c.den} {F:G.c.den->Option (Alt O)}
  (ok:oH ls (.seq pre (.seq B R))=wq (.seq pre (.seq B R)))
  (H: ∀x,Py g it x=U (p x)) (q: ∀x b,Pz ⟨pf,fs,ml ls,kb⟩ k g it N M d B x b=t x b) (w: ∀x,CF ⟨pf,fs,ml ls,kb⟩ g N M d B R O x=r x) (z: ∀x,CG ⟨pf,fs,ml ls,kb⟩ pre k G g x=u x)
  (L:F=λx=>d' (u x) (zd p t r)):
  Lk lo pf fs kb ((⟨I,k,G,O,F⟩,.seq (.seq pre.er (.lF d (.loop (.seq (.qx [⟨U N,.px .mnxt [.t it],zz,zj,zj⟩,⟨U M,.ext (.t N) 0,zz,zj,zj⟩]) (CD M d B).er)))) R.er)::ls):=
 .r h (λC T Fr H0 A D=>by
  obtain⟨K,E,J⟩:=uv (pf:=pf) (fs:=fs) D ok;exact YuE T A K ⟨⟨trivial,trivial⟩,E⟩ J H q w z (λx y h=>YuF (by simp_all)))
end
structure GS(P:Program)(fm:FM)(pf:Nat->Bool)(fs:List hM)(lo:Lo):Prop where
 lo:zb lo
 mx:P.follows .mixedOrders=zZ
 S:l4 P fm ⟨pf,fs,[],0⟩
abbrev vh(P:Program)(fm:FM)(pf:Nat->Bool)(g:Nat)(F:kT):Prop:= ∀f,fm f=g->lk P fm pf f=U (F.lJ,F.res,F.code.er)
def zh:List Nat->List Nat->Bool
 | [],[]=>zZ
 |a::r,b::s=>im a b&&zh r s
 |_,_=>zj
theorem Z2: ∀{a b:List Nat},zh a b=zZ->a=b
 | [],[],_=>rfl
 |a::r,b::s,h=>by
  simp only[zh,iI]at h;rw[jr h.1,Z2 h.2]
 | [],_::_,h|_::_,[],h=>by cases h
def tN(pf:Nat->Bool)(p:Bool)(e:hM)(F:kT):Bool:=(match p with|true=>pf e.g|false=> !pf e.g)&& (iS F.res.length 4&& (zh e.args.ts (List.range' 0 e.args.vs.length)&&iS e.args.vs.length F.lJ))
section
variable{P:Program}{fm:FM}{pf:Nat->Bool}{fs:List hM}{lo:Lo}
theorem PG{p:Bool}{e:hM}{F:kT}(h:tN pf p e F=zZ):pf e.g=p/\F.res.length<=4/\e.args.ts=List.range' 0 e.args.vs.length/\e.args.vs.length<=F.lJ:=by
 simp only[tN,iI,Nat.ble_eq]at h;refine⟨?_,h.2.1,Z2 h.2.2.1,h.2.2.2⟩;grind
theorem GS.p(h:GS P fm pf fs lo)(e:hM){F:kT}{ls:LL}(k:Lk lo pf fs 0 ls)(t:vh P fm pf e.g F)(H:tN pf zZ e F=true:=by kernel_rfl)(ok:oH ls F.code=wq F.code:=by kernel_rfl)
  (q: ∀x,Cj ⟨pf,fs,ml ls,0⟩ F e.args e.res e.co x=e.F x:=by intro x;kernel_rfl):GS P fm pf (e::fs) lo:=by
 obtain⟨h1,h2,d,g⟩:=PG H;exact⟨h.1,h.2,Yun h.S h.mx (ml ls) e h1 F t h2 d g (λC T=>uv (k.snd h.1 (Fp T) y_) ok) (λx y h=>(q x).trans h)⟩
theorem GS.i(h:GS P fm pf fs lo)(e:hM){F:kT}{ls:LL}(k:Lk lo pf fs e.args.os.length ls)(t:vh P fm pf e.g F)(H:tN pf zj e F=true:=by kernel_rfl)(ok:oH ls F.code=wq F.code:=by kernel_rfl)
  (q: ∀x,G1 ⟨pf,fs,ml ls,e.args.os.length⟩ F e.args e.res e.os e.co x=e.F x:=by intro x;kernel_rfl):GS P fm pf (e::fs) lo:=by
 obtain⟨h1,h2,d,g⟩:=PG H;exact⟨h.1,h.2,Yus h.S h.mx (ml ls) e h1 F t h2 d g (λC T Fr H0 p=>uv (k.snd h.1 (Fp T) p) ok) (λx y h=>(q x).trans h)⟩
abbrev hM.wi(e:hM)(F:e.args.c.den->Option e.co.den):hM:=⟨e.g,e.pf,e.args,e.res,e.os,e.co,F⟩
theorem GS.pr(h:GS P fm pf fs lo)(e:hM){F:kT}(d:Nat->e.args.c.den->Option e.co.den){ls:(e.args.c.den->Option e.co.den)->LL}(k: ∀r,Lk lo pf (e.wi r::fs) 0 (ls r))(t:vh P fm pf e.g F)(g:tN pf zZ e F=zZ)
  (h0: ∀x,d 0 x=zz) (p:e.F=λx=>lo.run (sy d) (0,x)) (ok: ∀r,oH (ls r) F.code=wq F.code) (q: ∀n x,Cj ⟨pf,e.wi (d n)::fs,ml (ls (d n)),0⟩ F e.args e.res e.co x=d (n+1) x):GS P fm pf (e::fs) lo:=by
 obtain⟨h1,h2,w,z⟩:=PG g;exact⟨h.1,h.2,Yuo h.S h.mx e h1 d (λn=>ml (ls (d n))) F t h2 w z h0 (λx y H=>YuI (h.1 _ _ _ (by rw[p]at H;exact H))) (λn C T=>uv ((k (d n)).snd h.1 (Fp T) y_) (ok _)) (λn x y h=>(q n x).trans h)⟩
end
end Go.Abs
namespace Go.Abs
open Go Go.RowKit
def x_(P:Program):Nat->TypeId->List Ty
 |0,_=>[]
 |d+1,t=>match P.underlying t with
  |some .bool=>[.b]
  |some (.int k)=>[.i k]
  |some .string=>[.s]
  |some (.slice e)=>[.l (cs (x_ P d e))]
  |some (.struct fs)=>fs.toList.flatMap λf=>x_ P d f.type
  |some (.array n e)=>(List.replicate n (x_ P d e)).flatten
  |_=>[.b]
def Hp(P:Program):Option TypeId->List Ty
 |some t=>x_ P 12 t
 |none=>[]
def Z3:Ty->Value->K1
 |_,.int k n=>.i k n
 |_,.bool x=>.b x
 |_,.string x=>.s x
 | .l c,.slice zz 0 0=>.e c
 |_,.pointer zz=>.nl
 |_,v=>.v v
def Z4:AV->Value
 | .v x=>x
 | .emp=>.slice zz 0 0
 |_=>.nilIface
def vj:List Value->List Ty->List K1
 |v::vs,t::ts=>Z3 t v::vj vs ts
 |v::vs,[]=>Z3 .b v::vj vs []
 | [],_=>[]
def zi(P:Program)(ty:Option TypeId):iY->iq
 | .t n=>.t n
 | .c (.v (.int k n))=>.c (.one (.i k n))
 | .c (.v (.bool x))=>.c (.one (.b x))
 | .c (.v (.string x))=>.c (.one (.s x))
 | .c .emp=>match Hp P ty with
   | [.l c]=>.c (.one (.e c))
   |_=>.c (.one .nl)
 | .c (.clo f _)=>.c (.f f)
 | .c (.rd _ l)=>.c (.ls (l.map λe=>match e with| [.v (.string x)]=>x|_=>⟨#[]⟩))
 | .c (.agg cs)=>.c (.ag (vj (cs.map Z4) (Hp P ty)))
 | .c (.iZ cs)=>.c (.tp (vj (cs.map Z4) []))
 | .c (.v (.pointer zz))=>.c (.one .nl)
 | .c (.v x)=>.c (.v x)
 |_=>.c (.one .nl)
def CM(P:Program)(o:Oper)(n:Nat):Option TypeId:=
 match o.op with
 | .move _| .assign _=>U o.type
 | .pick .. =>match n with|0=>zz|_=>U o.type
 | .box e _=>U e
 | .build t d=>match P.underlying t with
   |some (.struct fs)=>(d[n]?).bind λp=>(fs[p.1]?).map (·.type)
   |some (.array _ e)=>U e
   |_=>zz
 | .buildSlice t _ _=>match P.underlying t with|some (.slice e)=>U e|_=>zz
 | .store t _ _=>match n with|1=>U t|_=>zz
 | .binOp _ t _ _ _=>U t
 | .call c=>c.argTypes[n]?
 | .slice t .. =>U t
 | .field t .. =>U t
 | .indexAddr t .. =>U t
 | .convert s _ _=>U s
 | .lookup t .. =>match P.underlying t,n with|some (.map k _),1=>U k|_,_=>zz
 | .mapUpdate t .. | .insert t .. =>match P.underlying t,n with
   |some (.map k _),1=>U k
   |some (.map _ e),2=>U e
   |_,_=>zz
 |_=>zz
def zk(P:Program)(o:Oper):Cs:=
 match o.op with
 | .buildSlice t .. | .makeSlice t .. =>match P.underlying t with|some (.slice e)=>cs (x_ P 12 e)|_=>.nil
 | .call c=>match(c.argTypes[0]?).bind P.underlying with|some (.slice e)=>cs (x_ P 12 e)|_=>.nil
 |_=>.nil
def zT(P:Program)(o:Oper):List Ty:=
 match o.op with
 | .alloc t| .build t _=>x_ P 12 t
 |_=>[]
def xg(P:Program)(it:List (Nat×TypeId))(o:Oper):Option IntKind×Ty×Cs×Bool:=
 match(match o.op with
  | .makeMap t _| .lookup t _ _ _| .mapUpdate t _ _ _| .insert t _ _ _| .range t _=>U t
  | .entry (.tmp i)=>(it.find? λp=>im p.1 i).map (·.2)
  | .call c=>c.argTypes[0]?
  |_=>zz)with
 |some t=>match P.underlying t with
  |some (.map k e)=>match x_ P 12 e with
   |v::vs=>(match x_ P 12 k with| [.i q]=>U q|_=>zz,v,cs vs,match kc P e with|some b=>b|none=>zj)
   | []=>(zz,.b,.nil,zj)
  |_=>(zz,.b,.nil,zj)
 |none=>(zz,.b,.nil,zj)
def Z5:List (String×Nat)->String->Nat->Bool
 | [],_,_=>zj
 |p::r,s,n=>(im p.2 n&&p.1==s)||Z5 r s n
def Hq(P:Program)(o:Oper):List (Nat×Nat×iY)->Nat->List (Nat×Nat×iq)
 | [],_=>[]
 | (a,b,y)::r,n=>(a,b,zi P (CM P o n) y)::Hq P o r (n+1)
def Z6(P:Program)(o:Oper):List iY->Nat->List iq
 | [],_=>[]
 |y::r,n=>zi P (CM P o n) y::Z6 P o r (n+1)
def Z7(P:Program)(W:Cs->Nat)(H:List (String×Nat))(it:List (Nat×TypeId))(o:Oper)(O:jA):qE:=
 let x (n:Nat) (a:iY):=zi P (CM P o n) a;let xs (l:List iY):=Z6 P o l 0;let h (n:Nat):=Z5 H o.pos n
 match O with
 | .pv (.mm b) l=>.mm b (xs l)
 | .pv .emz [a,b,c,d]=>.emz (x 0 a) (x 1 b) (x 2 c) (x 3 d)
 | .pv (.sl3 n) [a,b,c,d]=>.sl3 n (x 0 a) (x 1 b) (x 2 c) (x 3 d)
 | .pv (.isi g) [a]=>.isi g (x 0 a)
 | .pv (.isp g) [a]=>.isp g (x 0 a)
 | .pv .sbyt [a]=>.sbyt (x 0 a)
 | .pv .add64 l=>.add64 (xs l)
 | .pv .sub64 l=>.sub64 (xs l)
 | .mv a=>bif h 0 then .mvp (x 0 a)else .mv (x 0 a)
 | .pick c a b=>.pick (x 0 c) (x 1 a) (x 2 b)
 | .box a=>.box (x 0 a)
 | .alloc z=>.alloc (vj z (zT P o))
 | .build z w=>.build (vj z (zT P o)) (Hq P o w 0)
 | .bsl _ _ n w=>bif h 2 then .bslT (zk P o) n (w.map λp=>(p.1,x 0 p.2))else .bsl (zk P o) n (w.map λp=>(p.1,x 0 p.2))
 | .load g n a=>.load g n (x 0 a)
 | .loadR g n a=>.loadR g n (x 0 a)
 | .store n a b=>.store n (x 0 a) (x 1 b)
 | .nilc a=>.nilc (x 0 a)
 | .bin O a b=>.bin O (x 0 a) (x 1 b)
 | .beq n a b=>.beq n (x 0 a) (x 1 b)
 | .eqa n K a b=>.eqa n K (x 0 a) (x 1 b)
 | .not a=>.not (x 0 a)
 | .neg a=>.neg (x 0 a)
 | .conv k a=>.conv k (x 0 a)
 | .cvs a=>.cvs (x 0 a)
 | .fad n a=>.fad n (x 0 a)
 | .fld g n m a=>.fld g n m (x 0 a)
 | .iad n a i=>.iad n (x 0 a) (x 1 i)
 | .iada n m a i=>.iada n m (x 0 a) (x 1 i)
 | .idx a i=>.idx (x 0 a) (x 1 i)
 | .slcS a l u=>.slcS (x 0 a) (l.map (x 1)) (u.map (x 1))
 | .slcR n a l u=>.slcR n (x 0 a) (l.map (x 1)) (u.map (x 1))
 | .ext a i=>.ext (x 0 a) i
 | .len a=>.len (x 0 a)
 | .lenS a=>.lenS (x 0 a)
 | .app _ a b=>.app (zk P o) (W (zk P o)) (x 0 a) (x 0 b)
 | .mksl _ _ n c=>.mksl (zk P o) (W (zk P o)) (x 9 n) (x 9 c)
 | .call f l=>bif h 1 then .callF f (xs l)else .call f (xs l)
 | .dyn a l=>.dyn (x 99 a) (xs l)
 | .dynP a l=>.dynP (x 99 a) (xs l)
 | .callN f l d=>.callN f (xs l) d
 | .mkf f l=>.mkf f (xs l)
 | .px (.lit _) l=>.lit (zk P o) (l.map (x 0))
 | .px .litb l=>.litb (l.map (x 0))
 | .px (.appD _) [a,b]=>.appD (zk P o) (x 0 a) (x 0 b)
 | .px .appDb [a,b]=>.appDb (x 0 a) (x 0 b)
 | .px .appb [a,b]=>.appb (x 0 a) (x 0 b)
 | .px .apps [a,b]=>.apps (x 0 a) (x 1 b)
 | .px .bstr [a]=>.bstr (x 0 a)
 | .px .bld []=>.bld
 | .px .mnxt [a]=>.mnxt (x 0 a)
 | .px .mlen [a]=>.mlen (x 0 a)
 | .px .mrng [a]=>.mrng (x 0 a)
 | .px (.ixa n) [a,b]=>.ixa (match o.op with| .index t _ _=>(x_ P 12 t).headD .b|_=>.b) n (x 0 a) (x 1 b)
 | .px (.cpy _) [a,b]=>.cpy (zk P o) (x 0 a) (x 1 b)
 | .px (.mkm ..) []=>match xg P it o with
   | (q,t,V,g)=>bif h 3 then(match t with| .l c=>.mkmF q c|_=>.mkm q t V g)else .mkm q t V g
 | .px (.mget _ _ ok) [a,b,_]=>match xg P it o with| (q,t,V,g)=>.mget q t V g ok (x 0 a) (x 1 b)
 | .px (.mput ..) [a,b,d]=>match xg P it o with| (q,t,V,g)=>.mput q t V g (x 0 a) (x 1 b) (x 2 d)
 | .px (.mdel ..) [a,b]=>match xg P it o with| (q,t,V,_)=>.mdel q t V (x 0 a) (x 1 b)
 | .px .ment [a]=>match xg P it o with| (q,t,V,g)=>.ment q t V g (x 0 a)
 |_=>.bld
def xh(is:List AI)(t:Nat):Option AI:=is.find? λi=>match i.dst with|some d=>im d t|none=>zj
def Hr(is:List AI):Nat->Nat->Option Nat
 |0,_=>zz
 |n+1,t=>match xh is t with
  |none=>U t
  |some i=>match i.op with
   | .fad _ (.t y)| .nilc (.t y)| .mv (.t y)=>Hr is n y
   |_=>zz
def LA(is:List AI):Nat->Nat->Option Nat
 |0,_=>zz
 |n+1,t=>match xh is t with
  |none=>U t
  |some i=>match i.op with
   | .fad _ (.t y)| .nilc (.t y)| .mv (.t y)| .iad _ (.t y) _=>LA is n y
   | .load zj 1 (.t y)=>match xh is y with
     |none=>U (y+1000000)
     |some j=>match j.op with
      | .fad O (.t z)=>(Hr is 8 z).map (· +1000000*(O+1))
      | .mv (.t z)=>(Hr is 8 z).map (· +1000000)
      |_=>zz
   |_=>zz
def addN(l:List Nat)(a:Nat):List Nat:=bif l.any (im a)then l else l++[a]
def xi(l:List Nat):Option Nat->List Nat
 |some a=>addN l a
 |none=>l
def Z8(is:List AI):Nat->Nat->Option Nat
 |0,_=>zz
 |n+1,t=>match xh is t with
  |none=>U t
  |some i=>match i.op with
   | .fad _ (.t y)| .nilc (.t y)| .mv (.t y)| .iad _ (.t y) _| .load _ _ (.t y)=>Z8 is n y
   |_=>zz
def Hs(is:List AI):List Nat:=
 let s:=is.foldl (λs i=>match i.nw with
  |true=>match i.op with
   | .store _ (.t x) _=>xi s (LA is 8 x)
   | .app _ (.t x) _=>xi s (Hr is 8 x)
   | .px p (.t x::_)=>bif js 0 p.look then xi s (LA is 8 x)else s
   |_=>s
  |false=>s) []
 let c:=is.foldl (λs i=>match i.nw with
  |true=>match i.op with
   | .call _ xs=>xs.foldl (λs a=>match a with
     | .t x=>match xh is x with
       |some i=>match i.op with
        | .px (.mget ..) (.t m::_)=>xi s (LA is 8 m)
        |_=>match Hr is 8 x with
         |some z=>addN s (z+1000000000000)
         |none=>xi s ((Z8 is 8 x).map (· +2000000000000))
       |none=>addN s (x+1000000000000)
     |_=>s) s
   |_=>s
  |false=>s) []
 s++c
inductive Wr where
 |f (ts:List Nat)
 |a (ts:List Nat)
 |o (ws:List (Nat×Option Nat×Bool))
 |j (id:Nat)
def vk:List Wr->iN->iN
 | [],c=>c
 | .f ts::r,c=>.fz ts (vk r c)
 | .a ts::r,c=>.fa ts (vk r c)
 | .o ws::r,c=>.ow ws (vk r c)
 | .j d::r,c=>.jn d (vk r c)
def rv:List (Nat×List Wr)->Nat->List Wr
 | [],_=>[]
 | (k,w)::r,p=>bif im k p then w else rv r p
section
variable(P:Program)(W:Cs->Nat)(H:List (String×Nat))(it:List (Nat×TypeId))(A:List (Nat×List Wr))(R:List Wr)(al:Array Oper->List (List (Nat×AI)))
def CN:List Oper->List AI->List VI
 |o::os,i::is=>⟨i.dst,Z7 P W H it o i.op,i.guard,i.old,i.nw⟩::CN os is
 |_,_=>[]
def CO(O:Array Oper):List (Nat×AI)->List VI
 | []=>[]
 |p::r=>match O[p.1]? with
  |some o=>⟨p.2.dst,Z7 P W H it o p.2.op,p.2.guard,p.2.old,p.2.nw⟩::CO O r
  |none=>CO O r
def CP:i_->Nat->Code->iN
 | .lF d b,p,c=>match c with
   | .block _ c=>.lF d (CP b p c)
   |_=>.bad
 | .qx is,p,c=>match c with
   | .region _ O _=>vk (rv A p) (match Hs is with
     | []=>.qx (CN P W H it O.toList is)
     |N=>.wS N (CN P W H it O.toList is))
   |_=>.bad
 | .pb _,p,c=>match c with
   | .region _ O _=>vk (rv A p) (.pb ((al O).map λl=>(Hs (l.map Prod.snd),CO P W H it O l)))
   |_=>.bad
 | .seq a b,p,c=>match c with
   | .seq x y=>vk (rv A p) (.seq (CP a (2*p) x) (CP b (2*p+1) y))
   |_=>.bad
 | .cond t a b,p,c=>match c with
   | .cond _ x y=>vk (rv A p) (.cond (zi P zz t) (CP a (2*p) x) (CP b (2*p+1) y))
   |_=>.bad
 | .loop a,p,c=>match c with
   | .loop x=>vk (rv A p) (.loop p (CP a (2*p) x))
   |_=>.bad
 | .skip,p,_=>vk (rv A p) .skip
 | .exit d,p,_=>vk (rv A p) (.exit d)
 | .ret,p,_=>vk (rv A p) (vk R .ret)
 | .bad,_,_=>.bad
end
def PH:RV->Nat
 | .t n=>n
 | .c n _ _=>n
def fnV(P:Program)(fm:FM)(pf:Nat->Bool)(W:Cs->Nat)(H:List (String×Nat))(it:List (Nat×TypeId))(f:Nat)(A:List (Nat×List Wr))(R:Option (List Wr)):kT:=
 match P.funcs[f]?,lk P fm pf f with
 |some F,U (n,ts,d)=>match F.body with
  |some c=>⟨zZ,n,ts,CP P W H it A (match R with|some R=>R|none=>[.f (ts.map PH)]) (λO=>match VH fm O with
   |some f=>match J4 P fm pf F.ntmps O f with
    |some l=>l
    |none=>[]
   |none=>[]) d 1 c⟩
  |none=>⟨zZ,0,[],.bad⟩
 |_,_=>⟨zZ,0,[],.bad⟩
def Ft(p:Nat):iN->Option iN
 | .seq a b| .cond _ a b=>match Ft p a with
   |some c=>U c
   |none=>Ft p b
 | .lF _ b| .fz _ b| .fa _ b| .ow _ b=>Ft p b
 | .jn d b=>bif im d p then U b else Ft p b
 | .loop d b=>bif im d p then U b else Ft p b
 |_=>zz
def jf(F:kT)(p:Nat):iN:=match Ft p F.code with
 |some c=>c
 |none=>.bad
abbrev SV.j:SV:=.i .i64
mutual
def Fu:SV->List Ty
 | .i k=>[.i k]
 | .b=>[.b]
 | .ef=>[.b]
 | .s=>[.s]
 | .l c=>[.l c]
 | .pre _=>[I]
 | .ag l=>Fv l
 | .tp l=>Fv l
 | .clo _ l=>Fv l
 |_=>[]
def Fv:List SV->List Ty
 | []=>[]
 |a::r=>Fu a++Fv r
end
def yb:List SO->List Ty
 | []=>[]
 | .sq c::r=>.l c::yb r
 | .fm A _ c::r=>.l (sn c A)::yb r
 | .fp o c::r=>I:: .l (iE o (.l c) .nil)::yb r
 | .st l::r=>Fv l++yb r
 | .sb::r=>.s::yb r
 | .dd::r=>yb r
abbrev ik(t:List Nat)(v:List SV)(o:List SO):Sg:=⟨t,v,o,cs (Fv v++yb o)⟩
abbrev iL(g:Nat)(p:Bool)(a:Sg)(r:SV)(o:List SO)(F:a.c.den->Option (cs (Fu r++yb o)).den):hM:=⟨g,p,a,r,o,_,F⟩
section
variable{A B C D E F G H I R:Type}
abbrev u2(f:A->B->R)(x:A×B):R:=f x.1 x.2
abbrev u3(f:A->B->C->R)(x:A×B×C):R:=f x.1 x.2.1 x.2.2
abbrev u4(f:A->B->C->D->R)(x:A×B×C×D):R:=f x.1 x.2.1 x.2.2.1 x.2.2.2
abbrev u5(f:A->B->C->D->E->R)(x:A×B×C×D×E):R:=f x.1 x.2.1 x.2.2.1 x.2.2.2.1 x.2.2.2.2
abbrev u6(f:A->B->C->D->E->F->R)(x:A×B×C×D×E×F):R:=f x.1 x.2.1 x.2.2.1 x.2.2.2.1 x.2.2.2.2.1 x.2.2.2.2.2
abbrev u7(f:A->B->C->D->E->F->G->R)(x:A×B×C×D×E×F×G):R:=f x.1 x.2.1 x.2.2.1 x.2.2.2.1 x.2.2.2.2.1 x.2.2.2.2.2.1 x.2.2.2.2.2.2
abbrev u8(f:A->B->C->D->E->F->G->H->R)(x:A×B×C×D×E×F×G×H):R:=f x.1 x.2.1 x.2.2.1 x.2.2.2.1 x.2.2.2.2.1 x.2.2.2.2.2.1 x.2.2.2.2.2.2.1 x.2.2.2.2.2.2.2
abbrev u9(f:A->B->C->D->E->F->G->H->I->R)(x:A×B×C×D×E×F×G×H×I):R:=f x.1 x.2.1 x.2.2.1 x.2.2.2.1 x.2.2.2.2.1 x.2.2.2.2.2.1 x.2.2.2.2.2.2.1 x.2.2.2.2.2.2.2.1 x.2.2.2.2.2.2.2.2
end
end Go.Abs
namespace Go.Abs
open Go
structure Fw where
 lp:Bool
 id:Nat
 own:List (Nat×Option Nat×Bool)
 g:Sg
 outs:List jL
section
variable(lo:Lo)(pf:Nat->Bool)(fs:List hM)(kb:Nat)(F:kT)
def yc:List Fw->LL
 | []=>[]
 |d::r=>match d.lp with
  |true=>(⟨d.id,d.own,d.g,d.outs,lo.run (E7 ⟨pf,fs,ml (yc r),kb⟩ d.own d.g d.outs (jf F d.id))⟩,.loop (jf F d.id).er)::yc r
  |false=>(⟨d.id,d.own,d.g,d.outs,uk ⟨pf,fs,ml (yc r),kb⟩ d.g d.outs (jf F d.id)⟩,(jf F d.id).er)::yc r
def LB:List Fw->Prop
 | []=>True
 |d::r=>oH (yc lo pf fs kb F r) (jf F d.id)=wq (jf F d.id)/\LB r
theorem LC: ∀{ds:List Fw},LB lo pf fs kb F ds->Lk lo pf fs kb (yc lo pf fs kb F ds)
 | [],_=>.n
 | ⟨zZ,I,d,g,O⟩::r,h=>.l (p:=⟨I,d,g,O,_⟩) (b:=jf F I) (LC h.2) _ rfl h.1 λ_=>rfl
 | ⟨zj,I,d,g,O⟩::r,h=>.j (p:=⟨I,d,g,O,_⟩) (b:=jf F I) (LC h.2) h.1 λ_=>rfl
end
section
variable(lo:Lo)(pf:Nat->Bool)(F:kT)(g:Nat)(a:Sg)(res:SV)(os:List SO)(ds:List Fw)(fs:List hM)
def nh:hM:=⟨g,zZ,a,res,[],cs (Fu res),Cj ⟨pf,fs,ml (yc lo pf fs 0 F ds),0⟩ F a res (cs (Fu res))⟩
def nW:hM:=⟨g,zj,a,res,os,cs (Fu res++yb os),G1 ⟨pf,fs,ml (yc lo pf fs a.os.length F ds),a.os.length⟩ F a res os (cs (Fu res++yb os))⟩
end
section
variable{P:Program}{fm:FM}{pf:Nat->Bool}{fs:List hM}{lo:Lo}
theorem GS.aP(h:GS P fm pf fs lo){F:kT}{g:Nat}{a:Sg}{res:SV}{ds:List Fw}(t:vh P fm pf g F)(k:LB lo pf fs 0 F ds)
  (H:tN pf zZ (nh lo pf F g a res ds fs) F=true:=by kernel_rfl) (ok:oH (yc lo pf fs 0 F ds) F.code=wq F.code:=by kernel_rfl):GS P fm pf (nh lo pf F g a res ds fs::fs) lo:=
 h.p (nh lo pf F g a res ds fs) (LC lo pf fs 0 F k) t H ok λ_=>rfl
theorem GS.aI(h:GS P fm pf fs lo){F:kT}{g:Nat}{a:Sg}{res:SV}{os:List SO}{ds:List Fw}(t:vh P fm pf g F)(k:LB lo pf fs a.os.length F ds)
  (H:tN pf zj (nW lo pf F g a res os ds fs) F=true:=by kernel_rfl) (ok:oH (yc lo pf fs a.os.length F ds) F.code=wq F.code:=by kernel_rfl):GS P fm pf (nW lo pf F g a res os ds fs::fs) lo:=
 h.i (nW lo pf F g a res os ds fs) (LC lo pf fs a.os.length F k) t H ok λ_=>rfl
end
end Go.Abs
namespace Go.Abs
open Go Go.RowKit Go.Shelf Go.Proofs
def CQ(s:ByteArray)(c:Int):Int:=Lib.indexByte s.data.toList c.toNat.toUInt8
def AQ(g:Nat):hM:=⟨g,zZ,⟨[0,1],[.s,.i .u8],[],.cons .s (.cons (.i .u8) .nil)⟩,.i .i64,[],.cons (.i .i64) .nil,λ(p:ByteArray×Int)=>U (CQ p.1 p.2)⟩
def PI(s t:ByteArray):Option Int:=match t.data.toList with
 | [c]=>U (Lib.countByte s.data.toList c)
 |_=>zz
def AR(g:Nat):hM:=⟨g,zZ,⟨[0,1],[.s,.s],[],.cons .s (.cons .s .nil)⟩,.i .i64,[],.cons (.i .i64) .nil,λ(p:ByteArray×ByteArray)=>PI p.1 p.2⟩
theorem Yvc{P:Program}{fm:FM}{T:iT}(S:l4 P fm T){g:Nat}(p:T.pf g=zZ)(G: ∀f,fm f=g->kB P f=zZ/\ ∃ρ:Ren,Lays.n137 P ρ/\ρ.f 137=f):l4 P fm ⟨T.pf,AQ g::T.fs,T.ls,0⟩:=
 Fs S p λf d=>by
  obtain⟨H,ρ,L,rfl⟩:=G f d;refine ZH H ?_;rintro args r ⟨x,y,vs,v,h1,h2,F,rfl,q,I,rfl⟩;have z:vs.length=2:=xY h2;have h:=rm h2;have k: ∀(x:ByteArray×Int) (y:Int),U (CQ x.1 x.2)=U y->Sg.fill ⟨[0,1],[.s,.i .u8],[],.cons .s (.cons (.i .u8) .nil)⟩ x=U ⟨ji [0,1] vs,[]⟩->kH (.i .i64) (kp (.cons (.i .i64) .nil) y)=U (v,[])->
    vs=[.s x.1,.i .u8 x.2]/\v= .i .i64 (CQ x.1 x.2):=by
   rintro⟨a,b⟩ y E A B;injection E with E;subst E
   refine⟨PC z A,?_⟩;have:U (TV.i .i64 (CQ a b),([]:List Lf))=U (v,[]):=B;simp_all
  obtain⟨rfl,rfl⟩:=k x y h1 h q;exact⟨[.string (show ByteArray×Int from x).1,.int .u8 (show ByteArray×Int from x).2],.int .i64 (CQ (show ByteArray×Int from x).1 (show ByteArray×Int from x).2),rfl,rfl,λw=>
   (Any.strings_IndexByte L _ _ w).mono λe w' ⟨C,D⟩=>⟨C,D▸Below.refl _ _⟩⟩
theorem Yvd{P:Program}{fm:FM}{T:iT}(S:l4 P fm T){g:Nat}(p:T.pf g=zZ)(G: ∀f,fm f=g->kB P f=zZ/\ ∃ρ:Ren,Lays.n138 P ρ/\ρ.f 138=f):l4 P fm ⟨T.pf,AR g::T.fs,T.ls,0⟩:=
 Fs S p λf d=>by
  obtain⟨H,ρ,L,rfl⟩:=G f d;refine ZH H ?_;rintro args r ⟨x,y,vs,v,h1,h2,F,rfl,q,I,rfl⟩;have z:vs.length=2:=xY h2;have h:=rm h2;have k: ∀(x:ByteArray×ByteArray) (y:Int),PI x.1 x.2=U y->Sg.fill ⟨[0,1],[.s,.s],[],.cons .s (.cons .s .nil)⟩ x=U ⟨ji [0,1] vs,[]⟩->kH (.i .i64) (kp (.cons (.i .i64) .nil) y)=U (v,[])->
    ∃c,x.2=⟨#[c]⟩/\vs=[.s x.1,.s ⟨#[c]⟩]/\v= .i .i64 (Lib.countByte x.1.data.toList c):=by
   rintro⟨a,⟨⟨b⟩⟩⟩ y E A B;have J:U (TV.i .i64 y,([]:List Lf))=U (v,[]):=B
   match b,E with
   | [c],E=>
     injection E with E
     refine⟨c,rfl,PC z A,?_⟩;simp_all
  obtain⟨c,K,rfl,rfl⟩:=k x y h1 h q;exact⟨[.string (show ByteArray×ByteArray from x).1,.string ⟨#[c]⟩],.int .i64 (Lib.countByte (show ByteArray×ByteArray from x).1.data.toList c),rfl,rfl,λw=>
   (Any.strings_Count_one L _ c w).mono λe w' ⟨C,D⟩=>⟨C,D▸Below.refl _ _⟩⟩
end Go.Abs
namespace Go.Abs
open Go Go.RowKit Go.Shelf Go.Proofs
theorem Z9{P:Program}{fm:FM}{f:FuncId}{R:List AV->AV->Prop}(d:kB P f=zZ)
  (h: ∀args r,R args r-> ∃(xs:List Value) (x:Value),args=xs.map AV.v/\r= .v x/\ ∀w,rf fm w->Calls P f xs.toArray w λe w'=>e= .returned x/\Below w.heap.size w w'):qc P fm f (q_ R):=by
 rintro args H r H' ⟨n,rfl,rfl,_,_,y⟩;refine⟨d,λw L vs q z A=> ?_⟩;obtain⟨xs,x,rfl,rfl,B⟩:=h _ _ y;have:vs=xs.toArray:=by
  apply Array.ext
  .simp_all
  .intro i h1 h2;have D:i<xs.length:=by trivial
   have:=A i (.v xs[i]) (by simp);have:=kI this;simp_all
 subst this;refine(B w λp C=>(q.tab p C).2).mono ?_;rintro e w' ⟨rfl,g⟩;exact⟨x,L,rfl,uu g,hY.refl _ _,q.mono (uu g) (λb k _=>g.block b k),.v x⟩
def pC(n:Int):ByteArray:=⟨(Lib.itoa n).toArray⟩
def LD(n b:Int):Option ByteArray:=bif decide (-9223372036854775808<=n)&&decide (n<=9223372036854775807)&&decide (b=10)then U (pC n)else zz
def uw(g:Nat):hM:=⟨g,zZ,⟨[0,1],[.i .i64,.i .i64],[],.cons (.i .i64) (.cons (.i .i64) .nil)⟩,.s,[],.cons .s .nil,λ(p:Int×Int)=>LD p.1 p.2⟩
def wu:Array Value:=(Lib.pow10Tab.map λz=>Value.int .u64 z).toArray
theorem Yve{P:Program}{fm:FM}{f:FuncId}{g:Nat}{ρ:Ren}(L:LaysM.n173 P ρ)(d:ρ.f 173=f)(H:kB P f=zZ){q:Array Value->Prop}(A:(ρ.g 17,q)∈fm.tb)(B: ∀c,q c->c=wu):qc P fm f (q_ (uw g).R):=by
 refine Z9 H ?_;rintro args r ⟨x,y,vs,v,h1,h2,z,rfl,C,T,rfl⟩;have D:vs.length=2:=xY h2;have h:=rm h2;have K: ∀(x:Int×Int) (y:ByteArray),LD x.1 x.2=U y->Sg.fill ⟨[0,1],[.i .i64,.i .i64],[],.cons (.i .i64) (.cons (.i .i64) .nil)⟩ x=U ⟨ji [0,1] vs,[]⟩->kH .s (kp (.cons .s .nil) y)=U (v,[])->
   vs=[.i .i64 x.1,.i .i64 10]/\v= .s (pC x.1)/\ -9223372036854775808<=x.1/\x.1<=9223372036854775807:=by
  rintro⟨a,b⟩ y E F G;obtain⟨e0,E⟩:=iU E;injection E with E;subst E
  simp at e0;obtain⟨⟨I,J⟩,M⟩:=e0;subst M;refine⟨PC D F,?_,I,J⟩;have:U (TV.s (pC a),([]:List Lf))=U (v,[]):=G;simp_all
 obtain⟨rfl,rfl,N,O⟩:=K x y h1 h C;refine⟨[.int .i64 (show Int×Int from x).1,.int .i64 10],.string (pC (show Int×Int from x).1),rfl,rfl,λw p=> ?_⟩;subst d;refine(Any.strconv_FormatInt_10 L _ N O w (by
  obtain⟨c,t,f,Q,z⟩:=p _ A;obtain rfl:=B c Q;simp only[Lib.TabIs,World.var?,L.m17,pK,z,wu])).mono λe w' ⟨R,k,os,S⟩=>⟨R,?_⟩
 subst S;exact Lib.below_grow _ _ (jG _) _ _
theorem Yvf{P:Program}{fm:FM}{T:iT}(S:l4 P fm T){g:Nat}(p:T.pf g=zZ)
  (G: ∀f,fm f=g->kB P f=zZ/\ ∃ρ:Ren,LaysM.n173 P ρ/\ (∃q,(ρ.g 17,q)∈fm.tb/\ ∀c,q c->c=wu)/\ρ.f 173=f):l4 P fm ⟨T.pf,uw g::T.fs,T.ls,0⟩:=
 Fs S (e:=uw g) p (λf h=>by obtain⟨k,ρ,K,⟨q,d,w⟩,y⟩:=G f h;exact Yve K y k d w)
theorem Yvg{P:Program}{W:World}{name:String}{k:IntKind}{Z:List Int}{g:Nat}(H:P.globalNamed name=U g)(h:Lib.TabIs P W name k Z): ∃c t f,(c=(Z.map λz=>Value.int k z).toArray)/\W.heap[g]?=U (.cells c t f):=by
 unfold Lib.TabIs World.var? at h;grind
end Go.Abs
namespace Go.Abs
open Go Go.RowKit Go.Shelf Go.Proofs Go.Lib
structure ry(P:Program)(ρ:Ren)(z:List Value):Prop where
 mixed:P.follows .mixedOrders=zZ
 f22:Bears P (ρ.f 22) (Body2.n22 ρ)
 f29: ∃fn:Func,P.funcs[ρ.f 29]?=U fn/\ (fn.name== "runtime.NumGoroutine")=zj/\fn.body.isNone=zZ/\Extern.findNext fn=zz/\Extern.find fn=U (Extern.SlicesOverlaps.overlaps #[(ρ.t 24),(ρ.t 24)] #[(ρ.t 4)])
 t0:P.underlying (ρ.t 0)=U (TypeDesc.tuple #[])
 t3:P.underlying (ρ.t 3)=U (TypeDesc.int IntKind.i64)
 t4:P.underlying (ρ.t 4)=U TypeDesc.bool
 t24:P.underlying (ρ.t 24)=U (TypeDesc.slice (ρ.t 9))
 z3:jU P (ρ.t 3)=U 1
 z4:jU P (ρ.t 4)=U 1
 z24:jU P (ρ.t 24)=U 1
 z9:nG P (ρ.t 9)=U z
section
variable{P:Program}{ρ:Ren}{z:List Value}
theorem LF(w:World){t ty e:TypeId}{es:Nat}(y:P.underlying t=U (.slice e))(z:jU P e=U es){g o dLen d:Nat}{cur:Array Value}{B:TypeId}(A:w.heap[g]?=U (.cells cur B (0,0)))
  {a:Addr} {sLen p n:Nat} {cs:List Value} (C:n=Nat.min sLen dLen) (D:cs.length=n*es) (h: ∀j v,cs[j]?=U v->w.cell? (a.add j)=U v) (q:o+cs.length<=cur.size) (h1: ∀v∈cs,v.oneCell'=zZ):
  (Builtin.copy_ #[t,t] ty #[.slice (U ⟨g,o,zz⟩) dLen d,.slice (U a) sLen p]).run P w= .ok (goInt n) (w.setRow g (cur.toList.take o++cs++cur.toList.drop (o+cs.length)).toArray):=by
 have H:=run_firstCells_some (P:=P) w es n a sLen p cs D h;have k:=run_storeCells_at P g o B cs 0 cur w A (by omega) h1;simp[Builtin.copy_,run_underlying y,Builtin.lenOf,pj z,Result.andThen,<-C,H,k,goInt]
theorem Yvh(w:World)(T R e:TypeId)(A:P.underlying T=U (.slice e)){S:Nat}(C:jU P e=U S)(a b:Addr)(L I g J:Nat)(K:a.block≠b.block){cur cur':Array Value}{D B:TypeId}{fr:Nat×Nat}
  (M:w.heap[a.block]?=U (.cells cur' B fr)) (F:w.heap[b.block]?=U (.cells cur D (0,0))) (N:cur.size≠0) (G:cur'.size≠0):
  (Extern.SlicesOverlaps.overlaps #[T,T] #[R] #[.slice (U a) L I,.slice (U b) g J]).run P w= .ok (.bool zj) w:=by
 have p:(a.block !=b.block)=true:=by simp_all
 have h:(a.block==b.block)=false:=by simp_all
 have O: ∀o s,w.frozen? ⟨b.block,o,s⟩=false:=λo s=>by simp[World.frozen?,F]
 have Q:w.frozen? b=false:=by simp_all
 have H:w.shape? a.block=U (B,cur'.size):=by simp[World.shape?,M]
 have d:w.shape? b.block=U (D,cur.size):=by simp[World.shape?,F]
 change Sem.run P (α:=Value) (do
  let U t:=(#[T,T]:Array TypeId)[0]?|stuck "slices.overlaps: no parameter types"
  let .slice E<-underlying t|stuck "slices.overlaps: slice type expected"
  let S<-sizeOf E
  match(U a:Option Addr),(U b:Option Addr)with
  |some a,U b=>
   if L=0\/g=0\/S=0 then pure (Value.bool zj)
   else if a.block !=b.block&& (<-frozen a)&& (<-frozen b)then unsupported .addressObserved
   else do
    if a.block !=b.block then do
     noView a;noView b
     if<-mayBeOne a b then return Value.bool ((<-choose (.extern "sameAddr.stringBytes" 2))==1)
    pure (Value.bool (a.block==b.block&&a.off<b.off+g*S&&b.off<a.off+L*S))
  |_,_=>pure (Value.bool zj)) w=_
 by_cases h0:L=0\/g=0\/S=0
 .simp[run_underlying A,pj C,h0]
 .obtain⟨X,V⟩: ∃k,cur.size=k+1:=⟨cur.size-1,by omega⟩;obtain⟨W,q⟩: ∃k,cur'.size=k+1:=⟨cur'.size-1,by omega⟩;rw[V]at d;rw[q]at H;cases y:w.frozen? a<;>cases z:w.frozen? {block:=a.block,off:=W+1}<;>
   simp[run_underlying A,pj C,h0,p,h,frozen,noView,viewAt,mayBeOne,stringish,shape,Sem.run,H,d,O,y,z]
theorem Z_(L:ry P ρ z){base:Option Addr}{n c m V:Nat}{v:Option Addr}{w W:World}{x:Value}(N:0<m)(q:n<=c)(p:c<=9223372036854775807)(H:base=zz->n=0/\c=0)
  (h:(Builtin.append_ #[(ρ.t 24),(ρ.t 24)] (ρ.t 24) #[.slice base n c,.slice v m V]).run P w= .ok x W):
  Calls P (ρ.f 22) #[.slice base n c,.int .i64 n,.slice v m V] w λe w'=>e= .returned x/\w'=W:=by
 have O:=L.t0;have Q:=L.t3;have R:=L.t4;have T:=L.t24;have d:=L.mixed;have S:=run_underlying L.t0;have X:=run_underlying L.t3;have Y:=run_underlying L.t4;have y:=run_underlying L.t24;obtain⟨I,Z,A,hz,B,C,D,E,G,J,g⟩:=vV L.z9;have k:jU P (ρ.t 9)=U I.size:=by simp[jU,A]
 have z9: ∀w,(Go.sizeOf (ρ.t 9)).run P w= .ok I.size w:=pj k;have g: ¬ ((m:Int)=0):=by omega
 obtain⟨nm,K,F⟩:=L.f22
 go_enter F,Body2.n22_ntmps ρ
 cases base with
 |none=>
  obtain⟨rfl,rfl⟩:=H rfl
  go_wp2_with (at_builtin;refine Lib.wpList_append_run _ rfl _ _ _ _ rfl _ _ rfl rfl _ _ h ?_)
  go_ret
  trivial
 |some a=>
  obtain⟨ab,ao,M⟩:=a
  go_wp2_with (at_builtin;refine Lib.wpList_append_run _ rfl _ _ _ _ rfl _ _ rfl rfl _ _ h ?_)
  all_goals(go_ret;exact⟨rfl,rfl⟩)
theorem Yvi(L:ry P ρ z){g n c i m V y A:Nat}{cur cur':Array Value}{J K:TypeId}{fr:Nat×Nat}{news:List Value}(w:World)(hi:i<n)(hm:0<m)(p:n+m<=c)(a2:c<=9223372036854775807)(B:V≠g)
  (hg:w.heap[g]?=U (.cells cur J (0,0))) (a4:cur.size=c*z.length) (hv:w.heap[V]?=U (.cells cur' K fr)) (M:cur'.size≠0) (D:news.length=m*z.length) (a5: ∀j v,news[j]?=U v->w.cell? ⟨V,y+j,zz⟩=U v)
  (h1: ∀v∈news,v.oneCell'=zZ) (N: ∀v∈ (cur.toList.take (n*z.length)).drop (i*z.length),v.oneCell'=zZ):
  Calls P (ρ.f 22) #[.slice (U ⟨g,0,zz⟩) n c,.int .i64 i,.slice (U ⟨V,y,zz⟩) m A] w λe w'=>e= .returned (.slice (U ⟨g,0,zz⟩) (n+m) c)/\
   ∃C d,C=(cur.toList.take ((i+m)*z.length)++(cur.toList.take (n*z.length)).drop (i*z.length)++cur.toList.drop ((i+m)*z.length+(n-i)*z.length)).toArray/\
    d=(C.toList.take (i*z.length)++news++C.toList.drop (i*z.length+m*z.length)).toArray/\w'=(w.drew.setRow g C).setRow g d:=by
 have t0:=L.t0;have t3:=L.t3;have t4:=L.t4;have a6:=L.t24;have O:=L.mixed;have u0:=run_underlying L.t0;have u3:=run_underlying L.t3;have u4:=run_underlying L.t4;have a7:=run_underlying L.t24;obtain⟨i0,z0,Q,hz,a8,a9,R,aa,ab,ac,S⟩:=vV L.z9;have k:jU P (ρ.t 9)=U z.length:=by simp[jU,Q,R]
 have z9: ∀w,(Go.sizeOf (ρ.t 9)).run P w= .ok z.length w:=pj k;generalize ad:z.length=es at*
 have S: ¬ ((m:Int)=0):=by omega
 have ae: ¬ ((i:Int)=(n:Int)):=by omega
 have T:i<=n:=by omega
 have a3:(i+m)*es+(n-i)*es=(n+m)*es:=by rw[<-nY];grind
 have af:(n+m)*es<=c*es:=lD _ p;have ag:i*es<=n*es:=lD _ T;have W:n*es<=(n+m)*es:=lD _ (by omega);have E:((cur.toList.take (n*es)).drop (i*es)).length=(n-i)*es:=by grind
 have X:cur.size≠0:=by
  have:0< (n+m)*es:=Nat.mul_pos (by omega) (by omega);omega
 have Y: ∀Z cb,(callFunc (ρ.f 29) #[.slice (U ⟨V,y,zz⟩) m A,.slice (U ⟨g,(i+m)*es,zz⟩) Z cb]).run P w= .ok (.value (.bool zj)) w:=λZ cb=>by
  obtain⟨ah,o1,o2,o3,o4,o5⟩:=L.f29;rw[run_callFunc_extern o1 o2 o3 o4 (e:=Extern.SlicesOverlaps.overlaps #[(ρ.t 24),(ρ.t 24)] #[(ρ.t 4)]) o5,
   Yvh w (ρ.t 24) (ρ.t 4) (ρ.t 9) L.t24 k ⟨V,y,zz⟩ ⟨g,(i+m)*es,zz⟩ m A Z cb B hv hg X M]
  rfl
 have ai:IntKind.i64.wrap ((i:Int)+(m:Int))=(i:Int)+(m:Int):=by rw[IntKind.wrap_i64];omega
 have aj:(0:Int)<=(i:Int)+(m:Int):=by omega
 have ak:((i:Int)+(m:Int)).toNat=i+m:=by omega
 have al: ¬ (c=i+m):=by omega
 have am:(i:Int)<=(n:Int)+(m:Int):=by omega
 have an: ¬ (c=i):=by omega
 have q:w.drew.heap[g]?=U (.cells cur J (0,0)):=hg;obtain⟨C,h⟩: ∃C,C=(cur.toList.take ((i+m)*es)++(cur.toList.take (n*es)).drop (i*es)++cur.toList.drop ((i+m)*es+(n-i)*es)).toArray:=⟨_,rfl⟩;have F: ∀ty G sc,(Builtin.copy_ #[(ρ.t 24),(ρ.t 24)] ty #[.slice (U ⟨g,(i+m)*es,zz⟩) (n+m-(i+m)) G,.slice (U ⟨g,i*es,zz⟩) (n+m-i) sc]).run P w.drew= .ok (goInt ((n-i:Nat):Int)) (w.drew.setRow g C):=λty G sc=>by
  rw[h,<-E];exact LF w.drew L.t24 k q (o:=(i+m)*es) (n:=n-i) (sLen:=n+m-i) (dLen:=n+m-(i+m)) (by grind) E (λj v hj=>by
   rw[Addr.add_lit,cell_of_row _ _ _ _ _ _ q];grind) (by omega) N
 have ao:C.size=cur.size:=by
  grind
 have a0:(w.drew.setRow g C).heap[g]?=U (.cells C J (0,0)):=setRow_heap w.drew g cur C J (0,0) q;obtain⟨d,H⟩: ∃d,d=(C.toList.take (i*es)++news++C.toList.drop (i*es+m*es)).toArray:=⟨_,rfl⟩;have I: ∀ty G,(Builtin.copy_ #[(ρ.t 24),(ρ.t 24)] ty #[.slice (U ⟨g,i*es,zz⟩) (n+m-i) G,.slice (U ⟨V,y,zz⟩) m A]).run P (w.drew.setRow g C)= .ok (goInt m) ((w.drew.setRow g C).setRow g d):=λty G=>by
  rw[H,<-D];exact LF _ L.t24 k a0 (o:=i*es) (n:=m) (sLen:=m) (dLen:=n+m-i) (by grind) D (λj v hj=>by
   rw[Addr.add_lit,World.cell?_of_block (setRow_other w.drew g V C B)];simp_all) (by grind) h1
 have ap:Calls P (ρ.f 22) #[.slice (U ⟨g,0,zz⟩) n c,.int .i64 i,.slice (U ⟨V,y,zz⟩) m A] w λe w'=>e= .returned (.slice (U ⟨g,0,zz⟩) (n+m) c)/\w'=(w.drew.setRow g C).setRow g d:=by
  clear h H;obtain⟨nm,W,a1⟩:=L.f22
  go_enter a1,Body2.n22_ntmps ρ
  go_wp2_with (simp only[Y])
  go_region_law_o (refine step_copy_runI rfl _ _ (ρ.t 24) (ρ.t 24) rfl _ _ (by simp[Act.eval,Act.put]) (by simp[Act.eval,Act.put]) (F _ _ _) ?_)
  go_wp2_with (at_builtin;refine wpList_copy_runI _ rfl _ _ (ρ.t 24) (ρ.t 24) rfl _ _ rfl rfl (I _ _) ?_)
  go_ret
  trivial
 simp_all
theorem Yvj(L:ry P ρ z){Z:Value}{I:TypeInfo}(E:P.info? (ρ.t 9)=U I)(hz:I.zero=U Z){g n c i m V X vc:Nat}{cur cur':Array Value}{bt a1:TypeId}{fr:Nat×Nat}{news:List Value}(w:World)(hi:i<n)(hm:0<m)(M:n<=c)(F:c<n+m)(q:n+m<=c_)
  (hg:w.heap[g]?=U (.cells cur bt (0,0))) (a2:cur.size=c*z.length) (hv:w.heap[V]?=U (.cells cur' a1 fr)) (N:news.length=m*z.length) (ak: ∀j v,news[j]?=U v->w.cell? ⟨V,X+j,zz⟩=U v)
  (h1: ∀v∈news,v.oneCell'=zZ) (a3: ∀v∈ (cur.toList.take (n*z.length)).drop (i*z.length),v.oneCell'=zZ):
  Calls P (ρ.f 22) #[.slice (U ⟨g,0,zz⟩) n c,.int .i64 i,.slice (U ⟨V,X,zz⟩) m vc] w λe w'=>e= .returned (.slice (U ⟨w.heap.size,0,zz⟩) (n+m) (grownCap w (n+m) c (ρ.t 9)))/\
   ∃R C d,R=(cur.toList.take (i*z.length)).toArray++Builtin.zeroCells Z.cells (n+m-i)++Builtin.zeroCells Z.cells (grownCap w (n+m) c (ρ.t 9)-(n+m))/\
    C=(R.toList.take (i*z.length)++news++R.toList.drop (i*z.length+m*z.length)).toArray/\
    d=(C.toList.take ((i+m)*z.length)++(cur.toList.take (n*z.length)).drop (i*z.length)++C.toList.drop ((i+m)*z.length+(n-i)*z.length)).toArray/\
    w'=((w.alloc (.cells R (ρ.t 9))).drew.setRow w.heap.size C).drew.setRow w.heap.size d:=by
 have t0:=L.t0;have t3:=L.t3;have t4:=L.t4;have al:=L.t24;have a0:=L.mixed;have u0:=run_underlying L.t0;have u3:=run_underlying L.t3;have u4:=run_underlying L.t4;have am:=run_underlying L.t24;obtain⟨an,ao,p,y,ap,a4,J,aq,ar,a5,a6⟩:=vV L.z9;rw[E]at p;injection p with p;subst p
 rw[hz]at y;injection y with y;subst y
 have K:jU P (ρ.t 9)=U z.length:=by simp[jU,E,J]
 have z9: ∀w,(Go.sizeOf (ρ.t 9)).run P w= .ok z.length w:=pj K;generalize au:z.length=es at*
 have a6: ¬ ((m:Int)=0):=by omega
 have av: ¬ ((i:Int)=(n:Int)):=by omega
 have aw:(c:Int)< (n:Int)+(m:Int):=by omega
 have a7:i<=n:=by omega
 have a8:=(pV.1 hg).1;have ax:=(pV.1 hv).1;have a9:(n:Int)+(m:Int)-(i:Int)=((n+m-i:Nat):Int):=by omega
 have O:i+(n+m-i)=n+m:=by omega
 have af:(i+m)*es+(n-i)*es=(n+m)*es:=by rw[<-nY];grind
 have ay:i*es<=n*es:=lD _ a7;have az:n*es<=c*es:=lD _ M;have ag:(i+m)*es<=(n+m)*es:=lD _ (by omega);have aa:(n+m)*I.bytes<=140737488355328:=by
  have:=Nat.mul_le_mul q a5;simp only[c_]at this;omega
 have Q:((cur.toList.take (n*es)).drop (i*es)).length=(n-i)*es:=by grind
 have A:(Builtin.firstCells I.size i (.slice (U ⟨g,0,zz⟩) i c)).run P w.drew= .ok (cur.toList.take (i*es)).toArray w.drew:=by
  rw[J];exact run_firstCells_some w.drew es i ⟨g,0,zz⟩ i c _ (by grind) (λj v hj=>by
   rw[Addr.add_lit,cell_of_row w.drew _ _ _ _ _ hg];grind)
 have S: ∀ty,(Builtin.append_ #[(ρ.t 24),(ρ.t 3)] ty #[.slice (U ⟨g,0,zz⟩) i c,.int .i64 ((n:Int)+(m:Int)-(i:Int))]).run P w=
   .ok (.slice (U ⟨w.heap.size,0,zz⟩) (n+m) (grownCap w (n+m) c (ρ.t 9))) (w.drew.alloc (.cells ((cur.toList.take (i*es)).toArray++Builtin.zeroCells Z.cells (n+m-i)++Builtin.zeroCells Z.cells (grownCap w (n+m) c (ρ.t 9)-(n+m))) (ρ.t 9))):=λty=>by
  have h:=Lib.run_append_grow_zeros w (ρ.t 24) (ρ.t 3) ty (ρ.t 9) I _ .i64 .i64 L.t24 L.t3 E hz (U ⟨g,0,zz⟩) i c (cur.toList.take (i*es)) A (n+m-i) (by omega) (by omega) (by omega) (by simp only[c_]at q;omega) (by have:(n+m-i)*I.bytes<=(n+m)*I.bytes:=lD _ (by omega);omega) (by rw[O];exact growslice_fits F aa);simp_all
 have ab:n+m<=grownCap w (n+m) c (ρ.t 9):=grownCap_ge w _ _ _;have ah:grownCap w (n+m) c (ρ.t 9)<=9223372036854775807:=by
  have:=grownCap_le_maxLen w (n+m) c (ρ.t 9) (by simp only[c_]at q;unfold maxLen;omega);trivial
 generalize hG:grownCap w (n+m) c (ρ.t 9)=G at*
 obtain⟨R,Y⟩: ∃R,R=(cur.toList.take (i*es)).toArray++Builtin.zeroCells Z.cells (n+m-i)++Builtin.zeroCells Z.cells (G-(n+m)):=⟨_,rfl⟩;rw[<-Y]at S;have aA:R.size=G*es:=by
  rw[Y];simp only[Array.size_append,List.size_toArray,size_zeroCells,a4,J,xd,Array.length_toList,a2];rw[Nat.min_eq_left (by omega),<-nY,<-nY];simp_all
 have aB:(n+m)*es<=G*es:=lD _ ab;have aC: ¬ (G=i):=by omega
 have ai: ¬ (G=i+m):=by omega
 have aD: ¬ (c=i):=by omega
 have aE:IntKind.i64.wrap ((i:Int)+(m:Int))=(i:Int)+(m:Int):=by rw[IntKind.wrap_i64];omega
 have aF:IntKind.i64.wrap ((n:Int)+(m:Int))=(n:Int)+(m:Int):=by rw[IntKind.wrap_i64];omega
 have aG:IntKind.i64.wrap ((n:Int)+(m:Int)-(i:Int))=(n:Int)+(m:Int)-(i:Int):=by rw[IntKind.wrap_i64];omega
 have aH:(0:Int)<=(i:Int)+(m:Int):=by omega
 have aI:((i:Int)+(m:Int)).toNat=i+m:=by omega
 have aJ:(i:Int)<=(n:Int):=by omega
 obtain⟨C,H⟩: ∃C,C=(R.toList.take (i*es)++news++R.toList.drop (i*es+m*es)).toArray:=⟨_,rfl⟩;have aj:i*es+m*es=(i+m)*es:=by grind
 have aK:C.size=R.size:=by
  grind
 have hN:(w.alloc (.cells R (ρ.t 9))).heap[w.heap.size]?=U (.cells R (ρ.t 9) (0,0)):=by
  show(w.heap.push _)[w.heap.size]?=_;simp
 have hO: ∀b,b<w.heap.size->(w.alloc (.cells R (ρ.t 9))).heap[b]?=w.heap[b]?:=λb hb=>by
  show(w.heap.push _)[b]?=_;grind
 have D: ∀(W:World),W.heap=(w.alloc (.cells R (ρ.t 9))).heap-> ∀ty T,(Builtin.copy_ #[(ρ.t 24),(ρ.t 24)] ty #[.slice (U ⟨w.heap.size,i*es,zz⟩) (n+m-i) T,.slice (U ⟨V,X,zz⟩) m vc]).run P W= .ok (goInt m) (W.setRow w.heap.size C):=λW hW ty T=>by
  rw[H,<-N];exact LF W L.t24 K (by rw[hW];exact hN) (o:=i*es) (n:=m) (sLen:=m) (dLen:=n+m-i) (by grind) N (λj v hj=>by
   rw[Addr.add_lit,World.cell?_of_block (w:=w) (by simp_all)];simp_all) (by omega) h1
 obtain⟨d,k⟩: ∃d,d=(C.toList.take ((i+m)*es)++(cur.toList.take (n*es)).drop (i*es)++C.toList.drop ((i+m)*es+(n-i)*es)).toArray:=⟨_,rfl⟩;have B: ∀(W:World),W.heap=((w.alloc (.cells R (ρ.t 9))).setRow w.heap.size C).heap-> ∀ty T sc,(Builtin.copy_ #[(ρ.t 24),(ρ.t 24)] ty #[.slice (U ⟨w.heap.size,(i+m)*es,zz⟩) (n+m-(i+m)) T,.slice (U ⟨g,i*es,zz⟩) (n-i) sc]).run P W= .ok (goInt ((n-i:Nat):Int)) (W.setRow w.heap.size d):=λW hW ty T sc=>by
  rw[k,<-Q];exact LF W L.t24 K (by rw[hW];exact setRow_heap _ _ R C (ρ.t 9) (0,0) hN) (o:=(i+m)*es) (n:=n-i) (sLen:=n-i) (dLen:=n+m-(i+m)) (by grind) Q (λj v hj=>by
   rw[Addr.add_lit,cell_of_row W g _ cur bt (0,0) (by rw[hW,setRow_other _ _ _ _ (by omega),hO g a8];exact hg)];grind) (by omega) a3
 have ac:Calls P (ρ.f 22) #[.slice (U ⟨g,0,zz⟩) n c,.int .i64 i,.slice (U ⟨V,X,zz⟩) m vc] w λe w'=>e= .returned (.slice (U ⟨w.heap.size,0,zz⟩) (n+m) G)/\w'=((w.alloc (.cells R (ρ.t 9))).drew.setRow w.heap.size C).drew.setRow w.heap.size d:=by
  have aL:=D (w.alloc (.cells R (ρ.t 9))).drew rfl;have aM:=B ((w.alloc (.cells R (ρ.t 9))).drew.setRow w.heap.size C) rfl;have ad:=B ((w.alloc (.cells R (ρ.t 9))).drew.setRow w.heap.size C).drew rfl;clear H k Y a9 O A hG D B;obtain⟨nm,aN,ae⟩:=L.f22
  go_enter ae,Body2.n22_ntmps ρ
  go_wp2_with (at_builtin;refine Lib.wpList_append_run _ rfl _ _ _ _ rfl _ _ rfl rfl _ _ (S _) ?_)
  go_region_law_o (refine step_copy_runI rfl _ _ (ρ.t 24) (ρ.t 24) rfl (.slice (U ⟨w.heap.size,(i+m)*es,zz⟩) (n+m-(i+m)) (G-(i+m))) (.slice (U ⟨g,i*es,zz⟩) (n-i) (c-i)) (by simp[Act.eval,Act.put]) (by simp[Act.eval,Act.put]) (ad (ρ.t 3) (G-(i+m)) (c-i)) ?_)
  go_wp2
  go_ret
  trivial
 exact ac.mono λe w' h=>⟨h.1,R,C,d,Y,H,k,h.2⟩
end
end Go.Abs
namespace Go.Abs
open Go Go.RowKit Go.Shelf Go.Proofs Go.Lib
section
variable{P:Program}{fm:FM}{ρ:Ren}{z:List Value}{w:World}{Lc:Nat->Loc}
theorem Yo0{es n i:Nat}{cur:Array Value}{el:List (List AV)}{e0:List AV}{news R:List Value}{L:Nat->Loc}(Q:el.length=n)(D:i<=n)(E:n*es<=cur.size)(F: ∀e∈el,e.length=es)(G:e0.length=es)(I:news.length=es)
  (h0:RR fm w L es cur el) (A: ∀j c,e0[j]?=U c->(news.getD j undef).oneCell'=zZ/\VR fm w L (news.getD j undef) c) {C:Array Value}
  (H:C.toList=cur.toList.take (i*es)++news++(cur.toList.take (n*es)).drop (i*es)++R):RR fm w L es C (el.take i++[e0]++el.drop i):=by
 have J:i*es<=n*es:=lD _ D;have h: ∀k,C.getD k undef=(cur.toList.take (i*es)++(news++((cur.toList.take (n*es)).drop (i*es)++R))).getD k undef:=by
  intro k;rw[mI,<-Array.getElem?_toList,H];simp
 have K:(cur.toList.take (i*es)).length=i*es:=by grind
 have S:((cur.toList.take (n*es)).drop (i*es)).length=n*es-i*es:=by simp_all
 intro q e j c d B;have M:j<es:=by
  grind
 have N:(el.take i).length=i:=by simp_all
 by_cases h1:q<i
 .rw[qS,ld (by omega),oU,if_pos h1]at d;have g:q*es+j<i*es:=by
   have:(q+1)*es<=i*es:=lD _ h1;grind
  have:=h0 q e j c d B;rw[h];have O:(cur.toList.take (i*es)++(news++((cur.toList.take (n*es)).drop (i*es)++R))).getD (q*es+j) undef=cur.getD (q*es+j) undef:=by
   simp only[List.getD];rw[ld (by omega),oU,if_pos g,Array.getElem?_toList,mI]
  simp_all
 .by_cases h2:q=i
  .subst h2;grind
  .obtain⟨p,rfl⟩: ∃p,q=p+1:=⟨q-1,by omega⟩;rw[nF (by grind),rU]at d;have y:i+(p+1-(el.take i++[e0]).length)=p:=by grind
   rw[y]at d;have z:p<n:=by grind
   have g:p*es+j<n*es:=by
    have:(p+1)*es<=n*es:=lD _ z;grind
   have P:i*es<=p*es:=lD _ (by omega);have:=h0 p e j c d B;rw[h];have O:(cur.toList.take (i*es)++(news++((cur.toList.take (n*es)).drop (i*es)++R))).getD ((p+1)*es+j) undef=cur.getD (p*es+j) undef:=by
    simp only[List.getD];have T:(p+1)*es=p*es+es:=by grind
    rw[nF (by omega),K,nF (by omega),ld (by omega),rU,oU,if_pos (by omega),Array.getElem?_toList,mI];grind
   simp_all
theorem Yvk{b o:Nat}{v:Value}(h:w.cell? ⟨b,o,zz⟩=U v): ∃cur ty fr,w.heap[b]?=U (.cells cur ty fr)/\cur.size≠0:=by
 unfold World.cell? at h;grind
theorem Yvl{x:Value}{es:Nat}{l:List (List AV)}(h:VR fm w Lc x (.rd es l))(H:l≠ []):
  ∃(b o c:Nat) (vals:Nat->Nat->Value),x= .slice (U ⟨b,o,zz⟩) l.length c/\ ¬ma Lc b/\
   (∀i j,i<l.length->j<es->w.cell? ⟨b,o+i*es+j,zz⟩=U (vals i j)/\ (vals i j).oneCell'=zZ)/\
   (∀i e j y,l[i]?=U e->e[j]?=U y->VR fm w Lc (vals i j) y):=by
 cases h with
 |lT A es c=>trivial
 |rd b o c es l vals H d g k p q D h1 z=>
  refine⟨b,o,c,vals,rfl,p,λi j B E=> ?_,z⟩;have F:=d _ (List.getElem_mem B);have C:=je (show j< (l[i]).length by omega);simp_all
theorem Yo1(w:World)(g:Nat){cur:Array Value}{ty:TypeId}{fr:Nat×Nat}(H:w.heap[g]?=U (.cells cur ty fr))(a b:Array Value)(k:Nat):((w.setRow g a).setRow g b).heap[k]?=(w.setRow g b).heap[k]?:=by
 by_cases h:k=g
 .subst h;rw[setRow_heap w k cur b ty fr H,setRow_heap _ k a b ty fr (setRow_heap w k cur a ty fr H)]
 .rw[setRow_other _ _ _ _ h,setRow_other _ _ _ _ h,setRow_other _ _ _ _ h]
theorem Yvm(L:ry P ρ z){h:HF}(hr:HR fm w Lc h){x nid n i:Nat}{el:List (List AV)}{e0:List AV}(hx:h x=U (U ⟨z.length,el⟩))(a7:h nid=zz)(hn:el.length=n)(hi:i<=n)(ac:e0.length=z.length)(W:n+1<=c_){vals:Array Value}(aC:vals.size=3)
  (h0:VR fm w Lc (vals.getD 0 undef) (.ref x 0 n)) (h1:VR fm w Lc (vals.getD 1 undef) (.v (.int .i64 i))) (h2:VR fm w Lc (vals.getD 2 undef) (.rd z.length [e0])):
  Calls P (ρ.f 22) vals w λe w'=> ∃v L',e= .returned v/\iv Lc w w'/\hY Lc L' w.heap.size/\HR fm w' L' (iB h nid [.set x zz,.push (U ⟨z.length,el.take i++[e0]++el.drop i⟩)])/\VR fm w' L' v (.ref nid 0 (n+1)):=by
 obtain⟨i0,z0,an,hz,aD,aE,aF,aG,aH,aI,aJ⟩:=vV L.z9;have D:0<z.length:=by omega
 have X:z0.cells.size=z.length:=by omega
 have aK:=kI h1;obtain⟨vb,vo,vc,V,a3,a8,O,aL⟩:=Yvl h2 (by simp);simp only[qG]at a3;have aM:x≠nid:=λe=>by simp_all
 have p: ∀s,vals.getD 0 undef=s->vals= #[s,.int .i64 i,.slice (U ⟨vb,vo,zz⟩) 1 vc]:=λs hs=>by
  apply Array.ext
  .trivial
  .intro k aN aO;have Q:k<3:=by omega
   match k,Q with
   |0,_=>simp_all
   |1,_=>simp_all
   |2,_=>simp_all
 obtain⟨f1,f2,f3⟩:=NQ (w:=w) (b:=vb) (o:=vo) (m:=1) (vals:=V) D (λi' j aP hj=>by
  grind)
 have S:(flat z.length 1 V).length=z.length:=by omega
 have Y: ∀j c,e0[j]?=U c->((flat z.length 1 V).getD j undef).oneCell'=zZ/\VR fm w Lc ((flat z.length 1 V).getD j undef) c:=λj c hj=>by
  have ao:j<z.length:=by grind
  have hf:=NP (i:=0) (m:=1) (vals:=V) (by omega) ao;grind
 by_cases ap:i=n
 ·
  subst ap;obtain⟨xv,va,us,w',g1,⟨rfl,rfl⟩,L',g2,g3,g4,g5⟩:=NT (ty:=ρ.t 24) L.t24 L.z9 hr a7 h0 h2 (K:=λv us=>v= .ref nid 0 (i+1)/\us=[.set x zz,.push (U ⟨z.length,el++[e0]⟩)]) ⟨_,hx,rfl,hn.symm,rfl,by grind,by grind,by grind,rfl⟩;have ad:el.take i++[e0]++el.drop i=el++[e0]:=by grind
  rw[ad];rcases td hr hx h0 with⟨g,ae,cap,hL,_,aq,T⟩| ⟨A,b,hL,hA,_,ar,T⟩
  .have y:vals.getD 0 undef= .slice (U ⟨g,0,zz⟩) i cap:=by simp_all
   rw[y,a3]at g1;rw[p _ y];have E:=hr.obj x _ hx;rw[hL]at E;obtain⟨_,_,au,av,_⟩:=E;refine(Z_ L (by omega) (by omega) (by trivial) (λh=>by cases h) g1).mono ?_;grind
  .subst ar;rw[T,a3]at g1;rw[p _ T];refine(Z_ L (by omega) (jG _) (by omega) (λ_=>⟨rfl,rfl⟩) g1).mono ?_;grind
 .have Z:i<n:=by omega
  obtain⟨g,ae,cap,hL,a9,aq,T⟩:=(td hr hx h0).resolve_right (λ⟨_,_,_,_,_,h,_⟩=>by omega);have aw:ae=z.length:=a9.trans (rW D);subst aw;have y:vals.getD 0 undef= .slice (U ⟨g,0,zz⟩) n cap:=by grind
  rw[p _ y];have E:=hr.obj x _ hx;rw[hL]at E;obtain⟨_,_,au,av,H,cur,bt,hg,a4,F⟩:=E;have H: ∀e∈el,e.length=z.length:=H;have F:RR fm w Lc z.length cur el:=F;have af:n<=cap:=by omega
  have a0:n*z.length<=cur.size:=by rw[a4];exact lD _ af
  have aa:vb≠g:=λe=>a8 (.inl (.inl ⟨x,_,_,e▸hL⟩));obtain⟨cur',aQ,fr,ag,ab⟩:=Yvk (O 0 0 (by simp) D).1;have I: ∀v∈ (cur.toList.take (n*z.length)).drop (i*z.length),v.oneCell'=true:=λv hv=>by
   have hv:=List.mem_of_mem_drop hv;obtain⟨k,Q⟩:=mE.1 hv;rw[oU]at Q;split at Q
   .rename_i ax;have hq:k/z.length<n:=(Nat.div_lt_iff_lt_mul D).2 ax;have a5:k/z.length<el.length:=by omega
    have aR:k % z.length<z.length:=Nat.mod_lt _ D;have ad:=H _ (List.getElem_mem a5);have:=(F (k/z.length) el[k/z.length] (k % z.length) (el[k/z.length]'a5)[k % z.length] (je a5) (je (by omega))).1;rw[show k/z.length*z.length+k % z.length=k by rw[Nat.mul_comm];exact Nat.div_add_mod k z.length]at this;rw[Array.getElem?_toList]at Q;rw[mI,Q]at this;trivial
   trivial
  have a1: ∀e∈el.take i++[e0]++el.drop i,e.length=z.length:=λe he=>by
   grind
  have aA:(el.take i++[e0]++el.drop i).length=n+1:=by grind
  have J: ∀j v,(flat z.length 1 V)[j]?=U v->w.cell? ⟨vb,vo+j,zz⟩=U v:=λj v hj=>by
   have:=f2 j v hj;rwa[vU]at this
  have aS:i*z.length<=n*z.length:=lD _ hi;have aT:n*z.length-i*z.length=(n-i)*z.length:=(Nat.sub_mul ..).symm;have aU:(i+1)*z.length=i*z.length+1*z.length:=by grind
  have aV:(i+1)*z.length+(n-i)*z.length=(n+1)*z.length:=by grind
  by_cases M:n+1<=cap
  .refine(Yvi L (m:=1) (news:=flat z.length 1 V) w Z (by omega) M (by trivial) aa hg a4 ag ab f1 J f3 I).mono ?_;rintro e w' ⟨rfl,d,C,ah,ai,rfl⟩;have aW:(n+1)*z.length<=cap*z.length:=lD _ M;have N:d.toList=cur.toList.take ((i+1)*z.length)++(cur.toList.take (n*z.length)).drop (i*z.length)++cur.toList.drop ((i+1)*z.length+(n-i)*z.length):=by rw[ah]
   have B:C.toList=cur.toList.take (i*z.length)++flat z.length 1 V++(cur.toList.take (n*z.length)).drop (i*z.length)++cur.toList.drop ((n+1)*z.length):=by
    rw[ai];show d.toList.take (i*z.length)++flat z.length 1 V++d.toList.drop (i*z.length+1*z.length)=_;have e1:d.toList.take (i*z.length)=cur.toList.take (i*z.length):=by
     rw[N,qS,List.take_append_of_le_length (by simp;omega),List.take_take,Nat.min_eq_left (by omega)]
    have e2:d.toList.drop (i*z.length+1*z.length)=(cur.toList.take (n*z.length)).drop (i*z.length)++cur.toList.drop ((n+1)*z.length):=by
     have:(cur.toList.take ((i+1)*z.length)).length=i*z.length+1*z.length:=by simp;omega
     grind
    grind
   have a6:C.size=cap*z.length:=by
    rw[<-Array.length_toList,B];simp only[nV,xd,List.length_drop,Array.length_toList,S];omega
   obtain⟨k1,k2⟩:=EK (cur':=C) (el:=el.take i++[e0]++el.drop i) hr hx hL hg a6 (by omega) a1 (Yo0 hn hi a0 H ac S F Y B);have hb:Below (w.setRow g C).heap.size (w.setRow g C) ((w.drew.setRow g d).setRow g C):=
    ⟨rfl,rfl,rfl,by simp,λk _=>Yo1 w.drew g hg d C k⟩
   have k3:=k1.trans (hY.refl _ _) (uu hb);have k4:=k2.mono (uu hb) (λb ay _=>hb.block b ay);obtain⟨k5,k6⟩:=J' (a:=x) (nid:=nid) (o:=⟨z.length,el.take i++[e0]++el.drop i⟩) k4 (by simp) (by grind);refine⟨_,λb=>if b=nid then Lc x else if b=x then .dead else Lc b,rfl,k3,?_,?_,?_⟩
   .have:((w.drew.setRow g d).setRow g C).heap.size=w.heap.size:=by simp
    grind
   .have e1:(λb=>if b=nid then U (U (⟨z.length,el.take i++[e0]++el.drop i⟩:iu))else if b=x then U zz else if b=x then U (U ⟨z.length,el.take i++[e0]++el.drop i⟩)else h b)=
      iB h nid [.set x zz,.push (U ⟨z.length,el.take i++[e0]++el.drop i⟩)]:=by
     funext b;by_cases e1:b=nid<;>by_cases e2:b=x<;>simp[e1,e2,iB,iD]
    grind
   .have:=VR.jH (fm:=fm) (w:=(w.drew.setRow g d).setRow g C) (L:=λb=>if b=nid then Lc x else if b=x then .dead else Lc b) g z.length cap nid 0 (n+1) (by grind) (by omega);grind
  .refine(Yvj L an hz (m:=1) (news:=flat z.length 1 V) w Z (by omega) af (by omega) W hg a4 ag f1 J f3 I).mono ?_;rintro e w' ⟨rfl,R,d,C,hR,ah,ai,rfl⟩;have aj:=grownCap_ge w (n+1) cap (ρ.t 9);have ak:=grownCap_le_maxLen w (n+1) cap (ρ.t 9) (by simp only[c_]at W;unfold maxLen;omega);generalize hG:grownCap w (n+1) cap (ρ.t 9)=G at hR aj ak⊢;have aX:(n+1)*z.length<=G*z.length:=lD _ aj;have aY:R.toList=cur.toList.take (i*z.length)++((Builtin.zeroCells z0.cells (n+1-i)).toList++(Builtin.zeroCells z0.cells (G-(n+1))).toList):=by grind
   have aZ:(Builtin.zeroCells z0.cells (n+1-i)).size=(n+1-i)*z.length:=by rw[size_zeroCells,X]
   have b0:(Builtin.zeroCells z0.cells (G-(n+1))).size=(G-(n+1))*z.length:=by rw[size_zeroCells,X]
   have al:(n+1-i)*z.length=(n+1)*z.length-i*z.length:=Nat.sub_mul ..;have am:(G-(n+1))*z.length=G*z.length-(n+1)*z.length:=Nat.sub_mul ..;have aB:i*z.length<=(n+1)*z.length:=lD _ (by omega);have az:R.size=G*z.length:=by
    grind
   have N:d.toList=cur.toList.take (i*z.length)++flat z.length 1 V++R.toList.drop (i*z.length+1*z.length):=by
    grind
   have B:C.toList=cur.toList.take (i*z.length)++flat z.length 1 V++(cur.toList.take (n*z.length)).drop (i*z.length)++d.toList.drop ((n+1)*z.length):=by
    grind
   have b1:d.size=G*z.length:=by
    rw[<-Array.length_toList,N];simp only[nV,xd,List.length_drop,Array.length_toList,S,az];omega
   have a6:C.size=G*z.length:=by
    grind
   obtain⟨k1,k2⟩:=Ap hr x w.heap.size (λg' e=>by grind);have a2:(((w.alloc (.cells R (ρ.t 9))).drew.setRow w.heap.size d).drew.setRow w.heap.size C).heap=w.heap.push (.cells C (ρ.t 9) (0,0)):=by
    have hN:(w.alloc (.cells R (ρ.t 9))).heap[w.heap.size]?=U (.cells R (ρ.t 9) (0,0)):=by
     show(w.heap.push _)[w.heap.size]?=_;simp
    apply Array.ext_getElem?;intro k;have e1:=Yo1 (w.alloc (.cells R (ρ.t 9))) w.heap.size hN d C k;refine e1.trans ?_;by_cases Q:k=w.heap.size
    .subst Q;rw[setRow_heap _ _ R C (ρ.t 9) (0,0) hN,yo,if_pos rfl]
    .rw[setRow_other _ _ _ _ Q];show(w.heap.push _)[k]?=_;grind
   obtain⟨q1,q2,q3⟩:=J7 (w':=((w.alloc (.cells R (ρ.t 9))).drew.setRow w.heap.size d).drew.setRow w.heap.size C) (cap:=G) (el:=el.take i++[e0]++el.drop i) k2 (nid:=nid) (by grind) a2 rfl rfl rfl D (by omega) ak a1 a6
    (λq e j c h3 h4=>by
     have:=Yo0 hn hi a0 H ac S F Y B q e j c h3 h4;exact⟨this.1,this.2.mono (iv.refl _ _) k1⟩)
   refine⟨_,λa=>if a=nid then .cells w.heap.size z.length G else if a=x then .dead else Lc a,rfl,(iv.refl Lc w).trans k1 q1,k1.trans q2,?_,?_⟩
   .trivial
   .have:=VR.jH (fm:=fm) (w:=((w.alloc (.cells R (ρ.t 9))).drew.setRow w.heap.size d).drew.setRow w.heap.size C) (L:=λa=>if a=nid then .cells w.heap.size z.length G else if a=x then .dead else Lc a) w.heap.size z.length G nid 0 (n+1) (by simp) (by omega);grind
end
def Ht{α:Type}(x:Int× (List α×List α)):Option (List α):=
 bif decide (0<=x.1)&& (iS x.1.toNat x.2.2.length&& (im x.2.1.length 1&&js x.2.2.length c_))then U (x.2.2.take x.1.toNat++(x.2.1++x.2.2.drop x.1.toNat))else zz
abbrev LG(c c2:Cs):Cs:=.cons (.i .i64) (.cons (.l c) (.cons (.l c) (.cons .s (.cons (.l c2) .nil))))
abbrev YBt(c c2:Cs):Cs:=.cons .s (.cons (.l c2) (.cons (.l c) .nil))
def PJ{α β:Type}(x:Int× (List α× (List α× (ByteArray×List β)))):Option (ByteArray× (List β×List α)):=match Ht (x.1,(x.2.1,x.2.2.1))with
 |some r=>U (x.2.2.2.1,(x.2.2.2.2,r))
 |none=>zz
def om(g:Nat)(c c2:Cs):hM:=⟨g,zj,⟨[0,1,2],[.ref 0,.i .i64,.l c],[.sq c,.st [.s,.ref 2,.ref 0],.sq c2],LG c c2⟩,.ref 3,[.dd,.st [.s,.ref 2,.u],.sq c2,.sq c],YBt c c2,λx=>PJ (α:=c.den) (β:=c2.den) x⟩
theorem Yvn{c c2:Cs}{x:Int× (List c.den× (List c.den× (ByteArray×List c2.den)))}{ys:ByteArray× (List c2.den×List c.den)}{vs:List TV}{Xs X2:hZ}{v:TV}{l:List Lf}(h:Sg.fill ⟨[0,1,2],[.ref 0,.i .i64,.l c],[.sq c,.st [.s,.ref 2,.ref 0],.sq c2],LG c c2⟩ x=U ⟨ji [0,1,2] vs,Xs⟩)(H:vs.length=3)
  (g:kH (.ref 3) (kp (YBt c c2) ys)=U (v,l)) (E:ll [.dd,.st [.s,.ref 2,.u],.sq c2,.sq c] l=U (X2,[])):vs=[.ref 0,.i .i64 x.1,.l c x.2.1]/\Xs=[U (.sq c x.2.2.1),U (.st [.s x.2.2.2.1,.ref 2,.ref 0]),U (.sq c2 x.2.2.2.2)]/\v= .ref 3/\
   X2=[zz,U (.st [.s ys.1,.ref 2,.u]),U (.sq c2 ys.2.1),U (.sq c ys.2.2)]:=by
 obtain⟨i,n,xs,nm,at2⟩:=x;obtain⟨k,y,Y⟩:=ys;have D:kp (LG c c2) (i,n,xs,nm,at2)=[⟨.i .i64,i⟩,⟨.l c,n⟩,⟨.l c,xs⟩,⟨.s,nm⟩,⟨.l c2,at2⟩]:=rfl;have w: ∀r:List Lf,pn [.l c] (⟨.l c,n⟩::r)=U ([.l c n],r):=λr=>by
  show(match(match m_ c c n with|some v=>U (TV.l c v,r)|none=>zz)with|some (x,r)=>U ([x],r)|none=>zz)=_;rw[wh]
 have F:pn [.ref 0,.i .i64,.l c] [⟨.i .i64,i⟩,⟨.l c,n⟩,⟨.l c,xs⟩,⟨.s,nm⟩,⟨.l c2,at2⟩]=U ([.ref 0,.i .i64 i,.l c n],[⟨.l c,xs⟩,⟨.s,nm⟩,⟨.l c2,at2⟩]):=by
  show(match(match pn [.l c] [⟨.l c,n⟩,⟨.l c,xs⟩,⟨.s,nm⟩,⟨.l c2,at2⟩]with|some (xs,r)=>U (TV.i .i64 i::xs,r)|none=>zz)with|some (xs,r)=>U (TV.ref 0::xs,r)|none=>zz)=_;rw[w]
 have q: ∀(d:Cs) (z:List d.den) (r:List Lf),rL (.sq d) (⟨.l d,z⟩::r)=U (.sq d z,r):=λd z r=>by
  show(match m_ d d z with|some v=>U (il.sq d v,r)|none=>zz)=_;rw[wh]
 have G:ll [.sq c,.st [.s,.ref 2,.ref 0],.sq c2] [⟨.l c,xs⟩,⟨.s,nm⟩,⟨.l c2,at2⟩]=U ([U (.sq c xs),U (.st [.s nm,.ref 2,.ref 0]),U (.sq c2 at2)],[]):=by
  have A:rL (.st [.s,.ref 2,.ref 0]) [⟨.s,nm⟩,⟨.l c2,at2⟩]=U (.st [.s nm,.ref 2,.ref 0],[⟨.l c2,at2⟩]):=rfl;simp only[ll,q,A]
 have B:Sg.fill ⟨[0,1,2],[.ref 0,.i .i64,.l c],[.sq c,.st [.s,.ref 2,.ref 0],.sq c2],LG c c2⟩ (i,n,xs,nm,at2)=U ⟨ji [0,1,2] [.ref 0,.i .i64 i,.l c n],[U (.sq c xs),U (.st [.s nm,.ref 2,.ref 0]),U (.sq c2 at2)]⟩:=by
  unfold Sg.fill;simp_all
 have h:=B.symm.trans h;injection h with h;injection h with hz hX
 injection g with g;injection g with e51 e52
 subst e52;have p:ll [.dd,.st [.s,.ref 2,.u],.sq c2,.sq c] [⟨.s,k⟩,⟨.l c2,y⟩,⟨.l c,Y⟩]=U ([zz,U (.st [.s k,.ref 2,.u]),U (.sq c2 y),U (.sq c Y)],[]):=by
  have C:ll [.sq c2,.sq c] [⟨.l c2,y⟩,⟨.l c,Y⟩]=U ([U (.sq c2 y),U (.sq c Y)],[]):=by
   simp only[ll,q]
  show(match(match ll [.sq c2,.sq c] [⟨.l c2,y⟩,⟨.l c,Y⟩]with|some (xs,r)=>U (U (il.st [.s k,.ref 2,.u])::xs,r)|none=>zz)with|some (xs,r)=>U (zz::xs,r)|none=>zz)=_;rw[C]
 have E:=p.symm.trans E;injection E with E;injection E with e61 e62
 match vs,H with
 | [V,I,J],_=>
   simp only[ji,List.cons.injEq,Prod.mk.injEq,and_true,true_and]at hz;simp_all
theorem Yvo{P:Program}{fm:FM}{ρ:Ren}{z:List Value}(L:ry P ρ z){c c2:Cs}(O:z.length=c.width){i:Int}{V:c.den}{xs:List c.den}{nm:ByteArray}{at2:List c2.den}(h0:0<=i)(M:i.toNat<=xs.length)(F:xs.length+1<=c_)
  {pls:Pl} {Kp:Nat->Prop} {H:ic} {args:List AV} {Xs:hZ} (C:Xs=[U (.sq c xs),U (.st [.s nm,.ref 2,.ref 0]),U (.sq c2 at2)]) (R:CT Xs pls [.ref 0,.i .i64 i,.l c [V]] args) (p:ib Kp H Xs pls H) (S:kZ Kp H)
  {w:World} {Lc:Nat->Loc} {vals:Array Value} (hr:HR fm w Lc (hf H)) (ab:vals.size=args.length) (T: ∀j a,args[j]?=U a->VR fm w Lc (vals.getD j undef) a) {X2:hZ} (g:X2=[zz,U (.st [.s nm,.ref 2,.u]),U (.sq c2 at2),U (.sq c (xs.take i.toNat++([V]++xs.drop i.toNat)))]):
  Calls P (ρ.f 22) vals w λe w'=> ∃v W,e= .returned v/\iv Lc w w'/\hY Lc W w.heap.size/\HR fm w' W (hf (oD Kp H 3 X2 (jx pls 3 H.length X2)))/\VR fm w' W v (kE X2 (jx pls 3 H.length X2) (.ref 3)):=by
 obtain⟨m,rfl⟩: ∃m:Nat,i=m:=⟨i.toNat,by omega⟩;rw[mN]at M g;obtain⟨a0,ra,rfl,Y,Z⟩:=R.inv;obtain⟨a1,rb,rfl,a3,a4⟩:=Z.inv;obtain⟨a2,rc,rfl,a5,a6⟩:=a4.inv;have G:rc=[]:=mC.1 a6.1.symm;subst G;have e1:a1= .v (.int .i64 m):=by cases a3;rfl
 subst e1;have d:b_ Xs 0=U (.sq c xs):=by rw[C];rfl
 have D:b_ Xs 2=U (.sq c2 at2):=by rw[C];rfl
 obtain⟨x,el,g1,g2,g3,g4⟩:=p.obj 0 _ d;obtain⟨_,_,_,_,ac,_⟩:=p.obj 2 _ D;have I:a0= .ref x 0 xs.length:=by
  cases Y with
  |ref a x' o n h hn N=>
   rw[d]at h;injection h with h;subst h
   rw[g1]at N;injection N with N;subst N
   simp only[iz]at hn;simp_all
  |nA a av h ha=>simp_all
 subst I;have J:Coe a2 (.rd c.width [c.enc V]):=by cases a5 with|l c v a h=>exact h
 have ad:(c.enc V).length=c.width:=rJ c V;have ae:x<H.length:=(iP.1 g2).1;have af:=BX J (T 2 a2 rfl);have a7:=g4.1;refine(Yvm L hr (x:=x) (nid:=H.length) (n:=xs.length) (i:=m) (el:=el) (e0:=c.enc V) (vals:=vals) (by show H[x]?=_;simp_all) (by simp[hf]) a7 M (by omega) F (by trivial) (T 0 _ rfl) (T 1 _ rfl) (by simp_all)).mono ?_;rintro e w' ⟨v,L1,rfl,K,A,k3,k4⟩;have hH:iB (hf H) H.length [.set x zz,.push (U ⟨z.length,el.take m++[c.enc V]++el.drop m⟩)]=hf (H.set x zz++[U ⟨c.width,el.take m++[c.enc V]++el.drop m⟩]):=by
  simp only[iB];rw[Gs (by show H[x]?≠zz;simp_all),O];have:=lH (H:=H.set x zz) (o:=U ⟨c.width,el.take m++[c.enc V]++el.drop m⟩);simp_all
 rw[hH]at k3;obtain⟨Q,_⟩:=Cn p d g1;have E:Rows (el.take m++[c.enc V]++el.drop m) c (xs.take m++([V]++xs.drop m)):=by
  rw[<-qS];refine yW (yW ⟨by simp_all,λq e v K A=> ?_⟩ (Rows.cons (by exact⟨rfl,λj y y' h1 h2=>by rw[h1]at h2;injection h2 with h2;subst h2;exact .refl _⟩) (Rows.none c))) ⟨by simp_all,λq e v K A=> ?_⟩
  .rw[oU]at K A;split at K
   .rename_i hq;rw[if_pos hq]at A;exact g4.2 q e v K A
   trivial
  .rw[rU]at K A;exact g4.2 _ e v K A
 obtain⟨Q,_⟩:=Zk Q [0];have a8:pN [0] (hU Xs 0 zz) 0=[zz,U (.st [.s nm,.ref 2,.u]),U (.sq c2 at2)]:=by rw[C];rfl
 rw[a8]at Q;obtain⟨q2,_⟩:=pw Q (.sq c (xs.take m++([V]++xs.drop m))) ⟨c.width,el.take m++[c.enc V]++el.drop m⟩ (λ_=>⟨(H.set x zz).length,el.take m++[c.enc V]++el.drop m,by rfl,by simp,g3,E⟩);have a9:[zz,U (il.st [.s nm,.ref 2,.u]),U (.sq c2 at2)]++[U (.sq c (xs.take m++([V]++xs.drop m)))]=X2:=g.symm;rw[a9]at q2;have ht:TR X2 (iF (tF pls 0) (.m [zz,U (il.st [.s nm,.ref 2,.u]),U (.sq c2 at2)].length) (U (H.set x zz).length)) (.ref 3) (.ref H.length 0 (xs.length+1)):=by
  refine .ref 3 H.length (.sq c (xs.take m++([V]++xs.drop m))) _ (by rw[g];rfl) ?_ ?_
  .simp only[iz,nV,xd,List.length_drop,qG];grind
  .simp[iF]
 have X:Xs.length=3:=by simp_all
 have aa:X2.length=4:=by simp_all
 have k:iw X2 (List.range 4)=X2:=by rw[g];rfl
 have B:=CA (Xs:=Xs) (pls:=pls) (Xh:=X2) (v:=.ref 3) (m:=List.range 4) (s:=⟨[],H.set x zz++[U ⟨c.width,el.take m++[c.enc V]++el.drop m⟩],H.length⟩) p S q2 rfl (by omega) (λi M y hy=>by
   rw[X]at M;unfold iF at hy;rw[if_neg (λe=>by simp_all)]at hy;unfold tF at hy;simp_all) wW (by rw[X];trivial) ht (by rw[k,g];rfl) (by
   rw[k,g];simp[oC,mM,pq,b_,js];trivial)
 rw[k,X]at B;obtain⟨L2,f1,f2,f3⟩:=B fm w' L1 v k3 k4;refine⟨v,L2,rfl,K,f1 Lc w.heap.size (λb hb=> ?_) A,f2,f3⟩;apply Classical.byContradiction;intro ag;exact hb ((hr.fresh b).2 (qb (by simp_all)))
theorem Yvp{P:Program}{fm:FM}{T:iT}(S:l4 P fm T){g:Nat}(c c2:Cs)(I:T.pf g=zj)
  (M: ∀f,fm f=g->kB P f=zZ/\ ∃(ρ:Ren) (z:List Value),ry P ρ z/\z.length=c.width/\ρ.f 22=f):l4 P fm ⟨T.pf,om g c c2::T.fs,T.ls,0⟩:=by
 obtain⟨C,N,J⟩:=S;have k:C.pf g=zZ->Pure (om g c c2).RI:=λh=>by rw[J.p.pf,I]at h;cases h
 refine⟨ur C g (om g c c2).RI,wm N k (λf O=> ?_),AO (e:=om g c c2) J (λh=>by rw[show(om g c c2).g=g from rfl,I]at h;cases h) (λ_ _ _ _ _ h=>h)⟩;rintro args H r H' ⟨x,y,vs,Xs,pls,Kp,v,l,X2,h1,h2,h3,p,A,B,L,R,W,h7,h8,h9,X,rfl,rfl⟩;obtain⟨d,ρ,z,K,Y,rfl⟩:=M f O;refine⟨d,λw Lc vals Z D hv=> ?_⟩;have hl:vs.length=3:=xY h2;obtain⟨rfl,E,rfl,F⟩:=Yvn (c:=c) (c2:=c2) (x:=x) (ys:=y) (rm h2) hl R W;obtain⟨i,n,xs,nm,at2⟩:=x;have h1:PJ (α:=c.den) (β:=c2.den) (i,n,xs,nm,at2)=U y:=h1;unfold PJ at h1;split at h1
 .rename_i r G;injection h1 with h1;subst h1
  obtain⟨Q,q⟩:=iU G;injection q with q;subst q
  simp only[iI,decide_eq_true_eq]at Q;obtain⟨Q,q,q3,q4⟩:=Q;obtain⟨V,rfl⟩: ∃V,n=[V]:=List.length_eq_one_iff.1 (jr q3);have:=Yvo K Y (nm:=nm) (at2:=at2) Q (l9 q) (l9 q4) E p A B Z D hv F;simp_all
 trivial
end Go.Abs
namespace Go.Abs
open Go Go.RowKit Go.Shelf Go.Proofs Go.Lib
section
variable{P:Program}{fm:FM}{ρ:Ren}{w:World}{Lc:Nat->Loc}
def PK(k:Int)(l:List Int):List Int:=l.filter λn=> !decide (n=k)
end
def Hu(x:List Int×Int):Option (Int×List Int):=bif js 0 x.1.length then U (x.2,PK x.2 x.1)else zz
end Go.Abs
namespace Go.Abs
open Go Go.RowKit Go.Shelf Go.Proofs Go.Lib
abbrev ux:=Option Addr×Nat×Nat
abbrev encS(x:ux):Value:=.slice x.1 x.2.1 x.2.2
def CS(P:Program)(f:FuncId):Prop:=
 (∀args w,(callFunc f args).run P w= .ok (.enter f args) w)/\ ∀(x:ux) (W:World),FnGives P f #[] #[encS x] (.bool (decide (x.2.1=0))) W
theorem Yvq{W:World}{g:Nat}{d:Array ux}{cur:Array Value}{ty:TypeId}{fr:Nat×Nat}(h:W.heap[g]?=U (.cells cur ty fr)):(Sort.putRow encS W g 0 d).heap[g]?=U (.cells (Sort.putCells encS 0 d cur) ty fr):=by
 simp[Sort.putRow,Sort.mapBlock,Array.getElem?_modify,h,Sort.onCells]
theorem Yvr{W:World}{g k:Nat}{d:Array ux}(h:k≠g):(Sort.putRow encS W g 0 d).heap[k]?=W.heap[k]?:=by
 simp[Sort.putRow,Sort.mapBlock,Array.getElem?_modify,Ne.symm h]
set_option maxHeartbeats 4000000 in
set_option maxRecDepth 1000000 in
theorem AnyE.l7{P:Program}{ρ:Ren}(L:SlLaysH.n10 P ρ)(a:Option Addr)(c:Nat)(fv:Value)(w:World):
  Calls P (ρ.f 10) #[.slice a 0 c,fv] w λe w'=>e= .returned (.slice a 0 c)/\w'=w:=by
 have mixed:=L.mixed;have t0:=L.t0;have a0:=L.a0;have z0:=L.z0;have v0:=L.v0;have t3:=L.t3;have a3:=L.a3;have z3:=L.z3;have v3:=L.v3;have t4:=L.t4;have a4:=L.a4;have z4:=L.z4;have v4:=L.v4;have t22:=L.t22;have a22:=L.a22;have z22:=L.z22;have v22:=L.v22;have a23:=L.a23;have z23:=L.z23;have t25:=L.t25;have a25:=L.a25;have z25:=L.z25;have v25:=L.v25;have e6: ∀args w,(callFunc (ρ.f 6) args).run P w= .ok (.enter (ρ.f 6) args) w:=L.f6.enters rfl;have hIF:=AnyE.slices_IndexFunc_empty (P:=P) (ρ:=ρ) {L with} a c fv w;obtain⟨_,_,FG⟩:=L.f10
 go_enter FG,SlBodyH.n10_ntmps ρ
 go_wp2_with (go_at_fn (ρ.f 6);refine hIF.mono ?_;rintro e w' ⟨rfl,rfl⟩)
 go_ret
 exact⟨rfl,rfl⟩
section
variable{P:Program}{fm:FM}{ρ:Ren}{w:World}{Lc:Nat->Loc}{c:Cs}
def qk(l:List (List c.den)):List (List c.den):=l.filter λv=> !v.isEmpty
structure TT(fm:FM)(w:World)(Lc:Nat->Loc)(c:Cs)(t:ux×AV×List c.den):Prop where
 vr:VR fm w Lc (encS t.1) t.2.1
 co:Coe t.2.1 (.rd c.width (t.2.2.map c.enc))
theorem TT.len{t:ux×AV×List c.den}(h:TT fm w Lc c t):t.1.2.1=t.2.2.length:=by
 rcases wK (BX h.co h.vr)with⟨h1,A,c',h2⟩| ⟨b,o,c',vals,h2,_⟩
 .simp_all
 simp_all
theorem mkT: ∀(vs:List Value) (el:List (List AV)) (l:List (List c.den)),el.length=l.length->vs.length=l.length->
  (∀(i:Nat) (e:List AV) (v:List c.den) (x:Value),el[i]?=U e->l[i]?=U v->vs[i]?=U x-> ∃a,e=[a]/\VR fm w Lc x a/\Coe a (.rd c.width (v.map c.enc)))->
  ∃T:List (ux×AV×List c.den),el=T.map (λt=>[t.2.1])/\l=T.map (λt=>t.2.2)/\vs=T.map (λt=>encS t.1)/\ ∀t∈T,TT fm w Lc c t
 | [],[],[],_,_,_=>⟨[],rfl,rfl,rfl,λ_ h=>nomatch h⟩
 | [],_::_,[],h,_,_| [],_::_,_::_,_,h,_| [],[],_::_,_,h,_|_::_,[],_::_,h,_,_|_::_,_::_,[],h,_,_|_::_,[],[],_,h,_=>by grind
 |x::vs,e::el,v::l,h1,h2,h=>by
  obtain⟨T,k,p,q,z⟩:=mkT vs el l (by simp_all) (by simp_all) (λi e v x a b c=>h (i+1) e v x (by trivial) (by trivial) (by trivial));obtain⟨a,rfl,H,d⟩:=h 0 e v x rfl rfl rfl;obtain⟨y,rfl⟩: ∃y:ux,x=encS y:=by
   rcases wK (BX d H)with⟨h1,A,c',rfl⟩| ⟨b,o,c',vals,rfl,_⟩
   .simp
   simp
  exact⟨(y,a,v)::T,by grind,by grind,by grind,λt g=>by
   rcases mT.1 g with rfl|g
   .exact⟨H,d⟩
   simp_all⟩
theorem Hv{T:List (ux×AV×List c.den)}(h: ∀t∈T,TT fm w Lc c t):Rows (T.map λt=>[t.2.1]) (.cons (.l c) .nil) (T.map λt=>t.2.2):=
 ⟨by grind,λi e v h1 h2=>by
  have h2:(T.map λt=>t.2.2)[i]?=U (show List c.den from v):=h2;rw[jt]at h1 h2;cases g:T[i]? with
  |none=>simp_all
  |some t=>
   rw[g]at h1 h2;injection h1 with h1;injection h2 with h2
   subst h1;subst h2;have k:=h t (jc g);exact⟨rfl,λj a b H d=>by
    cases j with
    |succ j=>trivial
    |zero=>
     injection H with H;injection d with d
     subst H;subst d;exact k.co⟩⟩
theorem Yvs(L:SlLaysH.n10 P ρ)(hz: ∀w,(zeroValue (ρ.t 23)).run P w= .ok (.slice zz 0 0) w){gc:Nat}(hE: ∀f,fm f=gc->CS P f){h:HF}(hr:HR fm w Lc h){x nid:Nat}{el:List (List AV)}{l:List (List c.den)}
  (N:h x=U (U ⟨1,el⟩)) (ai:h nid=zz) (k:Rows el (.cons (.l c) .nil) l) {vals:Array Value} (al:vals.size=2)
  (h0:VR fm w Lc (vals.getD 0 undef) (.ref x 0 l.length)) (h1:VR fm w Lc (vals.getD 1 undef) (.clo gc [])):
  Calls P (ρ.f 10) vals w λe w'=> ∃v L' el',e= .returned v/\iv Lc w w'/\hY Lc L' w.heap.size/\Rows el' (.cons (.l c) .nil) (qk l)/\HR fm w' L' (iB h nid [.set x zz,.push (U ⟨1,el'⟩)])/\VR fm w' L' v (.ref nid 0 (qk l).length):=by
 have am:x≠nid:=λe=>by simp_all
 obtain⟨K,a8,an⟩: ∃K,fm K=gc/\vals.getD 1 undef= .func (.func K) #[] #[]:=by
  generalize hv:vals.getD 1 undef=v at h1;generalize ha:AV.clo gc []=a at h1;cases h1 with
  |clo f xs cs hs aj=>
   simp_all
  |_=>cases ha
 have H: ∀v0,vals.getD 0 undef=v0->vals= #[v0,.func (.func K) #[] #[]]:=λv0 E=>by
  apply Array.ext
  .trivial
  .intro i ao ap;have p:i<2:=by omega
   match i,p with
   |0,_=>simp_all
   |1,_=>simp_all
 have y: ∀{w':World} {el':List (List AV)},HR fm w' Lc (λb=>if b=x then U (U ⟨1,el'⟩)else h b)->
   hY Lc (λb=>if b=nid then Lc x else if b=x then .dead else Lc b) w'.heap.size/\HR fm w' (λb=>if b=nid then Lc x else if b=x then .dead else Lc b) (iB h nid [.set x zz,.push (U ⟨1,el'⟩)]):=λ{w' el'} k4=>by
  obtain⟨k5,k6⟩:=J' (a:=x) (nid:=nid) (o:=⟨1,el'⟩) k4 (by simp) (by grind);refine⟨k5,?_⟩;have e1:(λb=>if b=nid then U (U (⟨1,el'⟩:iu))else if b=x then U zz else if b=x then U (U ⟨1,el'⟩)else h b)=
    iB h nid [.set x zz,.push (U ⟨1,el'⟩)]:=by
   funext b;by_cases e1:b=nid<;>by_cases e2:b=x<;>simp[e1,e2,iB,iD]
  grind
 rcases td hr N h0 with⟨g,es,cap,hL,O,aq,E⟩| ⟨A,b,hL,M,_,a9,E⟩
 .have Q:es=1:=O;subst Q;have R:vals.getD 0 undef= .slice (U ⟨g,0,zz⟩) l.length cap:=by trivial
  have S:=hr.obj x _ N;rw[hL]at S;obtain⟨_,_,V,aa,ak,cur,bt,X,ab,ac⟩:=S;have Y:el.length=l.length:=k.1;have V:el.length<=cap:=V;obtain⟨T,t1,t2,t3,t4⟩:=mkT (fm:=fm) (w:=w) (Lc:=Lc) ((List.range l.length).map λi=>cur.getD i undef) el l Y (by simp) (λi e v x he hv N=>by
   have p:i<l.length:=(iP.1 hv).1;have N:cur.getD i undef=x:=by
    grind
   have hc:=k.2 i e v he hv;obtain⟨a,rfl⟩: ∃a,e=[a]:=List.length_eq_one_iff.1 hc.1;refine⟨a,rfl,?_,hc.2 0 a _ rfl rfl⟩;have:=(ac i _ 0 a he rfl).2;grind)
  have ar:T.length=l.length:=by grind
  have F: ∀j (B:j<T.length),cur.getD j undef=encS T[j].1:=λj B=>by
   have:=congrArg (λz=>z[j]?) t3;grind
  obtain⟨ad,Z⟩:=hE K a8;have hH:Sort.Holds encS w g 0 (T.map λt=>t.1).toArray:=λj B=>by
   have a3:j<T.length:=by grind
   have a4:j<cur.size:=by omega
   refine⟨?_,?_⟩
   .have:=F j a3;rw[mI,rH a4,qu]at this;simp[World.cell?,X,a4,this,a3]
   .simp[World.frozen?,X]
  have C:=AnyE.slices_DeleteFunc L encS (λ_=>rfl) (λn=>decide (n.2.1=0)) K #[] ad (zz,0,0) hz g 0 cap (T.map λt=>t.1).toArray w
   (λW x M=>Z x W) (λn os dk x _=>Z x _) hH (by simp only[maxLen]at aa;grind) (by grind)
  rw[H _ R];have a0:(T.map λt=>t.1).toArray.size=l.length:=by grind
  rw[a0]at C;refine C.mono ?_;rintro e w' ⟨rfl,q,rfl⟩;have G: ∀(t:ux×AV×List c.den),t∈T->(!decide (t.1.2.1=0))= !t.2.2.isEmpty:=λt ht=>by
   rw[(t4 t ht).len];grind
  obtain⟨d,a5⟩: ∃d,d=T.filter λt=> !t.2.2.isEmpty:=⟨_,rfl⟩;have a6: ∀t∈d,TT fm w Lc c t:=λt ht=>t4 t (by grind);have ae:((T.map λt=>t.1).toArray.toList.filter λx=> !decide (x.2.1=0))=d.map λt=>t.1:=by
   rw[a5];show(T.map λ(t:ux×AV×List c.den)=>t.1).filter _=_;rw[List.filter_map];congr 1;exact List.filter_congr λt ht=>G t ht
  have a7:qk l=d.map λt=>t.2.2:=by
   rw[a5,t2];show(T.map λ(t:ux×AV×List c.den)=>t.2.2).filter _=_;rw[List.filter_map];rfl
  have au:d.length<=l.length:=by grind
  rw[ae];generalize hD:((d.map λ(t:ux×AV×List c.den)=>t.1)++List.replicate (l.length-(d.map λ(t:ux×AV×List c.den)=>t.1).length) (zz,0,0)).toArray=D;have av:D.size=l.length:=by grind
  have aw: ∀j (B:j<d.length),(D[j]!)=d[j].1:=λj B=>by
   grind
  have af:(Sort.putCells encS 0 D cur).size=cap*1:=by simp[Sort.putCells,ab]
  have a1:RR fm w Lc 1 (Sort.putCells encS 0 D cur) (d.map λt=>[t.2.1]):=by
   intro i e j a p B;simp only[jt]at p;cases I:d[i]? with
   |none=>grind
   |some t=>
    rw[I]at p;injection p with p;subst p
    cases j with
    |succ j=>trivial
    |zero=>
     injection B with B;subst B
     obtain⟨ax,ay⟩:=iP.1 I;have:(Sort.putCells encS 0 D cur).getD (i*1+0) undef=encS t.1:=by
      have ag:i<cur.size:=by omega
      rw[Nat.mul_one,sZ,mI];simp only[Sort.putCells,Array.getElem?_mapIdx,rH ag,l_,qu];grind
     rw[this];exact⟨rfl,(a6 t (jc I)).vr⟩
  obtain⟨k1,k2⟩:=EK (cur':=Sort.putCells encS 0 D cur) (el:=d.map λt=>[t.2.1]) hr N hL X af (by grind) (λe he=>by grind) a1;have M:Below (w.setRow g (Sort.putCells encS 0 D cur)).heap.size (w.setRow g (Sort.putCells encS 0 D cur)) (Sort.putRow encS (Sort.ahead w q) g 0 D):=
   ⟨rfl,rfl,rfl,by simp,λb _=>by
    by_cases J:b=g
    .subst J;rw[Yvq (W:=Sort.ahead w q) (cur:=cur) (ty:=bt) (fr:=(0,0)) X,setRow_heap w b cur _ bt (0,0) X]
    .rw[Yvr J,setRow_other _ _ _ _ J];rfl⟩
  have k3:=k1.trans (hY.refl _ _) (uu M);have k4:=k2.mono (uu M) (λb ah _=>M.block b ah);obtain⟨k5,k6⟩:=y k4;refine⟨_,λb=>if b=nid then Lc x else if b=x then .dead else Lc b,d.map λt=>[t.2.1],rfl,k3,?_,?_,k6,?_⟩
  .have:(Sort.putRow encS (Sort.ahead w q) g 0 D).heap.size=w.heap.size:=by simp
   grind
  .rw[a7];exact Hv a6
  .rw[a7];have:=VR.jH (fm:=fm) (w:=Sort.putRow encS (Sort.ahead w q) g 0 D) (L:=λb=>if b=nid then Lc x else if b=x then .dead else Lc b) g 1 cap nid 0 d.length (by grind) (by omega);grind
 .have hl:l=[]:=List.eq_nil_of_length_eq_zero a9;subst hl;have a2:el=[]:=List.eq_nil_of_length_eq_zero k.1;subst a2;rw[H _ E];refine(AnyE.l7 L A 0 _ w).mono ?_;rintro e w' ⟨rfl,rfl⟩;obtain⟨k5,k6⟩:=y (w':=w') (el':=[]) (by
   have:(λb=>if b=x then U (U (⟨1,[]⟩:iu))else h b)=h:=by
    grind
   simp_all)
  exact⟨_,λb=>if b=nid then Lc x else if b=x then .dead else Lc b,[],rfl,iv.refl _ _,k5,k,k6,.jo A nid b (by grind) M⟩
end
abbrev Fx(c:Cs):Cs:=.cons (.l (.cons (.l c) .nil)) .nil
def qM(g gc:Nat)(c:Cs):hM:=⟨g,zj,⟨[0,1],[.ref 0,.clo gc []],[.sq (.cons (.l c) .nil)],Fx c⟩,.ref 1,[.dd,.sq (.cons (.l c) .nil)],Fx c,λx=>U (qk (c:=c) x)⟩
theorem Yvt{gc:Nat}{c:Cs}{x:List (List c.den)}{ys:List (List c.den)}{vs:List TV}{Xs X2:hZ}{v:TV}{l:List Lf}(h:Sg.fill ⟨[0,1],[.ref 0,.clo gc []],[.sq (.cons (.l c) .nil)],Fx c⟩ x=U ⟨ji [0,1] vs,Xs⟩)(H:vs.length=2)
  (d:kH (.ref 1) (kp (Fx c) ys)=U (v,l)) (E:ll [.dd,.sq (.cons (.l c) .nil)] l=U (X2,[])):vs=[.ref 0,.clo gc []]/\Xs=[U (.sq (.cons (.l c) .nil) x)]/\v= .ref 1/\X2=[zz,U (.sq (.cons (.l c) .nil) ys)]:=by
 have k: ∀x:List (List c.den),m_ (.cons (.l c) .nil) (.cons (.l c) .nil) x=U x:=λx=>wh (.cons (.l c) .nil) x;have p:Sg.fill ⟨[0,1],[.ref 0,.clo gc []],[.sq (.cons (.l c) .nil)],Fx c⟩ x=U ⟨ji [0,1] [.ref 0,.clo gc []],[U (.sq (.cons (.l c) .nil) x)]⟩:=by
  have q:kp (Fx c) x=[⟨.l (.cons (.l c) .nil),x⟩]:=rfl;simp only[Sg.fill,q,pn,kH,ll,rL,k]
 have h:=p.symm.trans h;injection h with h;injection h with hz hX
 injection d with d;injection d with e51 e52
 subst e52;have g:ll [.dd,.sq (.cons (.l c) .nil)] [⟨.l (.cons (.l c) .nil),ys⟩]=U ([zz,U (.sq (.cons (.l c) .nil) ys)],[]):=by
  simp only[ll,rL,k]
 have E:=g.symm.trans E;injection E with E;injection E with e61 e62
 match vs,H with
 | [V,w],_=>
   simp only[ji,List.cons.injEq,Prod.mk.injEq,and_true,true_and]at hz;simp_all
theorem Yvu{P:Program}{fm:FM}{ρ:Ren}{c:Cs}(L:SlLaysH.n10 P ρ)(hz: ∀w,(zeroValue (ρ.t 23)).run P w= .ok (.slice zz 0 0) w){gc:Nat}(hE: ∀f,fm f=gc->CS P f){xs:List (List c.den)}
  {pls:Pl} {Kp:Nat->Prop} {H:ic} {args:List AV} {Xs:hZ} (A:Xs=[U (.sq (.cons (.l c) .nil) xs)]) (F:CT Xs pls [.ref 0,.clo gc []] args) (z:ib Kp H Xs pls H) (G:kZ Kp H)
  {w:World} {Lc:Nat->Loc} {vals:Array Value} (S:HR fm w Lc (hf H)) (a3:vals.size=args.length) (T: ∀j a,args[j]?=U a->VR fm w Lc (vals.getD j undef) a) {X2:hZ} (k:X2=[zz,U (.sq (.cons (.l c) .nil) (qk xs))]):
  Calls P (ρ.f 10) vals w λe w'=> ∃v I,e= .returned v/\iv Lc w w'/\hY Lc I w.heap.size/\HR fm w' I (hf (oD Kp H 1 X2 (jx pls 1 H.length X2)))/\VR fm w' I v (kE X2 (jx pls 1 H.length X2) (.ref 1)):=by
 obtain⟨a0,ra,rfl,J,K⟩:=F.inv;obtain⟨a1,rb,rfl,M,N⟩:=K.inv;have B:rb=[]:=mC.1 N.1.symm;subst B;have d:b_ Xs 0=U (.sq (.cons (.l c) .nil) xs):=by rw[A];rfl
 obtain⟨x,el,V,g2,g3,g4⟩:=z.obj 0 _ d;have C:a0= .ref x 0 xs.length:=by
  cases J with
  |ref a x' o n h O E=>
   rw[d]at h;injection h with h;subst h
   rw[V]at E;injection E with E;subst E
   injection O with O;subst O;rfl
  |nA a av h ha=>simp_all
 subst C;have D:a1= .clo gc []:=by
  cases M with
  |clo g cs bs hl h=>
   grind
 subst D;refine(Yvs L hz hE S (x:=x) (nid:=H.length) (el:=el) (l:=xs) (vals:=vals) g2 (by simp[hf]) g4 (by trivial) (T 0 _ rfl) (T 1 _ rfl)).mono ?_;rintro e w' ⟨v,L1,el',rfl,k1,k2,k5,W,k4⟩;have hH:iB (hf H) H.length [.set x zz,.push (U ⟨1,el'⟩)]=hf (H.set x zz++[U ⟨1,el'⟩]):=by
  simp only[iB];rw[Gs (by show H[x]?≠zz;simp_all)];have:=lH (H:=H.set x zz) (o:=U ⟨1,el'⟩);simp_all
 rw[hH]at W;obtain⟨Y,_⟩:=Cn z d V;have Q:hU Xs 0 zz=[zz]:=by rw[A];rfl
 rw[Q]at Y;obtain⟨Z,_⟩:=pw Y (.sq (.cons (.l c) .nil) (qk xs)) ⟨1,el'⟩ (λ_=>⟨(H.set x zz).length,el',by rfl,by simp[Cs.width],g3,k5⟩);have R:[zz]++[U (.sq (.cons (.l c) .nil) (qk xs))]=X2:=k.symm;rw[R]at Z;have ht:TR X2 (iF (tF pls 0) (.m [(zz:Option il)].length) (U (H.set x zz).length)) (.ref 1) (.ref H.length 0 (qk xs).length):=by
  refine .ref 1 H.length (.sq (.cons (.l c) .nil) (qk xs)) _ (by rw[k];rfl) ?_ ?_
  .rfl
  .simp[iF]
 have X:Xs.length=1:=by simp_all
 have a2:X2.length=2:=by simp_all
 have p:iw X2 (List.range 2)=X2:=by rw[k];rfl
 have q:=CA (Xs:=Xs) (pls:=pls) (Xh:=X2) (v:=.ref 1) (m:=List.range 2) (s:=⟨[],H.set x zz++[U ⟨1,el'⟩],H.length⟩) z G Z rfl (by omega) (λi hi y hy=>by
   unfold iF at hy;unfold tF at hy;simp_all) wW (by rw[X];trivial) ht (by rw[p,k];rfl) (by
   rw[p,k];rfl)
 rw[p,X]at q;obtain⟨L2,f1,f2,f3⟩:=q fm w' L1 v W k4;refine⟨v,L2,rfl,k1,f1 Lc w.heap.size (λb hb=> ?_) k2,f2,f3⟩;apply Classical.byContradiction;intro a4;exact hb ((S.fresh b).2 (qb (by simp_all)))
theorem Yvv{P:Program}{fm:FM}{T:iT}(S:l4 P fm T){g:Nat}(gc:Nat)(c:Cs)(E:T.pf g=zj)
  (I: ∀f,fm f=g->kB P f=zZ/\ ∃ρ:Ren,SlLaysH.n10 P ρ/\ (∀w,(zeroValue (ρ.t 23)).run P w= .ok (.slice zz 0 0) w)/\ (∀f,fm f=gc->CS P f)/\ρ.f 10=f):l4 P fm ⟨T.pf,qM g gc c::T.fs,T.ls,0⟩:=by
 obtain⟨C,J,F⟩:=S;have k:C.pf g=zZ->Pure (qM g gc c).RI:=λh=>by rw[F.p.pf,E]at h;cases h
 refine⟨ur C g (qM g gc c).RI,wm J k (λf K=> ?_),AO (e:=qM g gc c) F (λh=>by rw[show(qM g gc c).g=g from rfl,E]at h;cases h) (λ_ _ _ _ _ h=>h)⟩;rintro args H r H' ⟨x,y,vs,Xs,pls,Kp,v,l,X2,h1,h2,Z,p,q,z,G,M,N,h7,h8,h9,O,rfl,rfl⟩;obtain⟨d,ρ,L,R,V,rfl⟩:=I f K;refine⟨d,λw Lc vals W A X=> ?_⟩;have Y:vs.length=2:=xY h2;obtain⟨rfl,B,rfl,D⟩:=Yvt (gc:=gc) (x:=x) (ys:=y) (rm h2) Y M N;have Q:U (qk (c:=c) x)=U y:=h1;injection Q with Q;subst Q
 have:=Yvu L R V B p q z W A X D;simp_all
end Go.Abs
namespace Go.Abs
open Go Go.RowKit Go.Shelf Go.Proofs
def YCB(es:Nat):vP:=λargs H r H'=> ∃l:List (List AV),args=[.rd es l]/\ (∀e∈l,e.length=es)/\l.length<=c_/\r= .ref H.length 0 l.length/\H'=H++[U ⟨es,l⟩]
theorem Yvw{P:Program}{fm:FM}{C:Ctx}(p:jq P fm C)(q:P.follows .mixedOrders=zZ){f:FuncId}{n es:Nat}{z:List Value}(d:0<es)(h:lk P fm C.pf f=U (n,[.t 2],vf es z))(y:1<=n):qc P fm f (YCB es):=by
 refine KB p q h (by simp) ?_;rintro args H r H' ⟨l,rfl,w,g,rfl,rfl⟩;refine⟨by trivial,Pw d w g (by rfl) (λh0 env k=> ?_) (λenv k=>⟨[jk env 2],⟨rfl,trivial⟩,?_⟩)⟩
 .refine⟨_,KD k d,[.ref H.length 0 0],⟨rfl,trivial⟩,?_⟩;subst h0;exact XC (.refl _)
 .rw[show qd [jk env 2]= .ref H.length 0 l.length from k];exact XC (.refl _)
open Classical in
theorem Yvx{P:Program}{fm:FM}{f:FuncId}{es:Nat}(hF:qc P fm f (YCB es))(Ga:0<es){H:ic}{w:World}{L:Nat->Loc}(hr:HR fm w L (hf H)){x:Nat}{el:List (List AV)}(hx:H[x]?=U (U ⟨es,el⟩))
  {vals:Array Value} (ZG:vals.size=1) (h0:VR fm w L (vals.getD 0 undef) (.ref x 0 el.length)) (hle:el.length<=c_):
  kB P f=zZ/\Calls P f vals w λe w'=> ∃v L',e= .returned v/\iv L w w'/\hY L L' w.heap.size/\HR fm w' L' (hf (H++[U ⟨es,el⟩]))/\VR fm w' L' v (.ref H.length 0 el.length):=by
 have PL:wd es=es:=rW Ga;have CU:hf H H.length=none:=by simp[hf]
 obtain⟨L1,hL1⟩: ∃L1:Nat->Loc,L1=λa=>if L a= .fresh then .fresh else .dead:=⟨_,rfl⟩
 have CV: ∀a,L1 a= .fresh\/L1 a= .dead:=λa=>by rw[hL1];dsimp only;split<;>simp
 have LH: ∀b,¬kN L1 b:=λb hb=>by
  rcases hb with⟨a,e,c,h⟩| ⟨a,i,h⟩<;>rcases CV a with h'|h'<;>rw[h']at h<;>cases h
 have hnw: ∀b,¬ma L1 b:=λb hb=>by
  rcases hb with hb| ⟨a,s,h,_⟩
  .exact LH b hb
  .rcases CV a with h'|h'<;>rw[h']at h<;>cases h
 have hr1:HR fm w L1 (hf (List.replicate H.length zz)):=by
  have xj: ∀a o,hf (List.replicate H.length zz) a=U (U o)->False:=λa o h=>by
   simp only[hf,vN]at h;split at h<;>cases h
  refine⟨λa o h=>(xj a o h).elim,λa h=> ?_,λa=> ?_,λa b g e c e' c' h=> ?_,λa s h=> ?_,λa o g es cap h=>(xj a o h).elim,λa i g h=> ?_,λp hp=>⟨hnw _,(hr.tab p hp).2⟩⟩
  .rcases h with⟨g,e,c,h⟩| ⟨b,h⟩<;>rcases CV a with h'|h'<;>rw[h']at h<;>cases h
  .have:=hr.fresh a;simp only[hf,vN,List.getElem?_eq_none_iff]at this⊢;rw[hL1];dsimp only;constructor
   .intro h;split at h
    .rename_i hfr;have:=this.1 hfr;rw[if_neg (by omega)]
    .cases h
   .intro h;split at h
    .cases h
    .rw[if_pos (this.2 (by omega))]
  .rcases CV a with h'|h'<;>rw[h']at h<;>cases h
  .rcases CV a with h'|h'<;>rw[h']at h<;>cases h
  .rcases CV a with h'|h'<;>rw[h']at h<;>cases h
 have hvl:=td hr hx h0;obtain⟨lv,hlv,hla,Fy⟩: ∃lv:List (List AV),lv.length=el.length/\ (∀e∈lv,e.length=es)/\VR fm w L1 (vals.getD 0 undef) (.rd es lv)/\
   (el≠ []-> ∃g cap cur ty,L x= .cells g es cap/\w.heap[g]?=U (.cells cur ty (0,0))/\cur.size=cap*es/\lv=(List.range el.length).map λi=>(List.range es).map λj=>.v (cur.getD (i*es+j) undef)):=by
  rcases hvl with⟨g,nX,cap,hL,CW,hcl,PM⟩| ⟨A,b,hL,hb,_,AP,PM⟩
  .have he:nX=es:=by rw[CW];exact PL
   subst he;have xk:=hr.obj x _ hx;rw[hL]at xk;obtain⟨_,_,JX,PA,Hw,cur,bt,hg,LI,PN⟩:=xk;refine⟨(List.range el.length).map λi=>(List.range nX).map λj=>.v (cur.getD (i*nX+j) undef),by simp,λe he=>by
    obtain⟨i,_,rfl⟩:=mH.1 he;simp,?_,λ_=>⟨g,cap,cur,bt,hL,hg,LI,rfl⟩⟩
   rw[PM];by_cases hn:el=[]
   .subst hn;exact .lT _ _ _
   .have YF7:0<el.length:=List.length_pos_iff.2 hn;have hi: ∀{i:Nat} {e:List AV} {j:Nat} {y:AV},((List.range el.length).map λi=>(List.range nX).map λj=>AV.v (cur.getD (i*nX+j) undef))[i]?=U e->e[j]?=U y->i<el.length/\j<nX/\y= .v (cur.getD (i*nX+j) undef):=λ{i e j y} h1 h2=>by
     have hil:i<el.length:=by simpa using(iP.1 h1).1
     rw[jt,pO hil]at h1;injection h1 with h1;subst h1
     have hjl:j<nX:=by simpa using(iP.1 h2).1
     rw[jt,pO hjl]at h2;injection h2 with h2
     exact⟨hil,hjl,h2.symm⟩
    have Hy: ∀i j,i<el.length->j<nX->i*nX+j<cur.size:=λi j hi hj=>by
     rw[LI]
     calc i*nX+j<i*nX+nX:=by omega
      _=(i+1)*nX:=by rw[nY,Nat.one_mul]
      _<=cap*nX:=lD _ (by have:el.length<=cap:=JX;omega)
    have:=VR.rd (fm:=fm) (w:=w) (L:=L1) g 0 (cap-0) nX ((List.range el.length).map λi=>(List.range nX).map λj=>AV.v (cur.getD (i*nX+j) undef)) (λi j=>cur.getD (i*nX+j) undef)
     (λe=>by have:=congrArg List.length e;simp at this;exact hn this) (λe he=>by obtain⟨i,_,rfl⟩:=mH.1 he;simp) Ga (by have:el.length<=cap:=JX;simp;omega) (hnw g) ((pV.1 hg).1)
     (λi e j y h1 h2=>by
      obtain⟨k1,k2,rfl⟩:=hi h1 h2;have PO:=Hy i j k1 k2;simp[World.cell?,hg,mI,rH PO])
     (λi e j y h1 h2=>by
      obtain⟨k1,k2,rfl⟩:=hi h1 h2;have e1:=je k1;have LJ:=Hw _ (List.getElem_mem k1);exact(PN i _ j _ e1 (je (show j< (el[i]).length by rw[LJ];exact k2))).1)
     (λi e j y h1 h2=>by
      obtain⟨k1,k2,rfl⟩:=hi h1 h2;exact .v _)
    simpa using this
  .have hn:el=[]:=List.eq_nil_of_length_eq_zero AP;subst hn;exact⟨[],rfl,(λe he=>nomatch he),(by rw[PM];exact .lT _ _ _),λh=>absurd rfl h⟩
 obtain⟨Fy,Hz⟩:=Fy;obtain⟨PQ,hF⟩:=hF [.rd es lv] (List.replicate H.length zz) _ _ ⟨lv,rfl,hla,by omega,rfl,rfl⟩;refine⟨PQ,(hF w L1 vals hr1 (by simpa using ZG) (λj a hj=> ?_)).mono ?_⟩
 .match j,hj with
  |0,hj=>injection hj with hj;subst hj;exact Fy
 rintro e w' ⟨v,L',rfl,k1,k2,k3,k4⟩;rw[List.length_replicate]at k4;have hk:iv L w w':=⟨k1.os,k1.tape,k1.output,k1.size,λb hb _=>k1.lF b hb (LH b),k1.tY⟩;have hkb: ∀b,b<w.heap.size->w'.heap[b]?=w.heap[b]?:=λb hb=>k1.lF b hb (LH b);have hx':hf (List.replicate H.length zz++[U ⟨es,lv⟩]) H.length=U (U ⟨es,lv⟩):=by simp[hf]
 have AS:hf (H++[U ⟨es,el⟩])=iD (hf H) H.length (.push (U ⟨es,el⟩)):=(lH (H:=H) (o:=U ⟨es,el⟩)).symm;rcases td k3 hx' k4 with⟨g',nX,CX,PR,CW,YF8,PS⟩| ⟨A,b,PR,hb,_,AP,PS⟩
 .have he:nX=es:=by rw[CW];exact PL
  subst he;have xk:=k3.obj _ _ hx';rw[PR]at xk;obtain⟨_,_,PT,PU,YF3,cur',bt',PB,PW,PX⟩:=xk;have PY:w.heap.size<=g':=(k2.r_ g' (.inl ⟨_,_,_,PR⟩)).resolve_left (LH g');have LJ: ∀e∈el,e.length=nX:=λe he=>by
   obtain⟨g,cap,cur,ty,PZ,hg,LI,HA⟩:=Hz (λh=>by rw[h]at he;cases he);have xk:=hr.obj x _ hx;rw[PZ]at xk;exact xk.2.2.2.2.1 e he
  have YF9:lv.length<=CX:=PT;obtain⟨q1,q2⟩:=WC (os:=nX) (nid:=H.length) (g:=g') (cur:=cur') (ty:=bt') (cap:=CX) (el:=el) hr CU hk hkb PY PB Ga (by omega) PU LJ PW (λi e j y h1 h2=>by
   have hi:i<el.length:=(iP.1 h1).1;have hej:=LJ e (jc h1);have hj:j<nX:=by rw[<-hej];exact(iP.1 h2).1
   obtain⟨g,cap,cur,ty,PZ,hg,LI,HA⟩:=Hz (λh=>by rw[h]at hi;exact absurd hi (Nat.not_lt_zero _));have xk:=hr.obj x _ hx;rw[PZ]at xk;obtain⟨_,_,JX,PA,Hw,YGa,bt2,FA,YGb,PN⟩:=xk;rw[hg]at FA;injection FA with FA;injection FA with FA
   subst FA;obtain⟨o1,o2⟩:=PN i e j y h1 h2;have P0:lv[i]?=U ((List.range nX).map λj=>.v (cur.getD (i*nX+j) undef)):=by rw[HA,jt,pO hi];rfl
   have hc:=(PX i _ j (.v (cur.getD (i*nX+j) undef)) P0 (by rw[jt,pO hj];rfl)).2;rw[kI hc];refine⟨o1,o2.mono hk ?_⟩;refine⟨λa ha=> ?_,λb hb=> ?_,λb hb=> ?_⟩
   .left;rw[if_neg (λe=>ha (by rw[e];exact(hr.fresh _).2 CU))]
   .rcases hb with(⟨a,e,c,h⟩| ⟨a,i,h⟩)| ⟨a,s,h,hs⟩
    .dsimp only at h;by_cases ea:a=H.length
     .rw[if_pos ea]at h;injection h with h _ _;exact .inr (h▸PY)
     .rw[if_neg ea]at h;exact .inl (.inl (.inl ⟨a,e,c,h⟩))
    .dsimp only at h;by_cases ea:a=H.length
     .rw[if_pos ea]at h;cases h
     .rw[if_neg ea]at h;exact .inl (.inl (.inr ⟨a,i,h⟩))
    .dsimp only at h;by_cases ea:a=H.length
     .rw[if_pos ea]at h;cases h
     .rw[if_neg ea]at h;exact .inl (.inr ⟨a,s,h,hs⟩)
   .rcases hb with⟨a,e,c,h⟩| ⟨a,i,h⟩
    .dsimp only at h;by_cases ea:a=H.length
     .rw[if_pos ea]at h;injection h with h _ _;exact .inr (h▸PY)
     .rw[if_neg ea]at h;exact .inl (.inl ⟨a,e,c,h⟩)
    .dsimp only at h;by_cases ea:a=H.length
     .rw[if_pos ea]at h;cases h
     .rw[if_neg ea]at h;exact .inl (.inr ⟨a,i,h⟩)) PL.symm Ga
  refine⟨_,_,rfl,hk,q1,by rw[AS];exact q2,?_⟩;rw[PS,hlv];exact .jH g' nX CX H.length 0 el.length (by simp) (by omega)
 .have AP:el=[]:=List.eq_nil_of_length_eq_zero (by omega);subst AP;have hr':HR fm w' L (hf H):=hr.mono hk (λb hb _=>hkb b hb);obtain⟨q1,q2⟩:=BU (nid:=H.length) hr' CU (es:=es) w.heap.size b (λh=>absurd h (by omega));refine⟨_,_,rfl,hk,q1,by rw[AS];exact q2,?_⟩;rw[PS];exact .jo A H.length b (by simp) hb
def xl:Cs->Ty->Cs
 | .nil,t=>.cons t .nil
 | .cons a r,t=>.cons a (xl r t)
def LK(t:Ty):(c:Cs)->c.den->t.den->(xl c t).den
 | .nil,_,v=>v
 | .cons _ r,x,v=>uh (xl r t) (kU r x) (LK t r (lM r x) v)
theorem Yo2(t:Ty): ∀(c:Cs) (x:c.den) (v:t.den),kp (xl c t) (LK t c x v)=kp c x++[⟨t,v⟩]
 | .nil,_,_=>rfl
 | .cons a r,x,v=>by
   simp only[xl,LK,kp,xS,vX,rV];rw[Yo2 t r (lM r x) v]
theorem Yvy{g:Sg}{vs:List TV}{X:hZ}{x:g.c.den}(h:g.read vs X=U x):TV.qg vs=U g.vs/\ny X=U g.os/\kp g.c x=TV.oB vs++kW X:=by
 unfold Sg.read at h;split at h
 .rename_i svs S h1 h2;obtain⟨E,d⟩:=iU h;simp at E;have q:=SV.jv E.1;have Q:=SO.jv E.2;have H:=G_ (TV.oB vs++kW X);generalize tt (TV.oB vs++kW X)=p at d H;obtain⟨c,z⟩:=p;obtain⟨e,k⟩:=Cs.kC d;grind
 trivial
theorem P3: ∀{A B:List SO} {L r R:List Lf} {X Y:hZ},ll A L=U (X,r)->ll B r=U (Y,R)->ll (A++B) L=U (X++Y,R)
 | [],B,L,r,R,X,Y,h1,h2=>by
   injection h1 with h1;simp_all
 |a::A,B,L,r,R,X,Y,h1,h2=>by
  by_cases hd:a= .dd
  .subst hd;simp only[rV,ll]at h1⊢;split at h1
   .rename_i xs g H;injection h1 with h1;injection h1 with h1 h
    subst h1;subst h;rw[P3 H h2];rfl
   trivial
  .have d: ∀A L,ll (a::A) L=match rL a L with|some (x,r)=>(match ll A r with|some (xs,r)=>U (U x::xs,r)|none=>zz)|none=>none:=λA L=>by cases a<;>first|rfl|trivial
   rw[rV,d];rw[d]at h1;split at h1
   .rename_i x g H;split at h1
    .rename_i xs k h;injection h1 with h1;injection h1 with h1 h5
     subst h1;subst h5;rw[P3 h h2];rfl
    trivial
   trivial
def CY:hZ->Bool
 | []=>zZ
 |some (.fm ..)::_=>zj
 |_::r=>CY r
def C0(i:Nat)(c:Cs)(A:List SO)(C:Cs)(x:C.den):Option (xl C (.l c)).den:=
 match ll A (kp C x)with
 |some (X,[])=>bif CY X then match b_ X i with
  |some (.sq c' l)=>match m_ c' c l with
   |some l=>bif iS l.length c_&&iS 1 c.width then U (LK (.l c) C x l)else zz
   |none=>zz
  |_=>zz
  else zz
 |_=>zz
def vl(g i:Nat)(c:Cs)(A:List SO)(C:Cs):hM:=⟨g,zj,⟨[0],[.ref i],A,C⟩,.ref A.length,A++[.sq c],xl C (.l c),C0 i c A C⟩
mutual
theorem Yvz{X:hZ}{r:Nat->Option Nat}(hr: ∀a o,b_ X a=U o->r a=U a): ∀{v:TV},pq X v=zZ->v.jm r=v
 | .i _ _,_| .b _,_| .s _,_| .l _ _,_| .u,_| .e _,_| .nl,_| .ef _,_=>rfl
 | .ref a,h=>by
   simp only[pq]at h;cases ho:b_ X a with
   |none=>rw[ho]at h;cases h
   |some o=>simp only[TV.jm,hr a o ho]
 | .np a,h=>by
   simp only[pq]at h;cases ho:b_ X a with
   |none=>rw[ho]at h;cases h
   |some o=>simp only[TV.jm,hr a o ho]
 | .ptr a i j,h=>by
   simp only[pq,iI]at h;cases ho:b_ X a with
   |none=>rw[ho]at h;exact absurd h.2 (by simp)
   |some o=>simp only[TV.jm,hr a o ho]
 | .ag x,h=>by simp only[TV.jm,HB hr (show mM X x=zZ from h)]
 | .tp x,h=>by simp only[TV.jm,HB hr (show mM X x=zZ from h)]
 | .clo g x,h=>by simp only[TV.jm,HB hr (show mM X x=zZ from h)]
 | .v _,h| .pre _ _,h| .sub _ _ _,h| .nq _ _ _ _ _,h| .rp _,h| .lt _,h=>by cases h
theorem HB{X:hZ}{r:Nat->Option Nat}(hr: ∀a o,b_ X a=U o->r a=U a): ∀{v:List TV},mM X v=zZ->TV.my r v=v
 | [],_=>rfl
 |a::v,h=>by
  simp only[mM,iI]at h;simp only[TV.my,Yvz hr h.1,HB hr h.2]
end
theorem HC{X:hZ}{r:Nat->Option Nat}(H: ∀a o,b_ X a=U o->r a=U a): ∀{Y:hZ} {i:Nat} {o:il},oC X Y=zZ->CY Y=zZ->b_ Y i=U o->o.jm r=o
 | [],i,o,_,_,h=>by cases h
 |none::Y,0,o,_,_,h=>by cases h
 |none::Y,i+1,o,h1,h2,h=>HC H (Y:=Y) h1 h2 h
 |some (.sq c l)::Y,0,o,h1,h2,h=>by injection h with h;subst h;rfl
 |some (.sb l)::Y,0,o,h1,h2,h=>by injection h with h;subst h;rfl
 |some (.fm ..)::Y,_,o,h1,h2,h=>by cases h2
 |some (.st cs)::Y,0,o,h1,h2,h=>by
  injection h with h;subst h
  simp only[oC,iI]at h1;simp only[il.jm,HB H h1.1.2]
 |some (.sq c l)::Y,i+1,o,h1,h2,h=>by
  simp only[oC,iI]at h1;exact HC H (Y:=Y) h1.2 h2 h
 |some (.sb l)::Y,i+1,o,h1,h2,h=>HC H (Y:=Y) h1 h2 h
 |some (.st cs)::Y,i+1,o,h1,h2,h=>by
  simp only[oC,iI]at h1;exact HC H (Y:=Y) h1.2 h2 h
theorem Yo3: ∀{X:hZ} {a:Nat} {o:il},b_ X a=U o->X[a]?=U (U o)
 | [],_,_,h=>by cases h
 |x::X,0,o,h=>by exact congrArg U h
 |x::X,a+1,o,h=>by rw[List.getElem?_cons_succ];exact Yo3 h
theorem Yo4{n a:Nat}(h:a<n):ja (List.range n) a 0=U a:=Hm wW (pO h)
theorem YvA{X:hZ}(h1:oC X X=zZ)(h2:CY X=zZ):iw X (List.range X.length)=X:=by
 have g: ∀a o,b_ X a=U o->ja (List.range X.length) a 0=U a:=λa o h=>Yo4 (ki h);apply pT;intro i;rw[jt];by_cases H:i<X.length
 .rw[pO H,je H,l_];congr 1;cases d:b_ X i with
  |none=>
   have: ∀(Y:hZ) (j:Nat) (k:j<Y.length),b_ Y j=zz->Y[j]=none:=by
    intro Y;induction Y with
    |nil=>trivial
    |cons a Y I=>
     intro j k h;cases j with
     |zero=>exact h
     |succ j=>exact I j (by simp_all) h
   simp_all
  |some o=>
   have:=Yo3 d;rw[je H]at this;injection this with this
   rw[this,l_,HC g h1 h2 d]
 simp_all
theorem YvB{P:Program}{fm:FM}{T:iT}(hS:l4 P fm T)(hm:P.follows .mixedOrders=zZ){g:Nat}(i:Nat)(c:Cs)(A:List SO)(p:Cs)(D:T.pf g=zj)(z:List Value)(n:Nat)(Z:1<=n)
  (k: ∀f,fm f=g->lk P fm T.pf f=U (n,[.t 2],vf c.width z)):l4 P fm ⟨T.pf,vl g i c A p::T.fs,T.ls,0⟩:=by
 obtain⟨C,hC,hT⟩:=hS;have a1:C.pf g=zZ->Pure (vl g i c A p).RI:=λh=>by rw[hT.p.pf,D]at h;cases h
 refine⟨ur C g (vl g i c A p).RI,wm hC a1 (λf hf=> ?_),AO (e:=vl g i c A p) hT (λh=>by rw[show(vl g i c A p).g=g from rfl,D]at h;cases h) (λ_ _ _ _ _ h=>h)⟩;have k:=k f hf;rw[<-hT.p.pf]at k;rintro args H r H' ⟨x,y,vs,Xs,pls,Kp,v,l,X2,h1,h2,h3,a2,E,a3,ad,h5,h6,h7,h8,h9,ae,rfl,rfl⟩;obtain⟨r1,r2,r3⟩:=Yvy h2;have a4:vs=[.ref i]:=by
  have hf:=Ct (vs:=vs) (svs:=[.ref i]) [] r1;have:pn [.ref i] (TV.oB vs++[])=U ([.ref i],TV.oB vs++[]):=by rfl
  simp_all
 subst a4;have af:TV.oB [TV.ref i]=[]:=rfl;have r3:kp p x=kW Xs:=r3.trans (by rfl);have h1:C0 i c A p x=U y:=h1;have a5:ll A (kp p x)=U (Xs,[]):=by rw[r3];have:=Fc [] r2;rw[List.append_nil]at this;trivial
 unfold C0 at h1;rw[a5]at h1;dsimp only at h1;obtain⟨p1,h1⟩:=iU h1;split at h1
 .rename_i c' d K;split at h1
  .rename_i l1 a6;obtain⟨p2,h1⟩:=iU h1;obtain⟨ec,F⟩:=Ty.kC a6;injection ec with ec
   subst ec;have F:d=l1:=F;subst F;injection h1 with h1
   simp only[iI]at p2;have b1:d.length<=c_:=l9 p2.1;have b2:0<c'.width:=l9 p2.2;have M:A.length=Xs.length:=by
    have: ∀{G:List SO} {L r:List Lf} {X:hZ},ll G L=U (X,r)->G.length=X.length:=by
     intro G;induction G with
     |nil=>intro L r X h;injection h with h;simp_all
     |cons a G N=>
      intro L r X h;by_cases hd:a= .dd
      .subst hd;simp only[ll]at h;grind
      .have hf:ll (a::G) L=match rL a L with|some (x,r)=>(match ll G r with|some (xs,r)=>U (U x::xs,r)|none=>zz)|none=>none:=by cases a<;>first|rfl|trivial
       grind
    grind
   have hu:kp (xl p (.l c')) y=kW Xs++[⟨.l c',d⟩]:=by
    rw[<-h1];exact(Yo2 (.l c') p x d).trans (congrArg (· ++[(⟨.l c',d⟩:Lf)]) r3)
   have e5:kH (.ref A.length) (kp (xl p (.l c')) y)=U (v,l):=h5;have a7:kH (.ref A.length) (kp (xl p (.l c')) y)=U (.ref A.length,kp (xl p (.l c')) y):=by rfl
   rw[a7]at e5;injection e5 with e5;injection e5 with ev el
   subst ev;have J:ll (A++[.sq c']) l=U (X2,[]):=h6;have e7:ll [.sq c'] [⟨.l c',d⟩]=U ([U (.sq c' d)],[]):=by
    have hx:m_ c' c' d=U d:=wh c' d;show(match(match m_ c' c' d with|some v=>U (il.sq c' v,[])|none=>zz:Option (il×List Lf))with|some (x,r)=>(match ll [] r with|some (xs,r)=>U (U x::xs,r)|none=>zz)|none=>zz)=_;rw[hx];rfl
   have a8:ny Xs=U A:=r2;rw[<-el,hu,P3 (Fc [⟨.l c',d⟩] a8) e7]at J;injection J with J;injection J with J _
   have I:X2=Xs++[U (.sq c' d)]:=J.symm;obtain⟨a0,ra,rfl,a9,ab⟩:=a2.inv;have O:ra=[]:=mC.1 ab.1.symm;subst O;obtain⟨x0,el,g1,g2,g3,g4⟩:=E.obj i _ K;have Q:a0= .ref x0 0 d.length:=by
    cases a9 with
    |ref a x' o n h Z D=>
     rw[K]at h;injection h with h;subst h
     rw[g1]at D;injection D with D;subst D
     injection Z with Z;grind
    |nA a av h ha=>grind
   subst Q;have R:el.length=d.length:=g4.1;have hF:=Yvw hC hm b2 k Z;have q:kB P f=true:=by
    obtain⟨fn,c0,ag,hb,q,_⟩:=XE k;trivial
   refine⟨q,λw Lc vals hr ah hv=> ?_⟩;refine(Yvx hF b2 hr (x:=x0) (el:=el) g2 (by trivial) (by have:=hv 0 _ rfl;grind) (by omega)).2.mono ?_;rintro e w' ⟨v,L1,rfl,k1,k2,k3,k4⟩;obtain⟨q2,_⟩:=pw E (.sq c' d) ⟨c'.width,el⟩ (λ_=>⟨H.length,el,by simp[iF],by simp,g3,g4⟩);rw[<-I]at q2;have ht:TR X2 (iF pls (.m Xs.length) (U H.length)) (.ref A.length) (.ref H.length 0 el.length):=by
    refine .ref A.length H.length (.sq c' d) _ ?_ ?_ ?_
    .rw[I,M,Za (jG _),Nat.sub_self];rfl
    .rw[R];rfl
    .simp[iF,M]
   have S:X2.length=Xs.length+1:=by grind
   have V:CY X2=true:=by
    rw[I];have: ∀(Y:hZ),CY Y=zZ->CY (Y++[U (.sq c' d)])=true:=by
     intro Y;induction Y with
     |nil=>intro _;rfl
     |cons a Y N=>
      intro h
      match a,h with
      |none,h=>exact N h
      |some (.sq ..),h=>exact N h
      |some (.st ..),h=>exact N h
      |some (.sb ..),h=>exact N h
      |some (.fm ..),h=>cases h
    grind
   have W:iw X2 (List.range X2.length)=X2:=YvA h9 V;have ac:(TV.ref A.length).jm (λa=>ja (List.range X2.length) a 0)= .ref A.length:=by
    simp only[TV.jm,Yo4 (show A.length<X2.length by omega)]
   have B:=CA (Xs:=Xs) (pls:=pls) (Xh:=X2) (v:=.ref A.length) (m:=List.range X2.length) (s:=⟨[],H++[U ⟨c'.width,el⟩],H.length⟩) E a3 q2 rfl (by omega) (λj hj y hy=>by
     unfold iF at hy;grind) wW (by rw[S,List.range_succ];simp) ht (by grind) (by grind)
   rw[W,ac]at B;obtain⟨L2,f1,f2,f3⟩:=B fm w' L1 v k3 k4;refine⟨v,L2,rfl,k1,f1 Lc w.heap.size (λb hb=> ?_) k2,f2,f3⟩;apply Classical.byContradiction;intro ai;exact hb ((hr.fresh b).2 (qb (by grind)))
  trivial
 trivial
end Go.Abs
namespace Go.Abs
open Go Go.RowKit Go.Shelf Go.Proofs
section
variable{P:Program}{fm:FM}{w:World}{L:Nat->Loc}
theorem YvC{h:HF}(H:HR fm w L h){b:Nat}(d:ma L b):b<w.heap.size:=by
 rcases d with(⟨a,es,cap,h1⟩| ⟨a,i,h1⟩)| ⟨a,s,h1,y⟩
 .obtain⟨o,d⟩:=H.live a (.inl ⟨_,_,_,h1⟩);have:=H.obj a o d;rw[h1]at this;obtain⟨_,_,_,_,_,cur,ty,h2,_⟩:=this;grind
 .obtain⟨⟨o,d⟩,_⟩:=H.qU a i b h1;have:=H.obj a o d;rw[h1]at this;cases i with
  |false=>
   obtain⟨_,es,k,c0,R,T,h2,_⟩:=this;grind
  |true=>
   obtain⟨_,a0,s,t,S,z,G,p,q,g,h2,_⟩:=this;grind
 .exact(H.hid a s h1 b y).1
theorem YvD{f:FuncId}{R:List AV->AV->Prop}(d:kB P f=zZ)
  (h: ∀args r,R args r-> ∃xs:List Value,args=xs.map AV.v/\ ∀w L,(∀b,ma L b->b<w.heap.size)->rf fm w->Calls P f xs.toArray w λe w'=> ∃x,e= .returned x/\Below w.heap.size w w'/\VR fm w' L x r):qc P fm f (q_ R):=by
 rintro args H r H' ⟨n,rfl,rfl,_,_,y⟩;refine⟨d,λw L vs k z A=> ?_⟩;obtain⟨xs,rfl,B⟩:=h _ _ y;have:vs=xs.toArray:=by
  apply Array.ext
  .simp_all
  .intro i h1 h2;have E:i<xs.length:=by trivial
   have:=A i (.v xs[i]) (by simp);have:=kI this;simp_all
 subst this;refine(B w L (λb g=>YvC k g) λp C=>(k.tab p C).2).mono ?_;rintro e w' ⟨x,rfl,g,D⟩;exact⟨x,L,rfl,uu g,hY.refl _ _,k.mono (uu g) (λb q _=>g.block b q),D⟩
end
def vm(P:Program)(fm:FM)(f:FuncId)(k:IntKind)(L:Nat)(d B:Int)(F:ByteArray->Int×Bool):Prop:=
 ∀(s:ByteArray) (w:World),s.size<=L->rf fm w->Calls P f #[.string s,.int .i64 d,.int .i64 B] w λe w'=>
  (∃v,e= .returned (.tuple #[.int k (F s).1,v])/\ (((F s).2=zZ/\ ∃t p,v= .iface t p)\/((F s).2=zj/\v= .nilIface)))/\Below w.heap.size w w'
abbrev zl(P:Program)(fm:FM)(f:FuncId)(k:IntKind)(B:Int)(F:ByteArray->Int×Bool):Prop:=vm P fm f k 281474976710656 10 B F
def C1(L:Nat)(d B:Int)(F:ByteArray->Int×Bool)(s:ByteArray)(b g:Int):Option (Int×Bool):=bif iS s.size L&&decide (b=d)&&decide (g=B)then U (F s)else zz
abbrev YCC(B:Int)(F:ByteArray->Int×Bool)(s:ByteArray)(b d:Int):Option (Int×Bool):=C1 281474976710656 10 B F s b d
def sA(g:Nat)(k:IntKind)(L:Nat)(d B:Int)(F:ByteArray->Int×Bool):hM:=
 ⟨g,zZ,⟨[0,1,2],[.s,.i .i64,.i .i64],[],.cons .s (.cons (.i .i64) (.cons (.i .i64) .nil))⟩,.tp [.i k,.ef],[],.cons (.i k) (.cons .b .nil),λ(p:ByteArray×Int×Int)=>C1 L d B F p.1 p.2.1 p.2.2⟩
abbrev AT(g:Nat)(k:IntKind)(B:Int)(F:ByteArray->Int×Bool):hM:=sA g k 281474976710656 10 B F
theorem YvE{vs:List TV}(H:vs.length=3){X:hZ}{V d g:TV}(h:U (lu.mk (ji [0,1,2] [V,d,g]) [])=U ⟨ji [0,1,2] vs,X⟩):vs=[V,d,g]:=by
 match vs,H with
 | [k,p,q],_=>
   injection h with h;injection h with h _
   simp only[ji,List.cons.injEq,Prod.mk.injEq,and_true,true_and]at h;simp_all
theorem YvF{P:Program}{fm:FM}{f:FuncId}{g:Nat}{k:IntKind}{L:Nat}{q B:Int}{F:ByteArray->Int×Bool}(K:vm P fm f k L q B F)(z:kB P f=zZ):qc P fm f (q_ (sA g k L q B F).R):=by
 refine YvD z ?_;rintro args r ⟨x,y,vs,v,h1,h2,X,rfl,J,Y,rfl⟩;have M:vs.length=3:=xY h2;have H:=rm h2;have D: ∀(x:ByteArray×Int×Int) (y:Int×Bool),C1 L q B F x.1 x.2.1 x.2.2=U y->Sg.fill ⟨[0,1,2],[.s,.i .i64,.i .i64],[],.cons .s (.cons (.i .i64) (.cons (.i .i64) .nil))⟩ x=U ⟨ji [0,1,2] vs,[]⟩->kH (.tp [.i k,.ef]) (kp (.cons (.i k) (.cons .b .nil)) y)=U (v,[])->
   vs=[.s x.1,.i .i64 q,.i .i64 B]/\v= .tp [.i k (F x.1).1,.ef (F x.1).2]/\x.1.size<=L:=by
  rintro⟨a,b,d⟩ y A N O;obtain⟨e0,A⟩:=iU A;injection A with A;subst A
  simp only[iI,decide_eq_true_eq]at e0;obtain⟨⟨Q,R⟩,S⟩:=e0;subst R;subst S;refine⟨YvE M N,?_,l9 Q⟩;have E:(match(match(bif decide (k=k)then U (TV.i k (F a).1,[(⟨.b,(F a).2⟩:Lf)])else zz)with|some (x,r)=>(match pn [.ef] r with|some (xs,r)=>U (x::xs,r)|none=>zz)|none=>zz)with|some (l,r)=>U (TV.tp l,r)|none=>zz)=U (v,[]):=O;rw[decide_eq_true rfl]at E;injection E with E
  simp_all
 obtain⟨rfl,rfl,T⟩:=D x y h1 H J;refine⟨[.string (show ByteArray×Int×Int from x).1,.int .i64 q,.int .i64 B],rfl,λw Lc I G=> ?_⟩;generalize(show ByteArray×Int×Int from x).1=s at*
 refine(K s w T G).mono ?_;rintro e w' ⟨⟨v,rfl,V⟩,W⟩;refine⟨_,rfl,W,?_⟩;show VR fm w' Lc _ (.iZ [.v (.int k (F s).1),KE (F s).2]);refine .iZ _ _ rfl (λj a C=> ?_)
 match j with
 |0=>simp at C;subst C;exact .v _
 |1=>
  simp at C;subst C;rcases V with⟨h,t,p,rfl⟩| ⟨h,rfl⟩
  .rw[h];exact .er t p
  .rw[h];exact .v _
 |j+2=>trivial
theorem Yo5{P:Program}{fm:FM}{T:iT}(S:l4 P fm T){g:Nat}(k:IntKind)(L:Nat)(d B:Int)(F:ByteArray->Int×Bool)(p:T.pf g=zZ)
  (G: ∀f,fm f=g->kB P f=zZ/\vm P fm f k L d B F):l4 P fm ⟨T.pf,sA g k L d B F::T.fs,T.ls,0⟩:=
 Fs S (e:=sA g k L d B F) p (λf h=>YvF (G f h).2 (G f h).1)
theorem YvG{P:Program}{fm:FM}{T:iT}(h:l4 P fm T){g:Nat}(k:IntKind)(B:Int)(F:ByteArray->Int×Bool)(p:T.pf g=zZ)
  (G: ∀f,fm f=g->kB P f=zZ/\zl P fm f k B F):l4 P fm ⟨T.pf,AT g k B F::T.fs,T.ls,0⟩:=
 Yo5 h k 281474976710656 10 B F p G
def vp(s:ByteArray):Int×Bool:=match Lib.parseIntB 64 s.data.toList with
 | .ok v=>(v,zj)
 | .range=>(Lib.intSat 64 s.data.toList,zZ)
 |_=>(0,zZ)
def yd(c:Array Value):Prop:= ∃t p,c= #[.iface t p]
theorem YvH{P:Program}{fm:FM}{ρ:Ren}(L:LaysC.n174 P ρ){q Q:Array Value->Prop}(h1:(ρ.g 15,q)∈fm.tb)(H: ∀c,q c->yd c)(h2:(ρ.g 16,Q)∈fm.tb)(d: ∀c,Q c->yd c):zl P fm (ρ.f 174) .i64 64 vp:=by
 intro s w z k;have C: ∀{g:Nat} {q:Array Value->Prop},(g,q)∈fm.tb->(∀c,q c->yd c)-> ∃t p,w.cell? ⟨g,0,zz⟩=U (.iface t p):=by
  intro g q h H;obtain⟨c,t,fr,A,B⟩:=k _ h;obtain⟨T,p,rfl⟩:=H c A;exact⟨T,p,by rw[Lib.cell_of_heap B];rfl⟩
 unfold vp;cases h:Lib.parseIntB 64 s.data.toList with
 |ok v=>
  refine(Any.strconv_ParseInt_10_at64_ok L s (by omega) v h w).mono ?_;rintro e w' ⟨rfl,D⟩;refine⟨⟨_,rfl,.inr ⟨rfl,rfl⟩⟩,?_⟩;rcases D with rfl| ⟨t,rfl⟩
  .exact Below.refl _ _
  .exact Lib.bytesWorld_below _ _ _
 |range=>
  obtain⟨t,p,y⟩:=C h2 d;refine(Any.strconv_ParseInt_10_at64_range L s z h _ w y (.inr ⟨_,_,rfl⟩)).mono ?_;simp_all
 |_=>
  obtain⟨t,p,y⟩:=C h1 H;refine(Any.strconv_ParseInt_10_at64_syntax L s z h _ w y (.inr ⟨_,_,rfl⟩)).mono ?_;simp_all
end Go.Abs
namespace Go.Abs
open Go Go.RowKit Go.Shelf Go.Proofs
abbrev YCD(g:Nat):hM:=AT g .i64 64 vp
def P4(n:Int):Option ByteArray:=bif decide (-9223372036854775808<=n)&&decide (n<=9223372036854775807)then U (pC n)else zz
def rz(g:Nat):hM:=⟨g,zZ,⟨[0],[.i .i64],[],.cons (.i .i64) .nil⟩,.s,[],.cons .s .nil,λ(p:Int)=>P4 p⟩
theorem YvI{vs:List TV}(H:vs.length=1){X:hZ}{V:TV}(h:U (lu.mk (ji [0] [V]) [])=U ⟨ji [0] vs,X⟩):vs=[V]:=by
 match vs,H with
 | [d],_=>
   injection h with h;injection h with h _
   simp only[ji,List.cons.injEq,Prod.mk.injEq,and_true,true_and]at h;simp_all
theorem YvJ{P:Program}{fm:FM}{f:FuncId}{g:Nat}{ρ:Ren}(L:LaysM.n171 P ρ)(d:ρ.f 171=f)(H:kB P f=zZ){q:Array Value->Prop}(A:(ρ.g 17,q)∈fm.tb)(B: ∀c,q c->c=wu):qc P fm f (q_ (rz g).R):=by
 refine Z9 H ?_;rintro args r ⟨x,y,vs,v,h1,h2,z,rfl,C,Q,rfl⟩;have D:vs.length=1:=xY h2;have h:=rm h2;have K: ∀(x:Int) (y:ByteArray),P4 x=U y->Sg.fill ⟨[0],[.i .i64],[],.cons (.i .i64) .nil⟩ x=U ⟨ji [0] vs,[]⟩->kH .s (kp (.cons .s .nil) y)=U (v,[])->
   vs=[.i .i64 x]/\v= .s (pC x)/\ -9223372036854775808<=x/\x<=9223372036854775807:=by
  intro a y E F G;obtain⟨e0,E⟩:=iU E;injection E with E;subst E
  simp at e0;refine⟨YvI D F,?_,e0.1,e0.2⟩;have:U (TV.s (pC a),([]:List Lf))=U (v,[]):=G;simp_all
 obtain⟨rfl,rfl,I,J⟩:=K x y h1 h C;refine⟨[.int .i64 (show Int from x)],.string (pC (show Int from x)),rfl,rfl,λw p=> ?_⟩;subst d;refine(Any.strconv_Itoa L _ I J w (by
  obtain⟨c,t,f,M,z⟩:=p _ A;obtain rfl:=B c M;simp only[Lib.TabIs,World.var?,L.m17,pK,z,wu])).mono λe w' ⟨N,k,os,O⟩=>⟨N,?_⟩
 subst O;exact Lib.below_grow _ _ (jG _) _ _
theorem YvK{P:Program}{fm:FM}{T:iT}(S:l4 P fm T){g:Nat}(p:T.pf g=zZ)
  (G: ∀f,fm f=g->kB P f=zZ/\ ∃ρ:Ren,LaysM.n171 P ρ/\ (∃q,(ρ.g 17,q)∈fm.tb/\ ∀c,q c->c=wu)/\ρ.f 171=f):l4 P fm ⟨T.pf,rz g::T.fs,T.ls,0⟩:=
 Fs S (e:=rz g) p (λf h=>by obtain⟨k,ρ,K,⟨q,d,w⟩,y⟩:=G f h;exact YvJ K y k d w)
end Go.Abs
namespace Go.Abs
open Go Go.RowKit
def pD(c:Nat):Option Nat:=
 bif iS 48 c&&iS c 57 then U (c-48)else match(bits .or .u8 (c:Int) 32).toNat with
  |l=>bif iS 97 l&&iS l 102 then U (l-87)else zz
def la:Nat->List UInt8->Option Nat
 |a,[]=>U a
 |a,c::r=>match pD c.toNat with
  |some d=>la (a*16+d) r
  |none=>zz
def ql(s:ByteArray):Int×Bool:=bif im s.size 0 then(0,zZ)else match la 0 s.data.toList with
 |some n=>((n:Int),zj)
 |none=>(0,zZ)
end Go.Abs
namespace Go.Proofs
open Go.Shelf Go.RowKit Go.Abs
variable{P:Program}{ρ:Ren}
set_option maxHeartbeats 32000000 in
set_option maxRecDepth 100000 in
theorem YBM(L:Lays.n287 P ρ)(t:ByteArray)(F_:t.size≠0)(YGc:t.size<=2)(w:World):
  Calls P (ρ.f 287) #[.string t,.int .i64 16,.int .i64 8] w λe w'=>e= .returned (match la 0 t.data.toList with|some n=>.tuple #[.int .u64 n,.nilIface]|none=>.tuple #[.int .u64 0,.iface (ρ.t 167) (.int .i64 2)])/\w'=Lib.bytesWorld w (ρ.t 5) t:=by
 have mixed:=L.mixed;have t9:=L.t9;have a9:=L.a9;have z9:=L.z9;have v9:=L.v9;have t3:=L.t3;have a3:=L.a3;have z3:=L.z3;have v3:=L.v3;have t53:=L.t53;have a53:=L.a53;have z53:=L.z53;have v53:=L.v53;have t75:=L.t75;have a75:=L.a75;have z75:=L.z75;have v75:=L.v75;have t4:=L.t4;have a4:=L.a4;have z4:=L.z4;have v4:=L.v4;have t167:=L.t167;have a167:=L.a167;have z167:=L.z167;have v167:=L.v167;have t5:=L.t5;have a5:=L.a5;have z5:=L.z5;have v5:=L.v5;have t46:=L.t46;have a46:=L.a46;have z46:=L.z46;have v46:=L.v46;have t37:=L.t37;have a37:=L.a37;have z37:=L.z37;have v37:=L.v37;have t0:=L.t0;have a0:=L.a0;have z0:=L.z0;have v0:=L.v0;have YGd: ∀args w,(callFunc (ρ.f 321) args).run P w= .ok (.enter (ρ.f 321) args) w:=enters_of L.f321 (by kernel_rfl) rfl;have YGe:t.toList.isEmpty=false:=by
  rw[<-decide_eq_emptyBytes];exact decide_eq_false (λh=>F_ (by rw[h];rfl))
 have hcv:=Lib.run_convert_string_bytes (P:=P) w (ρ.t 9) (ρ.t 37) (ρ.t 5) t (u:=.string) L.t9 L.t37 L.t5;have hB: ∀j,j<t.size->(Lib.bytesWorld w (ρ.t 5) t).cell? ⟨w.heap.size,j,zz⟩=U (.int .u8 (t.data.toList.getD j 0).toNat):=λj hj=>Lib.bytesWorld_cell w (ρ.t 5) t j hj;obtain⟨W1,hW1⟩: ∃W1,W1=Lib.bytesWorld w (ρ.t 5) t:=⟨_,rfl⟩;rw[<-hW1]at hcv hB⊢;clear hW1;obtain⟨bs,hL⟩: ∃bs,bs=t.data.toList:=⟨_,rfl⟩;have hLn:bs.length=t.size:=by rw[hL,Lib.size_eq]
 rw[<-hL]at hB⊢;clear hL;obtain⟨R,hR⟩: ∃R,R=(match la 0 bs with|some n=>Value.tuple #[.int .u64 n,.nilIface]|none=>.tuple #[.int .u64 0,.iface (ρ.t 167) (.int .i64 2)]):=⟨_,rfl⟩;rw[<-hR];have hmv:IntKind.u64.wrap (IntKind.u64.wrap 256-1)=255:=by
  rw[IntKind.wrap_u64,IntKind.wrap_u64];decide
 go_enter L.f287,Body.n287_ntmps ρ
 go_wp2
 go_loop [12,13,101] (λvu vn vi=> ∃(k acc:Nat) (a:Int),vu= .bool zj/\vn= .int .u64 a/\vi= .int .i64 k/\k<=t.size/\Hid (a=(acc:Int)/\ (k=0->acc=0)/\acc<=255/\ (k<=1->acc<=15)/\la 0 bs=la acc (bs.drop k)))
  (λ_ _ vi=>t.size-(intOf vi).toNat)
 case atStart=>exact⟨0,0,0,rfl,rfl,rfl,by omega,rfl,λ_=>rfl,by omega,by omega,rfl⟩
 case round=>
  obtain⟨k,acc,a,rfl,rfl,rfl,hk,hh⟩:=hrel;obtain⟨ha,hz,zm,uy,qm⟩:=hh.out;clear hh;have a0:0<=a:=by omega
  have a1:a<=255:=by omega
  by_cases hkn:k<t.size
  .have hc:=hB k hkn;have P5:acc<=15:=uy (by omega);have AU:bs.drop k=bs[k]'(by omega)::bs.drop (k+1):=List.drop_eq_getElem_cons (by omega);have xj:bs.getD k 0=bs[k]'(by omega):=by simp[List.getD,je (show k<bs.length by omega)]
   rw[AU]at qm;rw[xj]at hc;generalize bs[k]'(by omega)=c at hc qm;have YF4:c.toNat<256:=c.toNat_lt;clear hB AU xj;by_cases HD:48<=c.toNat/\c.toNat<=57
   .obtain⟨E8,HE⟩:=HD;have hF:la acc (c::bs.drop (k+1))=la (acc*16+(c.toNat-48)) (bs.drop (k+1)):=by
     have:pD c.toNat=U (c.toNat-48):=by unfold pD;rw[qi E8,qi HE];rfl
     simp only[la,this]
    have HN:Hid (a*16+((c.toNat:Int)-48)=((acc*16+(c.toNat-48):Nat):Int)/\ (k+1=0->acc*16+(c.toNat-48)=0)/\acc*16+(c.toNat-48)<=255/\ (k+1<=1->acc*16+(c.toNat-48)<=15)/\la 0 bs=la (acc*16+(c.toNat-48)) (bs.drop (k+1))):=Lib.hid ⟨by omega,by omega,by omega,λh=>by have:=hz (by omega);omega,qm.trans hF⟩;have iov:a*16+((c.toNat:Int)-48)<=255:=by omega
    have ia:a<=15:=by omega
    clear zm hF qm ha hz uy P5
    go_wp2
    refine⟨⟨k+1,acc*16+(c.toNat-48),a*16+((c.toNat:Int)-48),rfl,(by first|rfl| (congr 1;omega)),(by first|rfl| (congr 1;omega)),by omega,HN⟩,by simp[intOf];omega⟩
   .have hv0:=bits_lo_u8 .or (c.toNat:Int) 32;have Fy:=bits_hi_u8 .or (c.toNat:Int) 32;obtain⟨l,hl⟩: ∃l:Int,l=bits .or .u8 (c.toNat:Int) 32:=⟨_,rfl⟩;have hD:pD c.toNat=bif iS 97 l.toNat&&iS l.toNat 102 then U (l.toNat-87)else none:=by
     unfold pD;have:(iS 48 c.toNat&&iS c.toNat 57)=false:=by
      cases e:(iS 48 c.toNat&&iS c.toNat 57)with
      |false=>rfl
      |true=>rw[iI]at e;exact absurd ⟨l9 e.1,l9 e.2⟩ HD
     rw[this,<-hl];rfl
    by_cases HG:97<=l/\l<=102
    .obtain⟨AP,CV⟩:=HG;have hF:la acc (c::bs.drop (k+1))=la (acc*16+(l.toNat-87)) (bs.drop (k+1)):=by
      simp only[la,hD];rw[qi (by omega),qi (by omega)];rfl
     have HN:Hid (a*16+(l-97+10)=((acc*16+(l.toNat-87):Nat):Int)/\ (k+1=0->acc*16+(l.toNat-87)=0)/\acc*16+(l.toNat-87)<=255/\ (k+1<=1->acc*16+(l.toNat-87)<=15)/\la 0 bs=la (acc*16+(l.toNat-87)) (bs.drop (k+1))):=Lib.hid ⟨by omega,by omega,by omega,λh=>by have:=hz (by omega);omega,qm.trans hF⟩;have iov:a*16+(l-97+10)<=255:=by omega
     have ia:a<=15:=by omega
     have h95:(c.toNat:Int)≠95:=λh=>by rw[h]at hl;rw[show bits .or .u8 95 32=127 by decide]at hl;omega
     clear zm hF qm ha hz uy P5 hD
     go_wp2_with (go_at_fn (ρ.f 321);refine(Any.internal_strconv_lower {L with} _ _).mono ?_;rintro e w' ⟨rfl,rfl⟩;rw[<-hl])
     all_goals try(refine⟨⟨k+1,acc*16+(l.toNat-87),a*16+(l-97+10),rfl,(by first|rfl| (congr 1;omega)),(by first|rfl| (congr 1;omega)),by omega,HN⟩,by simp[intOf];omega⟩)
    .have hF:la acc (c::bs.drop (k+1))=none:=by
      simp only[la,hD];have:(iS 97 l.toNat&&iS l.toNat 102)=false:=by
       cases e:(iS 97 l.toNat&&iS l.toNat 102)with
       |false=>rfl
       |true=>rw[iI]at e;exact absurd ⟨by have:=l9 e.1;omega,by have:=l9 e.2;omega⟩ HG
      rw[this];rfl
     rw[hF]at qm;clear zm hF ha hz uy P5 hD;have hu0:=bits_lo_u8 .or 95 32;have hu1:=bits_hi_u8 .or 95 32
     go_wp2_with (go_at_fn (ρ.f 321);refine(Any.internal_strconv_lower {L with} _ _).mono ?_;rintro e w' ⟨rfl,rfl⟩)
     all_goals go_ret2
     all_goals exact⟨by first|rfl| (rw[hR,qm];rfl)| (rw[hR];rfl),rfl⟩
  .have hkk:k=t.size:=by omega
   subst hkk;have hF:la acc (bs.drop t.size)=U acc:=by rw[List.drop_eq_nil_of_le (by omega)];rfl
   rw[hF]at qm;subst ha;clear zm hF a0 a1
   go_wp2
   go_ret2
   exact⟨by first|rfl| (rw[hR,qm];rfl)| (rw[hR];rfl),rfl⟩
end Go.Proofs
namespace Go.Abs
abbrev HH(g:Nat):hM:=sA g .u64 2 16 8 ql
end Go.Abs
namespace Go.Abs
def HI{S R:Type}(step:S->Option (S⊕R)):Nat->S->Option (Option R)
 |0,_=>zz
 |n+1,s=>match step s with
  |some (.inl d)=>HI step n d
  |some (.inr r)=>U (U r)
  |none=>U zz
theorem YpX{S R:Type}(step:S->Option (S⊕R)): ∀(n:Nat) (x:S) (o:Option R),HI step n x=U o->lY step x=o
 |0,_,_,h=>by cases h
 |n+1,x,o,h=>by
  rw[jz];simp only[HI]at h;split at h
  .rename_i s H;rw[H];exact YpX step n s o h
  .rename_i r H;rw[H];injection h
  .rename_i H;rw[H];injection h
noncomputable def P6(n:Nat):Lo:=⟨λstep x=>match HI step n x with|some y=>y|none=>lY step x⟩
theorem Ywm(n:Nat):P6 n=f_:=by
 unfold P6 f_;congr 1;funext S R step x;cases h:HI step n x with
 |none=>rfl
 |some y=>exact(YpX step n x y h).symm
end Go.Abs
