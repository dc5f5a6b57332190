/- Calls of functions that touch objects of others. No condition. -/
import Derived.Test.YtanbdececkgkhaaGreatDoorA2
import Derived.Test.YtanbdececkgkhaaGreatDoorA1
import Derived.KernelRfl
set_option linter.unusedVariables false
set_option linter.unusedSimpArgs false
set_option linter.unusedSectionVars false
open Option renaming some → U,none → zz
open Bool renaming true → zZ,false → zj
open List renaming getElem?_eq_some_iff → iP, mem_of_getElem? → jc, getElem?_eq_getElem → je, getElem?_map → jt, map_cons → kn, getElem?_append_left → ld, all_eq_true → ly, map_nil → mq, mem_iff_getElem? → mE, length_eq_zero_iff → mC, mem_map → mH, mem_cons → mT, getElem?_append_right → nF, length_append → nV, length_cons → pL, getElem?_range → pO, getElem?_eq_none → qb, mem_cons_self → pM, mem_filter → qY, length_map → pQ, length_singleton → qG, take_length → rN, ext_getElem? → pT, cons_append → rV, mem_range → tX, any_eq_true → uK, mem_singleton → uV, nodup_range → wW, getElem?_replicate → vN
open Nat renaming beq → im, ble → iS, eq_of_beq_eq_true → jr, blt → js, le_refl → jG, le_of_ble_eq_true → l9, zero_add → mD, lt_of_lt_of_le → mS, le_trans → nu, add_zero → sZ, zero_le → sP
open Option renaming map_eq_some_iff → lS, map_some → l_, isSome_iff_exists → pU, getD_some → qu, bind_eq_some_iff → xO
open Bool renaming and_eq_true → iI, not_true → qJ, or_eq_true → rG
namespace Go.Abs
open Go Go.RowKit
structure oE(T:iT)(C:Ctx):Prop where
 p:Hh T C
 Cy: ∀e∈T.fs,T.pf e.g=zj-> ∀args H r H',e.RI args H r H'->C.C e.g args H r H'
section
variable{Fr:Nat->Prop}{H0:ic}{X:hZ}{pl:Pl}{H:ic}{m:List Nat}
def tK:Option il->il->il
 |some (.fm _ _ v _ _),.fm hd c _ h l=>.fm hd c (v+1) h l
 |_,o=>o
theorem YtU(p o:Option il):X4 p o=o.map (tK p):=by
 cases p with
 |none=>cases o<;>rfl
 |some p=>cases p<;>cases o with
  |none=>rfl
  |some o=>cases o<;>rfl
theorem Y9(p:Option il)(o:il):iz (tK p o)=iz o/\lK (tK p o)=lK o:=by
 cases p with
 |none=>trivial
 |some p=>cases p<;>cases o with
  |fm hd _ _ _ _=>cases hd<;>exact⟨rfl,rfl⟩
  |_=>trivial
theorem YtV{X:hZ}{pl:Pl}{H:ic}{a:Nat}(p:Option il){o:il}(h:OR X pl H a o):OR X pl H a (tK p o):=by
 cases p with
 |none=>trivial
 |some p=>cases p<;>cases o<;>exact h
theorem YtW(o:il):tK zz o=o:=by rfl
theorem Fl(r:Nat->Option Nat): ∀(X:hZ) (m:List Nat) (Y:hZ),(AD r X m Y).length=X.length
 |X,[],Y=>by cases Y<;>rfl
 |X,a::m,[]=>rfl
 |X,a::m,o::Y=>by simp only[AD];rw[Fl r _ m Y,km]
theorem Pk(r:Nat->Option Nat){b:Nat}: ∀{X:hZ} {m:List Nat} {Y:hZ},b∉m->b_ (AD r X m Y) b=b_ X b
 |X,[],Y,_=>by cases Y<;>rfl
 |X,a::m,[],_=>rfl
 |X,a::m,o::Y,h=>by
  simp at h;simp only[AD];rw[Pk r h.2,nt _ (Ne.symm h.1)]
theorem Y'(r:Nat->Option Nat){b:Nat}: ∀{X:hZ} {m:List Nat} {Y:hZ} {i:Nat},m.Nodup->m[i]?=U b->b<X.length->i<Y.length->b_ (AD r X m Y) b=(b_ Y i).map λo=>tK (b_ X b) (o.jm r)
 |X,[],Y,i,_,h,_,_=>by grind
 |X,a::m,[],i,_,_,_,h=>by grind
 |X,a::m,o::Y,i,k,h,d,g=>by
  obtain⟨h1,h2⟩:=List.nodup_cons.1 k;simp only[AD];cases i with
  |zero=>
   simp at h;subst h;rw[Pk r h1,oV _ d,YtU,Option.map_map];rfl
  |succ i=>
   simp at h g;have H:a≠b:=λe=>h1 (by grind);rw[Y' r h2 h (by rw[km];exact d) g,nt _ H];rfl
theorem Y_: ∀(Y:hZ) (n i:Nat),b_ (Y.drop n) i=b_ Y (n+i)
 |Y,0,i=>by simp
 | [],n+1,i=>by rfl
 |o::Y,n+1,i=>by rw[List.drop_succ_cons,Y_ Y n i,show n+1+i=(n+i)+1 by omega];rfl
theorem Za{A B:hZ}{b:Nat}(h:A.length<=b):b_ (A++B) b=b_ B (b-A.length):=by
 induction A generalizing b with
 |nil=>rfl
 |cons o A I=>
  cases b with
  |zero=>grind
  |succ b=>simp only[rV,b_];simp_all
theorem YtX(r:Nat->Option Nat){Y:hZ}{b i:Nat}(d:m.Nodup)(h:m[i]?=U b)(H:b<X.length)(g:i<Y.length):b_ (rM m r X Y) b=(b_ Y i).map λo=>tK (b_ X b) (o.jm r):=by
 unfold rM;rw[qj (by rw[Fl];exact H),Y' r d h H g]
theorem Zb(r:Nat->Option Nat){Y:hZ}{b:Nat}(h:b∉m)(H:b<X.length):b_ (rM m r X Y) b=b_ X b:=by
 unfold rM;rw[qj (by rw[Fl];exact H),Pk r h]
theorem YtY(r:Nat->Option Nat){Y:hZ}{b:Nat}(h:X.length<=b):b_ (rM m r X Y) b=(b_ Y (m.length+(b-X.length))).map (il.jm r):=by
 unfold rM;rw[Za (by rw[Fl];exact h),Fl,K' _ rfl,Y_]
theorem YtZ(r:Nat->Option Nat)(Y:hZ):(rM m r X Y).length=X.length+(Y.length-m.length):=by
 unfold rM;simp[Fl]
mutual
theorem Li{A:Nat->Prop}(hA: ∀a x,(b_ X a).isSome=zZ->a∉m->pl (.m a)=U x->A x): ∀(v:TV) {a:AV},yO X m v=zZ->TR X pl v a->iJ A a
 | .i _ _,_,_,ht=>by cases ht;exact .v _
 | .b _,_,_,ht=>by cases ht;exact .v _
 | .s _,_,_,ht=>by cases ht;exact .v _
 | .l c w,_,_,ht=>by
   cases ht with
   |l _ _ _ hc=>exact La (EO hc (GI (.l c) w))
 | .e _,_,_,ht=>by cases ht;exact .emp
 | .v _,_,_,ht=>by cases ht;exact .v _
 | .nl,_,_,ht=>by cases ht;exact .v _
 | .ef x,_,_,ht=>by
   cases ht with
   |uT=>exact .er
   |mK=>exact .v _
 | .ref x,_,h,ht=>by
   simp only[yO,iI,Bool.not_eq_true']at h;obtain⟨o,ho⟩:=pU.1 h.1;obtain⟨y,n,rfl,hp,_⟩:=py ho ht;exact .ref _ _ _ (hA x y h.1 (λhm=>by rw[k_.2 hm]at h;cases h.2) hp)
 | .pre x n,_,h,ht=>by
   simp only[yO,iI,Bool.not_eq_true']at h;obtain⟨o,ho⟩:=pU.1 h.1;obtain⟨y,n,rfl,hp,_⟩:=E_ ho ht;exact .ref _ _ _ (hA x y h.1 (λhm=>by rw[k_.2 hm]at h;cases h.2) hp)
 | .ptr x i j,_,h,ht=>by
   simp only[yO,iI,Bool.not_eq_true']at h;obtain⟨o,ho⟩:=pU.1 h.1;obtain⟨y,rfl,hp,_⟩:=AF ho ht;exact .ptr _ _ _ (hA x y h.1 (λhm=>by rw[k_.2 hm]at h;cases h.2) hp)
 | .np x,_,h,ht=>by
   simp only[yO,iI,Bool.not_eq_true']at h;obtain⟨o,ho⟩:=pU.1 h.1;obtain⟨y,rfl,hp⟩:=tI ho ht;exact .np _ (hA x y h.1 (λhm=>by rw[k_.2 hm]at h;cases h.2) hp)
 | .ag x,_,h,ht=>by
   cases ht with
   |ag _ as hl hc=>exact .agg _ (Lj hA x h ⟨hl,hc⟩)
 | .tp x,_,h,ht=>by
   cases ht with
   |tp _ as hl hc=>exact .iZ _ (Lj hA x h ⟨hl,hc⟩)
 | .clo g x,_,h,ht=>by
   cases ht with
   |clo _ _ as hl hc=>exact .clo _ _ (Lj hA x h ⟨hl,hc⟩)
 | .u,_,h,_| .sub _ _ _,_,h,_| .nq _ _ _ _ _,_,h,_| .rp _,_,h,_| .lt _,_,h,_=>by cases h
theorem Lj{A:Nat->Prop}(hA: ∀a x,(b_ X a).isSome=zZ->a∉m->pl (.m a)=U x->A x): ∀(l:List TV) {as:List AV},uQ X m l=zZ->CT X pl l as-> ∀a∈as,iJ A a
 | [],as,_,hc=>by
   have:=hc.1;cases as with
   |nil=>intro a h;cases h
   |cons _ _=>simp at this
 |v::l,as,h,hc=>by
  obtain⟨a,r,rfl,h1,h2⟩:=hc.inv;simp only[uQ,iI]at h;intro b hb;rcases mT.1 hb with rfl|hb
  .exact Li hA v h.1 h1
  .exact Lj hA l h.2 h2 b hb
end
theorem Pm{Y:hZ}: ∀{Z:hZ} {i b:Nat} {o:il},GU Y m Z i=zZ->b_ Z b=U o->i+b∉m-> ∀cs,o= .st cs-> ∀v∈cs,KN v=zZ\/yO Y m v=zZ
 | [],i,b,o,_,h,_=>by cases h
 |p::Z,i,b,o,H,g,d=>by
  simp only[GU,iI]at H;cases b with
  |succ b=>exact Pm H.2 g (by grind)
  |zero=>
   subst g;have h1:=H.1;rw[rG]at h1;have h2:=h1.resolve_left (λh=>d (k_.1 h));grind
section
open Classical
noncomputable def rq(K:Nat->Prop)(c:AV):AV:=if iJ K c then c else .u
noncomputable def u_(K:Nat->Prop):AV->AV
 | .rd es l=>.rd es (l.map (·.map (rq K)))
 |c=>rq K c
noncomputable def mg(K:Nat->Prop)(H:ic):ic:=H.mapIdx λx o=>if K x then o.map (λo=>⟨o.es,o.el.map (·.map (u_ K))⟩)else o
end
theorem Zc(K:Nat->Prop)(c:AV):iJ K (rq K c):=by
 unfold rq;split
 .trivial
 .exact .u
theorem Pn{K:Nat->Prop}{c:AV}(h:iJ K c):rq K c=c:=if_pos h
theorem Yt0(K:Nat->Prop)(c:AV):iJ K (u_ K c):=by
 unfold u_;split
 .exact .rd _ _ (λe h x H=>by
   obtain⟨e0,_,rfl⟩:=mH.1 h;obtain⟨X,_,rfl⟩:=mH.1 H;exact Zc K X)
 .exact Zc K c
theorem Hl{K:Nat->Prop}{c:AV}(h:iJ K c):u_ K c=c:=by
 unfold u_;split
 .rename_i es l;cases h with
  |rd _ _ h=>
   congr 1;refine(List.map_congr_left λe H=> ?_).trans (List.map_id _);exact(List.map_congr_left λx d=>Pn (h e H x d)).trans (List.map_id _)
 .exact Pn h
theorem Yt1(K:Nat->Prop)(c:AV):Gc c (u_ K c):=by
 have h0: ∀c,JY c (rq K c):=λc=>by
  unfold rq;split
  .exact .inl rfl
  .exact .inr rfl
 unfold u_;split
 .refine .inr ⟨_,_,_,rfl,rfl,by simp,λi e e' h1 h2=> ?_⟩;rw[jt,h1]at h2;injection h2 with h2;subst h2
  refine⟨by simp,λj x X h H=> ?_⟩;grind
 .exact .inl (h0 _)
theorem AL(K:Nat->Prop)(H:ic)(x:Nat):(K x->(mg K H)[x]?=(H[x]?).map λo=>o.map λo=>(⟨o.es,o.el.map (·.map (u_ K))⟩:iu))/\ (¬K x->(mg K H)[x]?=H[x]?):=by
 constructor
 .intro h;simp only[mg,List.getElem?_mapIdx,if_pos h]
 .intro h;simp only[mg,List.getElem?_mapIdx,if_neg h];simp
theorem Po(K:Nat->Prop)(H:ic):(mg K H).length=H.length:=by simp[mg]
theorem Yt2(K:Nat->Prop)(H:ic):NC H (mg K H):=by
 refine⟨Po K H,λa=> ?_⟩;by_cases h:K a
 .rw[(AL K H a).1 h];cases k:H[a]? with
  |none=>simp
  |some o=>
   cases o with
   |none=>simp
   |some o=>
    refine .inr ⟨o,_,rfl,rfl,rfl,by simp,λi e e' h1 h2=> ?_⟩;simp only[jt,h1,l_]at h2;injection h2 with h2;subst h2
    refine⟨by simp,λj x X g d=> ?_⟩;rw[jt,g]at d;injection d with d;subst d
    exact Yt1 K x
 .exact .inl ((AL K H a).2 h)
theorem Fm{K:Nat->Prop}{H:ic}{x:Nat}(h: ∀o,H[x]?=U (U o)->K x-> ∀e∈o.el,∀c∈e,iJ K c):(mg K H)[x]?=H[x]?:=by
 by_cases k:K x
 .rw[(AL K H x).1 k];cases d:H[x]? with
  |none=>rfl
  |some o=>
   cases o with
   |none=>rfl
   |some o=>
    simp;congr 2;obtain⟨es,el⟩:=o;congr 1;refine(List.map_congr_left λe g=> ?_).trans (List.map_id _);exact(List.map_congr_left λc p=>Hl (h _ d k e g c p)).trans (List.map_id _)
 .exact(AL K H x).2 k
theorem Ll{K:Nat->Prop}{el:List (List AV)}{c:Cs}{l:List c.den}(h:Rows el c l): ∀e∈el,∀z∈e,iJ K z:=by
 intro e p z q;obtain⟨i,w⟩:=mE.1 p;have g:i<l.length:=by rw[<-h.1];grind
 have H:=h.2 i e l[i] w (je g);obtain⟨j,k⟩:=mE.1 q;obtain⟨Z,d⟩:=lQ H.1.symm k;exact La (EO (H.2 j z Z k d) (vY c _ Z (jc d)))
theorem Yt3{K:Nat->Prop}{d:List AV}{c:Cs}{v:c.den}(h:CC d (c.enc v)): ∀z∈d,iJ K z:=λz k=>by
 obtain⟨j,g⟩:=mE.1 k;obtain⟨Z,H⟩:=lQ h.1.symm g;exact La (EO (h.2 j z Z g H) (vY c _ Z (jc H)))
def oj(Fr:Nat->Prop)(m:List Nat)(pl:Pl)(x:Nat):Prop:=Fr x\/ ∃p:Pos,p.of∉m/\pl p=U x
theorem Yt4(F:ib Fr H0 X pl H){a:Nat}(B:a∉m){hd:Hd}{c:Cs}{k:Option Nat}{i:Nat}{e:List AV}{v:(sn c hd.A).den}{g:AV->AV}(p: ∀z,iJ (oj Fr m pl) z->g z=z)(h:wV pl H a hd c k i e v):
  wV pl (mg (oj Fr m pl) H) a hd c k i (e.map g) v:=by
 obtain⟨d,r,rfl,h1,h2⟩:=h;have hd':d.map g=d:=(List.map_congr_left λz C=>p z (Yt3 h1 z C)).trans (List.map_id _);refine⟨d,g r,by simp_all,h1,λD=> ?_⟩;rcases h2 D with⟨y,el',G,rfl,w,A⟩| ⟨G,E,w,rfl⟩
 .refine .inl ⟨y,el',G,p _ (.ref _ _ _ (.inr ⟨.n a i,B,G⟩)),?_,A⟩;rw[Fm (λo q _=>by rw[w]at q;injection q with q;injection q with q;subst q;exact Ll A)];exact w
 .exact .inr ⟨G,E,w,p _ .emp⟩
theorem Yt5(D:ib Fr H0 X pl H)(R:kZ Fr H0)(S:GU X m X 0=zZ):
  ib Fr H0 X pl (mg (oj Fr m pl) H)/\kZ (oj Fr m pl) (mg (oj Fr m pl) H)/\ ∀b x,b∉m->okO (b_ X b)=zZ->pl (.m b)=U x->(mg (oj Fr m pl) H)[x]?=H[x]?:=by
 have a0: ∀{p:Pos} {x},p.of∈m->pl p=U x-> ¬oj Fr m pl x:=by
  rintro p x M B (h| ⟨q,h1,h2⟩)
  .exact D.nU _ _ B h
  .have:=D.inj _ _ _ B h2;simp_all
 have T: ∀{p:Pos} {x},p.of∈m->pl p=U x->(mg (oj Fr m pl) H)[x]?=H[x]?:=λM B=>(AL _ _ _).2 (a0 M B);have N: ∀{x:Nat} {n:Nat} {el:List (List AV)} {c:Cs} {l:List c.den},H[x]?=U (U ⟨n,el⟩)->Rows el c l->(mg (oj Fr m pl) H)[x]?=H[x]?:=λ{x n el c l} B hw=>
  Fm (λo w _=>by rw[B]at w;injection w with w;injection w with w;subst w;exact Ll hw)
 have hA: ∀a x,(b_ X a).isSome=zZ->a∉m->pl (.m a)=U x->oj Fr m pl x:=λa x _ h1 h2=>.inr ⟨.m a,h1,h2⟩;have V: ∀a o,b_ X a=U o->OR X pl (mg (oj Fr m pl) H) a o:=by
  intro a o w;have C:=D.obj a o w;cases o with
  |sq c l=>obtain⟨x,el,h1,h2,E,F⟩:=C;exact⟨x,el,h1,by grind,E,F⟩
  |sb s=>obtain⟨x,h1,h2⟩:=C;exact⟨x,h1,by rw[N h2 (we s).rows];exact h2⟩
  |st cs=>
   obtain⟨x,e,h1,h2,E,F⟩:=C;by_cases P:a∈m
   .exact⟨x,e,h1,by rw[T (p:=.m a) P h1];exact h2,E,F⟩
   .refine⟨x,e.map (u_ (oj Fr m pl)),h1,?_,E,by rw[pQ];exact F.1,λj v z' K O=> ?_⟩
    .rw[(AL _ _ _).1 (hA a x (by simp_all) P h1),h2];rfl
    .rw[jt,lS]at O;obtain⟨z,O,rfl⟩:=O;have ht:=F.2 j v z K O;rcases Pm S w (by simp_all) cs rfl v (jc K)with Q|Q
     .have:v= .u:=by cases v<;>first|rfl|cases Q
      subst this;exact .u _
     .rw[Hl (Li hA v Q ht)];exact ht
  |fm hd c a1 G l=>
   obtain⟨x,el,h1,h2,E,F,h6⟩:=C;by_cases P:a∈m
   .refine⟨x,el,h1,by rw[T (p:=.m a) P h1];exact h2,E,F,λi e v K O=> ?_⟩;obtain⟨d,r,g1,g2,g3⟩:=h6 i e v K O;refine⟨d,r,g1,g2,λhh=> ?_⟩;grind
   .have B:=(AL (oj Fr m pl) H x).1 (hA a x (by simp_all) P h1);rw[h2]at B;have I: ∀g:AV->AV,(∀z,iJ (oj Fr m pl) z->g z=z)-> ∀(i:Nat) (e:List AV) (v:(sn c hd.A).den),(el.map (·.map g))[i]?=U e->l[i]?=U v->wV pl (mg (oj Fr m pl) H) a hd c G i e v:=λg hg i e v K O=>by
     rw[jt,lS]at K;obtain⟨e0,K,rfl⟩:=K;exact Yt4 D P hg (h6 i e0 v K O)
    cases hd with
    |rw A nn=>
     have a2:(mg (oj Fr m pl) H)[x]?=U (U ((Hd.rw A nn).obj (el.map λe=>e.map (u_ (oj Fr m pl))))):=B;exact⟨x,el.map (λe=>e.map (u_ (oj Fr m pl))),h1,a2,E,by simp_all,I _ (λz L=>Hl L)⟩
    |mp o n=>exact⟨x,el.map (·.map (rq (oj Fr m pl))),h1,B.trans (by
     show U (U (⟨3,[[u_ _ (.v (.int .i64 n)),.rd 3 (el.map (·.map (rq (oj Fr m pl)))),u_ _ (.v (.bool zj))]]⟩:iu))=_;rw[Hl (.v _),Hl (.v _)];rfl),E,by simp_all,I _ (λz L=>Pn L)⟩
 refine⟨⟨V,D.inj,D.own,λx B=>⟨(D.fr x B).1,?_⟩,D.nU,by rw[Po];exact D.le⟩,λx B=> ?_,λb x hb J M=> ?_⟩
 .have E:=(D.fr x B).2;rw[Fm (λo w _ e W c hc=>YR (λz L=>.inl L) ((R x B).2 o (E.symm.trans w) e W c hc))];exact E
 .have a3: ∃o,H[x]?=U (U o):=by
   rcases B with h| ⟨p,_,M⟩
   .obtain⟨⟨o,w⟩,_⟩:=R x h;exact⟨o,(D.fr x h).2.trans w⟩
   .exact D.lt M
  obtain⟨o,w⟩:=a3;rw[(AL _ _ _).1 B,w];refine⟨⟨_,rfl⟩,λo' k e W c hc=> ?_⟩;simp only[l_]at k;injection k with k;injection k with k;subst k
  obtain⟨e0,_,rfl⟩:=mH.1 W;obtain⟨c0,_,rfl⟩:=mH.1 hc;exact Yt0 _ c0
 .cases w:b_ X b with
  |none=>rw[w]at J;cases J
  |some o=>
   rw[w]at J;have C:=D.obj b o w;cases o with
   |sq c l=>obtain⟨x',el,h1,h2,E,F⟩:=C;grind
   |sb s=>obtain⟨x',h1,h2⟩:=C;rw[M]at h1;injection h1 with h1;subst h1;exact N h2 (we s).rows
   |st cs=>
    obtain⟨x',e,h1,h2,E,F⟩:=C;rw[M]at h1;injection h1 with h1;subst h1
    refine Fm (λo k _ f hf z L=> ?_);rw[h2]at k;injection k with k;injection k with k;subst k
    simp at hf;subst hf;obtain⟨j,hj⟩:=mE.1 L;obtain⟨v,hv⟩:=lQ F.1 hj;have Y:=jc hv;have a4:KN v=false:=by simpa using ly.1 J v Y
    rcases Pm S w (by simp_all) cs rfl v Y with Q|Q
    .simp_all
    .exact Li hA v Q (F.2 j v z hv hj)
   |fm hd c a1 G l=>
    cases G with
    |some i=>cases J
    |none=>
     refine Fm (λob Z _ e W z L=> ?_);exact YR (λy hy=>by obtain⟨i,hi⟩:=hy;exact .inr ⟨.n b i,hb,hi⟩) (YX D w M Z e W z L)
structure uq(o o':il):Prop where
 el:lK o=lK o'
 len:iz o=iz o'
 fm:pt o=pt o'
 c: ∀hd c v h l,o= .fm hd c v h l-> ∃E8 v0 h0 l0,o'= .fm E8 c v0 h0 l0
theorem Pp{β:Type}{r:β}: ∀{Y Z:hZ} {x:Option β},uR Y Z x=U r->x=U r/\ ∀i o,i<Y.length->b_ Z i=U o-> ∃o',b_ Y i=U o'/\uq o o'
 | [],Z,x,h=>by
   have h:x=U r:=by trivial
   simp_all
 |p::Y,[],x,h=>by cases p with
  |none=>trivial
  |some q=>cases q with
   |fm hd _ _ _ _=>cases hd<;>simp[uR]at h
   |_=>trivial
 |p::Y,zz::Z,x,h=>by
  have h:uR Y Z x=U r:=by cases p with
   |none=>trivial
   |some q=>cases q with
    |fm hd _ _ _ _=>cases hd<;>simpa[uR]using h
    |_=>trivial
  obtain⟨h1,h2⟩:=Pp h;refine⟨h1,λi o z g=> ?_⟩;cases i with
  |zero=>cases g
  |succ i=>exact h2 i o (by simp_all) g
 |p::Y,U O::Z,x,h=>by
  have G: ∀{q:il},p=U q->uR Y Z x=U r->uq O q->x=U r/\ ∀i o,i< (p::Y).length->b_ (U O::Z) i=U o-> ∃o',b_ (p::Y) i=U o'/\uq o o':=by
   intro q B d C;obtain⟨h1,h2⟩:=Pp d;refine⟨h1,λi o z g=> ?_⟩;cases i with
   |zero=>injection g with g;subst g;exact⟨q,B,C⟩
   |succ i=>exact h2 i o (by simp_all) g
  cases p with
  |none=>trivial
  |some q=>
   cases q with
   |fm hd c v y l=>
    cases O with
    |fm H c2 J k L=>
     cases hd with
     |rw A nn=>cases H with
      |rw K N=>
       obtain⟨e0,E⟩:=iU h;obtain⟨d,D⟩:=lA E;have:=Cs.jd e0;subst this;exact G rfl D ⟨d,congrArg U d,rfl,λw c0 V h0 F e=>by grind⟩
      |mp _ _=>trivial
     |mp o n=>cases H with
      |rw _ _=>trivial
      |mp O M=>
       obtain⟨e0,E⟩:=iU h;have:=Cs.jd e0;subst this;exact G rfl E ⟨rfl,rfl,rfl,λw c0 V h0 F e=>by grind⟩
    |_=>cases hd<;>simp[uR]at h
   |sq c l=>
    cases O with
    |sq c2 L=>
     obtain⟨E,d⟩:=lA h;exact G rfl d ⟨E,congrArg U E,rfl,λ_ _ _ _ _ e=>by cases e⟩
    |_=>trivial
   |st cs=>
    cases O with
    |st I=>
     exact G rfl h ⟨rfl,rfl,rfl,λ_ _ _ _ _ e=>by cases e⟩
    |_=>trivial
   |sb s=>
    cases O with
    |sb S=>
     obtain⟨E,d⟩:=lA h;exact G rfl d ⟨E,congrArg U E,rfl,λ_ _ _ _ _ e=>by cases e⟩
    |_=>trivial
theorem Zd{g:Nat}{svs:List SV}{S:List SO}: ∀{l:List hM} {e:hM},KM g svs S l=U e->e∈l/\e.g=g
 | [],e,h=>by cases h
 |a::l,e,h=>by
  simp only[KM]at h;cases H:(im a.g g&& (SV.jW svs a.args.vs&&SO.jW S a.args.os))with
  |true=>
   simp_all
  |false=>
   rw[H,cond_false]at h;obtain⟨h1,h2⟩:=Zd h;simp_all
theorem Pq{g:Nat}{svs:List SV}{S:List SO}: ∀{l:List hM} {e:hM},e∈GR g svs S l->e∈l/\e.g=g
 | [],e,h=>by cases h
 |a::l,e,h=>by
  simp only[GR]at h;cases H:(im a.g g&& (SV.jW svs a.args.vs&&SO.jW S a.args.os))with
  |true=>
   rw[H,cond_true]at h;rcases mT.1 h with rfl|h
   .simp_all
   .obtain⟨h1,h2⟩:=Pq (qY.1 h).1;simp_all
  |false=>
   rw[H,cond_false]at h;obtain⟨h1,h2⟩:=Pq h;simp_all
theorem Ze{β:Type}{as:List TV}{Xs:hZ}{k:(e:hM)->e.co.den->Option β}{r:β}: ∀{l:List hM},tz as Xs k l=U r-> ∃e∈l,∃x y,e.args.read as Xs=U x/\e.F x=U y/\k e y=U r
 | [],h=>by cases h
 | [e],h=>by
   simp only[tz]at h;split at h
   .rename_i x d;cases H:e.F x with
    |none=>simp_all
    |some y=>simp_all
   trivial
 |e::E::l,h=>by
  have R:tz as Xs k (E::l)=U r-> ∃e'∈e::E::l,∃x y,e'.args.read as Xs=U x/\e'.F x=U y/\k e' y=U r:=λh=>by
   obtain⟨e',h1,h2⟩:=Ze h;grind
  simp only[tz]at h;split at h
  .rename_i x d;cases H:e.F x with
   |none=>rw[H]at h;exact R h
   |some y=>rw[H]at h;exact⟨e,pM ..,x,y,d,H,h⟩
  simp_all
theorem Zf(d:ib Fr H0 X pl H){a:Nat}{o:il}(g:b_ X a=U o): ∃z,pl (.m a)=U z:=by
 have:=d.obj a o g;cases o with
 |sq c l=>obtain⟨x,_,h,_⟩:=this;simp_all
 |fm hd c v h l=>obtain⟨x,_,h,_⟩:=this;simp_all
 |st cs=>obtain⟨x,_,h,_⟩:=this;simp_all
 |sb s=>obtain⟨x,h,_⟩:=this;simp_all
def qK(pl:Pl)(m:List Nat)(n:Nat)(q:Pl):Pl
 | .m b=>match ja m b 0 with
   |some i=>q (.m i)
   |none=>if b<n then pl (.m b)else q (.m (m.length+(b-n)))
 | .n b i=>match ja m b 0 with
   |some j=>q (.n j i)
   |none=>if b<n then pl (.n b i)else q (.n (m.length+(b-n)) i)
theorem Hm{i a:Nat}(H:m.Nodup)(h:m[i]?=U a):ja m a 0=U i:=by
 obtain⟨j,d⟩:=YJ 0 (jc h);have g:=(Fe d).2;have G:=iP.1 h;have k:=iP.1 g;have:=(List.getElem_inj (h₀:=G.1) (h₁:=k.1) H).1 (by omega);simp_all
abbrev mh(m:List Nat)(n:Nat):Nat->Option Nat:=λa=>U (sU m n a)
theorem back{Kp:Nat->Prop}{X2:hZ}{v:TV}(hr:ib Fr H0 X pl H)(W:ib Kp H (iw X m) (lx pl m) H)(ag: ∀x,Fr x->Kp x)(ah: ∀(p:Pos) x,p.of∉m->pl p=U x->Kp x)(Z:m.Nodup)
  (a8: ∀a∈m,∃o,b_ X a=U o)
  (ai: ∀i o,i< (iw X m).length->b_ X2 i=U o-> ∃o',b_ (iw X m) i=U o'/\uq o o')
  (E: ∀i o,b_ X2 i=U o-> ∃z,jx (lx pl m) (iw X m).length H.length X2 (.m i)=U z)
  (Q:(iw X m).length<=X2.length) (hv:pq X2 v=zZ) (hX:oC X2 X2=zZ):
  TR (rM m (mh m X.length) X X2) (qK pl m X.length (jx (lx pl m) (iw X m).length H.length X2)) (v.jm (mh m X.length)) (kE X2 (jx (lx pl m) (iw X m).length H.length X2) v)/\
  ib Fr H0 (rM m (mh m X.length) X X2) (qK pl m X.length (jx (lx pl m) (iw X m).length H.length X2)) (oD Kp H (iw X m).length X2 (jx (lx pl m) (iw X m).length H.length X2))/\
  Ext X pl (rM m (mh m X.length) X X2) (qK pl m X.length (jx (lx pl m) (iw X m).length H.length X2))/\
  (∀a x,X.length<=a->qK pl m X.length (jx (lx pl m) (iw X m).length H.length X2) (.m a)=U x->H.length<=x):=by
 have a9:(iw X m).length=m.length:=by simp[iw]
 have am:m.length<=X2.length:=by rw[<-a9];exact Q
 have M:=λ{p:Pos} {x:Nat}=>Pj (Xs:=iw X m) W Q (p:=p) (x:=x);have a0:=λ{x:Nat}=>Lh (Xs:=iw X m) W (X2:=X2) (x:=x);have G:=λ{p q:Pos} {x:Nat}=>Lg (Xs:=iw X m) W (X2:=X2) (p:=p) (q:=q) (x:=x);have a1: ∀{p:Pos} {x},jx (lx pl m) (iw X m).length H.length X2 p=U x-> ∃o,b_ X2 p.of=U o:=Y6;have a2: ∀{i k x},jx (lx pl m) (iw X m).length H.length X2 (.n i k)=U x->H.length<=x/\k<pB (b_ X2 i):=λh=>by
  obtain⟨h1,h2,_⟩:=yY h;rw[h2];exact⟨by omega,h1⟩
 have aa: ∀{i k},k<pB (b_ X2 i)-> ∃x,jx (lx pl m) (iw X m).length H.length X2 (.n i k)=U x:=λ{i k} h=>⟨H.length+(X2.length-(iw X m).length)+(mA X2 i+k),by simp only[jx];rw[if_pos h]⟩;have a3: ∀{i x},jx (lx pl m) (iw X m).length H.length X2 (.m i)=U x->(∃a,m[i]?=U a/\pl (.m a)=U x)\/(m.length<=i/\H.length<=x):=by
  intro i x h;simp only[jx]at h;split at h
  .split at h
   .simp only[lx]at h;split at h
    .exact .inl ⟨_,by assumption,h⟩
    .cases h
   .injection h with h;exact .inr ⟨by omega,by omega⟩
  .cases h
 have ab: ∀{i o},i<m.length->b_ X2 i=U o->jx (lx pl m) (iw X m).length H.length X2 (.m i)=lx pl m (.m i):=by
  intro i o d w;simp only[jx,w,a9,if_pos d]
 have aj:=Hj Kp H (iw X m).length X2 (jx (lx pl m) (iw X m).length H.length X2);generalize an:oD Kp H (iw X m).length X2 (jx (lx pl m) (iw X m).length H.length X2)=H' at M a0 aj⊢;generalize hq:jx (lx pl m) (iw X m).length H.length X2=q at M G a1 a2 aa a3 ab E⊢;have I: ∀b∈m,b<X.length:=λb A=>by obtain⟨o,w⟩:=a8 b A;exact ki w
 have J:=YtZ (X:=X) (m:=m) (mh m X.length) X2;have hf: ∀i,(∃a,m[i]?=U a/\sU m X.length i=a)\/(m.length<=i/\sU m X.length i=X.length+(i-m.length)):=by
  intro i;unfold sU;by_cases d:i<m.length
  .exact .inl ⟨m[i],je d,by rw[show js i m.length=zZ by simpa[Nat.blt_eq]using d,cond_true];simp[List.getD,d]⟩
  .exact .inr ⟨by omega,by rw[show js i m.length=zj by(cases h:js i m.length with|true=>exact absurd (by simpa[Nat.blt_eq]using h) d|false=>rfl),cond_false]⟩
 have P1: ∀i,qK pl m X.length q (.m (sU m X.length i))=q (.m i):=by
  intro i;rcases hf i with⟨a,h1,h2⟩| ⟨h1,h2⟩
  .rw[h2];simp only[qK,Hm Z h1]
  .rw[h2];have:X.length+(i-m.length)∉m:=λh=>by have:=I _ h;omega
   simp only[qK,Cv this];rw[if_neg (by omega),show m.length+(X.length+(i-m.length)-X.length)=i by omega]
 have P2: ∀i k,qK pl m X.length q (.n (sU m X.length i) k)=q (.n i k):=by
  intro i k;rcases hf i with⟨a,h1,h2⟩| ⟨h1,h2⟩
  .rw[h2];simp only[qK,Hm Z h1]
  .rw[h2];have:X.length+(i-m.length)∉m:=λh=>by have:=I _ h;omega
   simp only[qK,Cv this];rw[if_neg (by omega),show m.length+(X.length+(i-m.length)-X.length)=i by omega]
 have V1: ∀i,i<X2.length->b_ (rM m (mh m X.length) X X2) (sU m X.length i)=(b_ X2 i).map λo=>tK (b_ X (sU m X.length i)) (o.jm (mh m X.length)):=by
  intro i d;rcases hf i with⟨a,h1,h2⟩| ⟨h1,h2⟩
  .rw[h2];exact YtX _ Z h1 (I a (jc h1)) d
  .rw[h2,YtY _ (by omega),show m.length+(X.length+(i-m.length)-X.length)=i by omega,rl (show X.length<=X.length+(i-m.length) by omega)];cases b_ X2 i with
   |none=>rfl
   |some o=>simp only[l_,YtW]
 have L1: ∀i,i<X2.length->sU m X.length i< (rM m (mh m X.length) X X2).length:=by
  intro i d;rw[J];rcases hf i with⟨a,h1,h2⟩| ⟨h1,h2⟩
  .have:=I a (jc h1);omega
  .omega
 have R: ∀{a b:Nat},a<X2.length->mh m X.length a=U b->b< (rM m (mh m X.length) X X2).length/\b_ (rM m (mh m X.length) X X2) b=(b_ X2 a).map (λo=>tK (b_ X b) (o.jm (mh m X.length)))/\qK pl m X.length q (.m b)=q (.m a):=by
  intro a b ha A;injection A with A;subst A
  exact⟨L1 a ha,V1 a ha,P1 a⟩
 have N: ∀(b:Nat) (o:il),iz (tK (b_ X b) (o.jm (mh m X.length)))=iz o/\lK (tK (b_ X b) (o.jm (mh m X.length)))=lK o:=λb o=>
  ⟨(Y9 _ _).1.trans (Fg _ _).1,(Y9 _ _).2.trans (Fg _ _).2⟩
 have S: ∀b,(b∈m\/X.length<=b)-> ∃i,sU m X.length i=b/\ (b< (rM m (mh m X.length) X X2).length->i<X2.length):=by
  intro b A;by_cases T:b∈m
  .obtain⟨i,d⟩:=mE.1 T;refine⟨i,?_,λ_=> ?_⟩
   .rcases hf i with⟨a,h1,h2⟩| ⟨h1,h2⟩
    .rw[d]at h1;injection h1 with h1;rw[h2,h1]
    .have:=(iP.1 d).1;omega
   .have:=(iP.1 d).1;omega
  .have A:=A.resolve_left T;refine⟨m.length+(b-X.length),?_,λh=>by rw[J]at h;omega⟩;rcases hf (m.length+(b-X.length))with⟨a,h1,h2⟩| ⟨h1,h2⟩
   .have:=(iP.1 h1).1;omega
   .omega
 have hx:Ext X pl (rM m (mh m X.length) X X2) (qK pl m X.length q):=by
  refine⟨by rw[J];omega,λa ha=> ?_⟩;by_cases hm:a∈m
  .obtain⟨i,d⟩:=mE.1 hm;have a4:=(iP.1 d).1;have A:sU m X.length i=a:=by
    rcases hf i with⟨a',h1,h2⟩| ⟨h1,h2⟩
    .rw[d]at h1;injection h1 with h1;rw[h2,h1]
    .omega
   have K:=V1 i (by omega);have ac:=P1 i;rw[A]at K ac;cases w:b_ X2 i with
   |none=>rw[w]at K;exact .inl K
   |some o2=>
    rw[w]at K;obtain⟨o,a5⟩:=a8 a hm;have C:=Ff (X:=X) d;rw[a5]at C;have ak:qK pl m X.length q (.m a)=pl (.m a):=by
     rw[ac,ab a4 w];simp only[lx,d]
    obtain⟨o',e2,O⟩:=ai i o2 (by omega) w;rw[e2]at C;injection C with C
    refine .inr ⟨o,_,a5,K,?_,?_,ak,?_,λhd c ad V l e=> ?_⟩
    .rw[(N a o2).2,O.el,C,(Fg _ _).2]
    .rw[(N a o2).1,O.len,C,(Fg _ _).1]
    .have e1: ∀p o,pt (tK p o)=pt o:=λp o=>by
      cases p with
      |none=>cases o<;>rfl
      |some p=>cases p<;>cases o<;>rfl
     have e3: ∀r (o:il),pt (o.jm r)=pt o:=λr o=>by cases o<;>rfl
     rw[e1,e3,O.fm,C,e3]
    .rw[a5]at e;cases o2 with
     |fm ao c2 v2 h2 l2=>
      obtain⟨ap,v0,h0,l0,e0⟩:=O.c _ _ _ _ _ rfl;rw[C]at e0;cases o with
      |fm aq c3 v3 h3 l3=>
       simp only[il.jm]at e0 e;injection e0 with _ e0
       subst e0;simp only[tK]at e;injection e with _ e4 e5
       subst e4;subst e5;exact⟨_,_,_,_,rfl,.inl (by omega)⟩
      |_=>cases e0
     |_=>cases o<;>cases e
  .have hg:=Zb (X:=X) (mh m X.length) (Y:=X2) hm ha;cases w:b_ X a with
   |none=>exact .inl (hg.trans w)
   |some o=>
    refine .inr ⟨o,o,rfl,hg.trans w,rfl,rfl,?_,rfl,λhd c ad V l e=>⟨hd,ad,V,l,e,.inr ⟨rfl,λh=>⟨h,rfl,λi=>⟨rfl,?_⟩⟩⟩⟩⟩
    .simp only[qK,Cv hm,if_pos ha]
    .simp only[qK,Cv hm,if_pos ha]
 have P: ∀{p:Pos} {x},(p.of∈m\/X.length<=p.of)->qK pl m X.length q p=U x->(∃i,p= .m (sU m X.length i)/\q (.m i)=U x)\/ ∃i k,p= .n (sU m X.length i) k/\q (.n i k)=U x:=by
  intro p x L B;cases p with
  |n b k=>
   obtain⟨i,d,_⟩:=S b L;exact .inr ⟨i,k,by rw[d],by rw[<-P2 i,d];exact B⟩
  |m b=>
   obtain⟨i,d,_⟩:=S b L;exact .inl ⟨i,by rw[d],by rw[<-P1 i,d];exact B⟩
 refine⟨(Y8 E v hv).yX (g:=λb o=>tK (b_ X b) (o.jm (mh m X.length))) N R,?_,hx,λa x ha B=> ?_⟩
 .refine hr.build (λb=>b∈m\/X.length<=b) hx (λb A=> ?_) (λp A=> ?_) (λp x A B=> ?_) (λb o L w=> ?_) (λp x L B=> ?_) (λp x L B=> ?_) (λp q x L hB B hq=> ?_) (λx hx=>a0 (ag x hx)) (by omega)
  .rw[not_or]at A;exact Zb _ A.1 (by omega)
  .rw[not_or]at A;cases p with
   |m b=>simp only[Pos.of]at A;simp only[qK,Cv A.1];rw[if_pos (by omega)]
   |n b i=>simp only[Pos.of]at A;simp only[qK,Cv A.1];rw[if_pos (by omega)]
  .rw[not_or]at A;exact a0 (ah p x A.1 B)
  .obtain⟨i,d,hl⟩:=S b L;have a4:=hl (ki w);rw[<-d,V1 i a4,lS]at w;obtain⟨o2,D,rfl⟩:=w;obtain⟨z,hz⟩:=E i o2 D;have B:qK pl m X.length q (.m b)=U z:=by rw[<-d,P1 i];exact hz
   have hH:H'[z]?=U (U (pA X2 q i)):=M hz;refine YtV _ ?_;rcases Fk hX D with⟨c,l,rfl,h0⟩| ⟨cs,rfl,h0,hw⟩| ⟨s,rfl⟩| ⟨hd,c,v0,l,rfl,h0,ar⟩
   .refine⟨z,l.map c.enc,B,by rw[hH];simp only[pA,D],h0,by simp,λj e v' h1 h2=> ?_⟩;rw[jt,h2,l_]at h1;injection h1 with h1;subst h1
    exact⟨rfl,λj x x' h1 h2=>by rw[h1]at h2;injection h2 with h2;subst h2;exact .refl _⟩
   .have ae:=Hk E cs hw;refine⟨z,xc X2 q cs,B,by rw[hH];simp only[pA,D,pz,pQ],by simpa[pz]using h0,?_⟩;refine⟨by rw[pz];simpa using ae.1,λj c a h1 h2=> ?_⟩;rw[pz,jt,lS]at h1;obtain⟨y,h1,rfl⟩:=h1;exact(ae.2 j y a h1 h2).yX (g:=λb o=>tK (b_ X b) (o.jm (mh m X.length))) N R
   .exact⟨z,B,by rw[hH];simp only[pA,D]⟩
   .refine⟨z,rn q i hd c l,B,by rw[hH];simp only[pA,D],h0,by simp[rn],λk e v' h1 h2=> ?_⟩;have a6:=(iP.1 h2).1;unfold rn at h1;rw[jt,pO a6,l_]at h1;injection h1 with h1;subst h1
    have a7:lX (sn c hd.A) l k=v':=by
     have:=tH (c:=sn c hd.A) a6;rw[h2]at this;injection this with this;exact this.symm
    obtain⟨y,hy⟩:=aa (i:=i) (k:=k) (by rw[D];exact a6);refine⟨_,_,rfl,?_,λ_=>.inl ⟨y,(ow c hd.A v').map c.enc,?_,?_,?_,?_⟩⟩
    .unfold yI;rw[a7];exact⟨rfl,λj x x' h1 h2=>by rw[h1]at h2;injection h2 with h2;subst h2;exact .refl _⟩
    .rw[<-d,P2];exact hy
    .unfold kG;rw[a7,hy];rfl
    .have h3:H'[y]?=U (U (uZ X2 q (.n i k))):=M hy;rw[h3];simp only[uZ,D];unfold kG;rw[a7]
    .exact⟨by simp,λj e au h1 h2=>by
      rw[jt,h2,l_]at h1;injection h1 with h1;subst h1
      exact⟨rfl,λj x x' h1 h2=>by rw[h1]at h2;injection h2 with h2;subst h2;exact .refl _⟩⟩
  .rcases P L B with⟨i,rfl,h2⟩| ⟨i,k,rfl,h2⟩
   .obtain⟨o,w⟩:=a1 h2;exact⟨_,by rw[V1 i (ki w)];simp only[Pos.of]at w;rw[w];rfl⟩
   .have O:=(a2 h2).2;obtain⟨o,w⟩:=a1 h2;simp only[Pos.of]at w;rw[w]at O;cases o with
    |fm hd c v0 h0 l=>
     rcases Fk hX w with⟨_,_,e,_⟩| ⟨_,e,_⟩| ⟨_,e⟩| ⟨hd',c',v',l',e,_,_⟩
     .cases e
     .cases e
     .cases e
     .injection e with _ _ _ e
      subst e;have hv:=V1 i (ki w);rw[w]at hv;cases af:b_ X (sU m X.length i)with
      |none=>rw[af]at hv;exact⟨_,_,_,_,_,hv,O,by simp⟩
      |some ob=>
       rw[af]at hv;cases ob<;>exact⟨_,_,_,_,_,hv,O,by simp⟩
    |_=>exact absurd O (Nat.not_lt_zero _)
  .rcases P L B with⟨i,rfl,h2⟩| ⟨i,k,rfl,h2⟩
   .rcases a3 h2 with⟨a,h3,F⟩| ⟨_,F⟩
    .exact .inl ⟨.m a,F,.inl (jc h3)⟩
    .exact .inr F
   .exact .inr (a2 h2).1
  .rcases P L B with⟨i,rfl,h2⟩| ⟨i,k,rfl,h2⟩<;>rcases P hB hq with⟨j,rfl,F⟩| ⟨j,k',rfl,F⟩
   .have:=G h2 F;injection this with this;rw[this]
   .have:=G h2 F;cases this
   .have:=G h2 F;cases this
   .have:=G h2 F;injection this with this this2;rw[this,this2]
 .have al:a∉m:=λh=>by have:=I a h;omega
  simp only[qK,Cv al]at B;rw[if_neg (by omega)]at B;rcases a3 B with⟨a',h3,F⟩| ⟨_,F⟩
  .have:=(iP.1 h3).1;omega
  .exact F
variable{β:Type}{r:β}
theorem Zg: ∀{d:Nat} {m:List Nat},m.Nodup->(qF X d m).Nodup
 |0,m,h=>h
 |d+1,m,h=>by
  simp only[qF];cases im (kX X m (GV m X 0)).length m.length with
  |true=>exact h
  |false=>exact Zg (Ha (Cu h))
theorem Zh: ∀{d:Nat} {m:List Nat},(∀a∈m,∃o,b_ X a=U o)-> ∀a∈qF X d m,∃o,b_ X a=U o
 |0,m,h=>h
 |d+1,m,h=>by
  simp only[qF];cases im (kX X m (GV m X 0)).length m.length with
  |true=>exact h
  |false=>exact Zh (O6 (Hb h))
theorem Zi{T:iT}{C:Ctx}(hT:oE T C){g:Nat}{args:List TV}{as:List AV}{K:TV->hZ->Option β}(d:T.pf g=zj)(h:KO T g args X K=U r)(hc:CT X pl args as)(k:ib Fr H0 X pl H)(Y:kZ Fr H0){KA:AV->ic->Prop}
  (hk: ∀v X' va H' P,K v X'=U r->TR X' P v va->ib Fr H0 X' P H'->Ext X pl X' P->H.length<=H'.length->(∀a x,X.length<=a->P (.m a)=U x->H.length<=x)->
   (∀b x,b∉qF X 4 (lR X 5 (kX X [] (TV.jD args)))->okO (b_ X b)=zZ->pl (.m b)=U x->hf H' x=hf H x)->
   (∀b x,b∉qF X 4 (lR X 5 (kX X [] (TV.jD args)))->pl (.m b)=U x->(∀o,H[x]?=U (U o)-> ∀e∈o.el,∀c∈e,iJ (oj Fr (qF X 4 (lR X 5 (kX X [] (TV.jD args)))) pl) c)->hf H' x=hf H x)->KA va H'):Ai C g as H KA:=by
 unfold KO at h;have F:(qF X 4 (lR X 5 (kX X [] (TV.jD args)))).Nodup:=Zg (Ha (Cu List.nodup_nil));have G: ∀a∈qF X 4 (lR X 5 (kX X [] (TV.jD args))),∃o,b_ X a=U o:=Zh (O6 (Hb (λa h=>by cases h)));generalize qF X 4 (lR X 5 (kX X [] (TV.jD args)))=m at h F G hk;obtain⟨Z,h⟩:=iU h;simp at Z;split at h
 .rename_i svs a9 aa ab;obtain⟨e,he,x,y,w,hy,h⟩:=Ze h;split at h
  .rename_i v l hv;split at h
   .rename_i X2 a0;obtain⟨I,h⟩:=iU h;simp at I;obtain⟨hK,a1⟩:=Pp h;obtain⟨J,hg⟩:=Pq he;have D:(iw X m).length<=X2.length:=by simp_all
    let Kp:Nat->Prop:=oj Fr m pl;obtain⟨k,L,M⟩:=Yt5 k Y Z.1;have N:=Yt2 (oj Fr m pl) H;have a2:=Po (oj Fr m pl) H;have O: ∀x:Nat,(∀o:iu,H[x]?=U (U o)-> ∀e∈o.el,∀c∈e,iJ (oj Fr m pl) c)->(mg (oj Fr m pl) H)[x]?=H[x]?:=λx h=>Fm (λo Q _=>h o Q);generalize mg (oj Fr m pl) H=E at k L M N a2 O;have A:=O8 k F;have a3: ∀{p:Pos} {x},lx pl m p=U x-> ∃q:Pos,q.of∈m/\pl q=U x:=by
     intro p x h;cases p with
     |m b=>simp only[lx]at h;split at h
           .rename_i a ha;exact⟨.m a,jc ha,h⟩
           trivial
     |n b i=>simp only[lx]at h;split at h
             .rename_i a ha;exact⟨.n a i,jc ha,h⟩
             trivial
    have B:ib Kp E (iw X m) (lx pl m) E:=by
     refine⟨A.obj,A.inj,A.own,λx w=>⟨?_,rfl⟩,λp x d w=> ?_,jG _⟩
     .rcases w with w| ⟨p,_,d⟩
      .have:=(k.fr x w).1;have:=k.le;omega
      .exact k.bd d
     .obtain⟨q,h1,h2⟩:=a3 d;rcases w with w| ⟨p',h3,h4⟩
      .exact k.nU _ _ h2 w
      .have:=k.inj _ _ _ h2 h4;simp_all
    have a4:CT (iw X m) (lx pl m) (TV.my (λa=>ja m a 0) args) as:=by
     refine⟨by rw[pz];simpa using hc.1,λj c a h1 h2=> ?_⟩;rw[pz,jt,lS]at h1;obtain⟨z,h1,rfl⟩:=h1;exact(hc.2 j z a h1 h2).jm
    have R: ∀i o,b_ (iw X m) i=U o-> ∃z,lx pl m (.m i)=U z:=λi o Q=>Zf A Q;have S: ∀i,i< (iw X m).length-> ∀o,b_ X2 i=U o-> ∃z,lx pl m (.m i)=U z:=by
     grind
    have a5:e.RI as E (kE X2 (jx (lx pl m) (iw X m).length E.length X2) v) (oD Kp E (iw X m).length X2 (jx (lx pl m) (iw X m).length E.length X2)):=
     ⟨x,y,_,iw X m,lx pl m,Kp,v,l,X2,hy,w,Z.2,a4,B,L,R,hv,a0,D,I.2.1,I.2.2,S,rfl,rfl⟩
    refine .inr ⟨by rw[hT.p.pf];exact d,as,E,_,_,XM as,N,by rw[<-hg];exact hT.Cy e J (by simp_all) _ _ _ _ a5,by rw[Hj];omega,?_⟩;have V: ∀i o,b_ X2 i=U o-> ∃z,jx (lx pl m) (iw X m).length E.length X2 (.m i)=U z:=by
     intro i o Q;simp only[jx,Q];split
     .simp_all
     simp
    have a6:(iw X m).length<=X2.length:=D;obtain⟨b1,b2,b3,b4⟩:=back k B (λx h=>.inl h) (λp x h1 h2=>.inr ⟨p,h1,h2⟩) F G a1 V a6 I.2.1 I.2.2;exact hk _ _ _ _ _ hK b1 b2 b3 (by rw[Hj];omega) (λa x h1 h2=>by grind) (λb x W a7 d=>(Lh (Xs:=iw X m) B (X2:=X2) (.inr ⟨.m b,W,d⟩)).trans (M b x W a7 d)) (λb x W d a8=>(Lh (Xs:=iw X m) B (X2:=X2) (.inr ⟨.m b,W,d⟩)).trans (O x a8))
   trivial
  trivial
 trivial
end
end Go.Abs
namespace Go.Abs
open Go Go.RowKit
section
variable{Fr:Nat->Prop}{H0:ic}{X:hZ}{pl:Pl}{H:ic}{β:Type}{r:β}
theorem Yt6(A:ib Fr H0 X pl H){a i y:Nat}{hd:Hd}{c:Cs}{V:Nat}{l:List (sn c hd.A).den}(I:b_ X a=U (.fm hd c V zz l))(R:pl (.n a i)=U y):
  ∃P,ib Fr H0 (hU X a (U (.fm hd c V (U i) l))++[U (.sq c (kG hd c l i))]) P H/\Ext X pl (hU X a (U (.fm hd c V (U i) l))++[U (.sq c (kG hd c l i))]) P/\P (.m X.length)=U y/\ ∀b,b<X.length->P (.m b)=pl (.m b):=by
 have T:=ki I;obtain⟨x0,W,h1,h2,h3,h4,h6⟩:=A.obj a _ I;obtain⟨hi,_,el,g3,g4⟩:=YY A I R;have C:(hU X a (U (.fm hd c V (U i) l))).length=X.length:=km _ _ _;have w:b_ (hU X a (U (.fm hd c V (U i) l))++[U (.sq c (kG hd c l i))]) a=U (.fm hd c V (U i) l):=by
  rw[qj (by omega)];exact oV _ T
 have J:b_ (hU X a (U (.fm hd c V (U i) l))++[U (.sq c (kG hd c l i))]) X.length=U (.sq c (kG hd c l i)):=by
  have:=nI (hU X a (U (.fm hd c V (U i) l))) (U (.sq c (kG hd c l i)));rw[C]at this;exact this
 have L: ∀b,b≠a->b≠X.length->b_ (hU X a (U (.fm hd c V (U i) l))++[U (.sq c (kG hd c l i))]) b=b_ X b:=λb h1 h2=>by
  by_cases g:b<X.length
  .rw[qj (by omega),nt _ (Ne.symm h1)]
  .rw[rl (by rw[nV,C];simp;omega),rl (by omega)]
 let P:Pl:=λq=>if q= .n a i then zz else if q= .m X.length then U y else pl q
 have p1:P (.n a i)=none:=if_pos rfl;have Y:P (.m X.length)=U y:=by simp[P]
 have M: ∀q:Pos,q≠ .n a i->q≠ .m X.length->P q=pl q:=λq h1 h2=>by simp only[P,if_neg h1,if_neg h2]
 have Z: ∀q:Pos,q.of≠a->q.of≠X.length->P q=pl q:=λq h1 h2=>M q (λe=>h1 (by subst e;rfl)) (λe=>h2 (by subst e;rfl));have p5: ∀j,j≠i->P (.n a j)=pl (.n a j):=λj h=>M _ (λe=>h (by injection e)) (λe=>by cases e);have p6:P (.m a)=pl (.m a):=M _ (λe=>by cases e) (λe=>by injection e with e;omega);have N:Ext X pl (hU X a (U (.fm hd c V (U i) l))++[U (.sq c (kG hd c l i))]) P:=by
  refine⟨by rw[nV,C];omega,λb g=> ?_⟩;by_cases E:b=a
  .subst E;refine .inr ⟨_,_,I,w,?_,?_,p6,rfl,λa2 c1 v1 h1 l1 e=> ?_⟩
   .cases hd<;>rfl
   .cases hd<;>rfl
   .injection e with e0 E S e3 e4
    subst e0;subst E;subst S;subst e3;exact⟨_,_,_,_,rfl,.inr ⟨rfl,λh=>by cases h⟩⟩
  .rw[L b E (by omega)];cases h:b_ X b with
   |none=>simp
   |some o=>exact .inr ⟨o,o,rfl,rfl,rfl,rfl,Z (.m b) E (by simp only[Pos.of];omega),rfl,λhd' c' v' h' l' e=>⟨hd',v',h',l',e,.inr ⟨rfl,λh=>⟨h,rfl,λj=>⟨rfl,Z (.n b j) E (by simp only[Pos.of];omega)⟩⟩⟩⟩⟩
 have K: ∀{p:Pos} {z},(p.of=a\/p.of=X.length)->P p=U z->(p= .m X.length/\z=y)\/(p≠ .n a i/\p.of=a/\pl p=U z):=by
  intro p z g k;by_cases E:p= .n a i
  .subst E;rw[p1]at k;cases k
  .by_cases S:p= .m X.length
   .subst S;rw[Y]at k;injection k with k;exact .inl ⟨rfl,k.symm⟩
   .rw[M p E S]at k;refine .inr ⟨E,g.resolve_right (λe=> ?_),k⟩;have:=A.dead (p:=p) (by rw[e];exact rl (jG _));rw[this]at k;cases k
 refine⟨P,A.build (λb=>b=a\/b=X.length) N (λb g=>L b (λe=>g (.inl e)) (λe=>g (.inr e))) (λp g=>Z p (λe=>g (.inl e)) (λe=>g (.inr e))) (λ_ _ _ _=>rfl) (λb o g B=> ?_) (λp z g k=> ?_) (λp z g k=> ?_) (λp q z g a0 k a1=> ?_) (λ_ _=>rfl) (jG _),N,Y,λb g=>M _ (λe=>by cases e) (λe=>by injection e with e;omega)⟩
 .rcases g with rfl|rfl
  .rw[w]at B;injection B with B;subst B
   refine⟨x0,W,p6.trans h1,h2,h3,h4,λj e v D F=> ?_⟩;obtain⟨d,r,q1,q2,q3⟩:=h6 j e v D F;refine⟨d,r,q1,q2,λhj=> ?_⟩;have O:j≠i:=λe=>hj (by rw[e]);rcases q3 (by simp)with⟨y',el',f1,f2,f3,f4⟩| ⟨f0,f1,f2,f3⟩
   .exact .inl ⟨y',el',(p5 j O).trans f1,f2,f3,f4⟩
   .exact .inr ⟨f0,(p5 j O).trans f1,f2,f3⟩
  .rw[J]at B;injection B with B;subst B
   exact⟨y,el,Y,g3,h3,g4⟩
 .rcases K g k with⟨rfl,rfl⟩| ⟨D,F,G⟩
  .exact⟨_,J⟩
  .rcases yV A I G F with rfl| ⟨j,rfl,Q,_⟩
   .exact⟨_,w⟩
   .exact⟨_,_,_,_,_,w,Q,λe=>D (by injection e with e;rw[e])⟩
 .rcases K g k with⟨rfl,rfl⟩| ⟨D,F,G⟩
  .exact .inl ⟨_,R,.inl rfl⟩
  .exact .inl ⟨p,G,.inl F⟩
 .rcases K g k with⟨rfl,rfl⟩| ⟨D,F,G⟩<;>rcases K a0 a1 with⟨rfl,Q⟩| ⟨Q,k5,k6⟩
  .rfl
  .exact absurd (A.inj _ _ _ k6 R) Q
  .subst Q;exact absurd (A.inj _ _ _ G R) D
  .exact A.inj _ _ _ G k6
theorem Lm{Q:Prop}: ∀{args:List TV} {X:hZ} {pl:Pl} {as:List AV} {K:List TV->hZ->Option β},tA args X K=U r->CT X pl args as->ib Fr H0 X pl H->
  (∀A X' p,K A X'=U r->CT X' p A as->ib Fr H0 X' p H->Ext X pl X' p->(∀b,b<X.length->p (.m b)=pl (.m b))->Q)->Q
 | [],X,pl,as,K,h,C,k,w=>w _ _ pl h C k (Ext.refl _ _) (λ_ _=>rfl)
 |v::args,X,pl,as,K,h,C,k,w=>by
  obtain⟨a,r',rfl,h1,h2⟩:=C.inv;have P:tA args X (λas X'=>K (v::as) X')=U r->Q:=λh=>
   Lm h h2 k (λA X' p J D L E Z=>w _ X' p J (.cons (h1.ext E) D) L E Z)
  cases v with
  |sub x V i=>
   simp only[tA]at h;split at h
   .rename_i hd c ver' l F;have M:=(iU h).1;replace h:=(iU h).2;simp only[iI]at M;have:=jr M.1;subst this;cases g:js i l.length with
    |true=>
     rw[g,cond_true]at h;have W:i<l.length:=by simpa[Nat.blt_eq]using g
     rcases Co F h1 with⟨y,rfl,_,z⟩| ⟨rfl,z,h0⟩
     .obtain⟨a0,J,D,L,E⟩:=Yt6 k F z;refine Lm h (h2.ext D) J (λA X' p G N O I R=>w _ X' p G (.cons (TR.ext I ?_) N) O (D.trans I) (λb g=>(R b (by rw[nV,km];omega)).trans (E b g)));have S:(hU X x (U (.fm hd c V (U i) l))).length=X.length:=km _ _ _;have B:=nI (hU X x (U (.fm hd c V (U i) l))) (U (.sq c (kG hd c l i)));rw[S]at B;exact .ref X.length y _ _ B rfl L
     .exfalso;obtain⟨x0,T,_,_,_,h4,h6⟩:=k.obj x _ F;obtain⟨d,r0,_,_,q⟩:=wY (h6 i _ _ (je (by omega:i<T.length)) (tH W)) (by simp);rcases q with⟨y,el',G,_⟩| ⟨Y,_⟩
      .rw[z]at G;cases G
      .rw[M.2]at Y;cases Y
    |false=>
     rw[g,cond_false]at h;have a1:l.length<=i:=by
      apply Classical.byContradiction;intro C;rw[show js i l.length=zZ from by simp[Nat.blt_eq];omega]at g;cases g
     rcases Co F h1 with⟨y,rfl,W,z⟩| ⟨rfl,z,h0⟩
     .omega
     .exact Lm h h2 k (λA X' p G N O I R=>w _ X' p G (.cons (.e c) N) O I R)
   .cases h
  |_=>exact P h
def AM(m:List Nat):il->il
 | .st cs=>.st (TV.my (λa=>bif m.any (im a)then zz else U a) cs)
 |o=>o
theorem Yt7(m:List Nat)(o:Option il):KP m o=o.map (AM m):=by
 cases o with
 |none=>rfl
 |some o=>cases o<;>rfl
theorem Zj(m:List Nat): ∀(X:hZ) (i b:Nat),b_ (pN m X i) b=if i+b∈m then b_ X b else KP m (b_ X b)
 | [],i,b=>by simp[pN,b_,KP]
 |o::r,i,0=>by
  simp only[pN,b_,sZ];by_cases h:i∈m
  .rw[k_.2 h,cond_true,if_pos h]
  .rw[show m.any (im i)=zj by cases q:m.any (im i)with|false=>rfl|true=>exact absurd (k_.1 q) h,cond_false,if_neg h]
 |o::r,i,b+1=>by
  simp only[pN,b_];rw[Zj m r (i+1) b,show i+1+b=i+(b+1) by omega]
theorem Ln(m:List Nat): ∀(X:hZ) (i:Nat),(pN m X i).length=X.length
 | [],_=>rfl
 |_::r,i=>by simp[pN,Ln m r]
theorem Pr(m:List Nat)(o:il):iz (AM m o)=iz o/\lK (AM m o)=lK o/\pt (AM m o)=pt o:=by cases o<;>exact⟨rfl,rfl,rfl⟩
theorem Zk(w:ib Fr H0 X pl H)(m:List Nat):ib Fr H0 (pN m X 0) pl H/\Ext X pl (pN m X 0) pl:=by
 have A: ∀b,b_ (pN m X 0) b=(b_ X b).map λo=>if b∈m then o else AM m o:=λb=>by
  rw[Zj,mD,Yt7];split
  .rename_i h;cases b_ X b<;>simp[h]
  .rename_i h;cases b_ X b<;>simp[h]
 have q: ∀(b:Nat) (o:il),iz (if b∈m then o else AM m o)=iz o/\lK (if b∈m then o else AM m o)=lK o:=λb o=>by
  split
  .exact⟨rfl,rfl⟩
  .exact⟨(Pr m o).1,(Pr m o).2.1⟩
 have B:Ext X pl (pN m X 0) pl:=by
  refine⟨by rw[Ln];omega,λb C=> ?_⟩;rw[A];cases h:b_ X b with
  |none=>simp
  |some o=>
   refine .inr ⟨o,_,rfl,rfl,(q b o).2,(q b o).1,rfl,?_,λhd c v h l e=> ?_⟩
   .split
    .rfl
    .exact(Pr m o).2.2
   .have e':o= .fm hd c v h l:=by
     split at e
     .exact e
     .cases o with
      |fm _ _ _ _ _=>exact e
      |_=>cases e
    exact⟨hd,v,h,l,e',.inr ⟨rfl,λh=>⟨h,rfl,λj=>⟨rfl,rfl⟩⟩⟩⟩
 refine⟨⟨λa o z=> ?_,w.inj,λp x L=> ?_,w.fr,w.nU,w.le⟩,B⟩
 .rw[A,lS]at z;obtain⟨O,D,rfl⟩:=z;have d:=w.obj a O D;split
  .cases O with
   |st cs=>obtain⟨x,e,F,G,I,E⟩:=d;exact⟨x,e,F,G,I,E.ext B⟩
   |_=>exact d
  .cases O with
   |st cs=>
    obtain⟨x,e,F,G,I,E⟩:=d;refine⟨x,e,F,by rw[pz,pQ];exact G,by rw[pz,pQ];exact I,by rw[pz,pQ];exact E.1,λj c a h1 h2=> ?_⟩;rw[pz,jt,lS]at h1;obtain⟨y,h1,rfl⟩:=h1;refine(E.2 j y a h1 h2).yX (g:=λb o=>if b∈m then o else AM m o) q (λ{a b} M C=> ?_);have J:a=b:=by
     cases K:m.any (im a)with
     |true=>rw[K]at C;cases C
     |false=>rw[K]at C;injection C
    subst J;exact⟨by rw[Ln];exact M,A a,rfl⟩
   |_=>exact d
 .have:=w.own p x L;cases p with
  |m a=>obtain⟨o,z⟩:=this;exact⟨_,by rw[A,z];rfl⟩
  |n a i=>
   obtain⟨hd,c,v,h,l,z,k⟩:=this;refine⟨hd,c,v,h,l,?_,k⟩;rw[A,z,l_];split<;>rfl
theorem Yt8{T:iT}{C:Ctx}(hT:oE T C){g:Nat}{args:List TV}{as:List AV}{K:TV->hZ->Option β}(hp:T.pf g=zj)(h:OP T g args X K=U r)(hc:CT X pl args as)(Y:ib Fr H0 X pl H)(L:kZ Fr H0){KA:AV->ic->Prop}
  (hk: ∀v X' V H' P,K v X'=U r->TR X' P v V->ib Fr H0 X' P H'->Ext X pl X' P->H.length<=H'.length->(∀a x,X.length<=a->P (.m a)=U x->H.length<=x)->
   (List.isEmpty (TV.jD args)=zZ-> ∀b x,b<X.length->okF X (b_ X b)=zZ->pl (.m b)=U x->hf H' x=hf H x)->KA V H'):Ai C g as H KA:=by
 unfold OP at h;refine Lm h hc Y (λA d a0 M g2 g3 g4 Z=> ?_);obtain⟨e0,M⟩:=iU M;obtain⟨k1,k2⟩:=Zk g3 (lR d 5 (kX d [] (TV.jD A)));refine Zi hT hp M (g2.ext k2) k1 L (λv X' V H' P h1 h2 h3 h4 h5 h6 _ h7=> ?_);obtain⟨e1,e2⟩:=iU h1;refine hk v X' V H' P e2 h2 h3 (g4.trans (k2.trans h4)) h5 (λa x N O=> ?_) (λhe b x R k w=> ?_)
 rotate_left
 .rw[he,qJ,Bool.false_or,ly]at e0;have D: ∀b,b<X.length->b∉qF (pN (lR d 5 (kX d [] (TV.jD A))) d 0) 4 (lR (pN (lR d 5 (kX d [] (TV.jD A))) d 0) 5 (kX (pN (lR d 5 (kX d [] (TV.jD A))) d 0) [] (TV.jD A))):=λb R hm=>by
   have:=l9 (e0 b hm);omega
  refine h7 b x (D b R) ((Z b R).trans w) (λo S e B z W=> ?_);generalize qF (pN (lR d 5 (kX d [] (TV.jD A))) d 0) 4 (lR (pN (lR d 5 (kX d [] (TV.jD A))) d 0) 5 (kX (pN (lR d 5 (kX d [] (TV.jD A))) d 0) [] (TV.jD A)))=mm at D;cases E:b_ X b with
  |none=>rw[E]at k;cases k
  |some ob=>
   rw[E]at k;have F:=Y.obj b ob E;cases ob with
   |sq c l=>
    obtain⟨x',el,Q,q,_,I⟩:=F;rw[w]at Q;injection Q with Q;subst Q
    rw[S]at q;injection q with q;injection q with q;subst q
    exact Ll I e B z W
   |sb s=>
    obtain⟨x',Q,q⟩:=F;rw[w]at Q;injection Q with Q;subst Q
    rw[S]at q;injection q with q;injection q with q;subst q
    exact Ll (we s).rows e B z W
   |fm _ _ _ _ _=>cases k
   |st cs=>
    obtain⟨x',f,Q,q,_,I⟩:=F;rw[w]at Q;injection Q with Q;subst Q
    rw[S]at q;injection q with q;injection q with q;subst q
    simp only[uV]at B;subst B;obtain⟨j,hj⟩:=mE.1 W;obtain⟨v,hv⟩:=lQ I.1 hj;refine Li (m:=[]) (λa y N _ hy=>.inr ⟨.m a,?_,?_⟩) v (ly.1 k v (jc hv)) (I.2 j v z hv hj)
    .obtain⟨oa,G⟩:=pU.1 N;exact D a (ki G)
    .obtain⟨oa,G⟩:=pU.1 N;exact(Z a (ki G)).trans hy
 by_cases h:a<d.length
 .have:=ly.1 e1 a (tX.2 h);rw[rG]at this;rcases this with J|J
  .have:a<X.length:=by simpa[Nat.blt_eq]using J
   omega
  .have hn:b_ X' a=none:=by
    cases hq:b_ X' a with
    |none=>rfl
    |some o=>rw[hq]at J;cases J
   have:=h3.dead (p:=.m a) hn;rw[this]at O;cases O
 .exact h6 a x (by rw[Ln];omega) O
end
end Go.Abs
namespace Go.Abs
open Go Go.RowKit
def VI.ai(i:VI):AI:=⟨i.dst,i.op.w_,i.guard,i.old,i.nw⟩
def iN.er:iN->i_
 | .bad=>.bad
 | .skip=>.skip
 | .qx O=>.qx (O.map VI.ai)
 | .seq a b=>.seq a.er b.er
 | .cond c a b=>.cond c.er a.er b.er
 | .lF d b=>.lF d b.er
 | .loop _ b=>.loop b.er
 | .jn _ b=>b.er
 | .exit d=>.exit d
 | .ret=>.ret
 | .fz _ b=>b.er
 | .fa _ b=>b.er
 | .ow _ b=>b.er
 | .wS _ O=>.qx (O.map VI.ai)
 | .pb ls=>.pb (ls.map λp=>p.2.map VI.ai)
section
variable{Fr:Nat->Prop}{H0:ic}{β:Type}{r:β}{T:iT}{C:Ctx}
def MK(n0:Nw)(M:Nat->Prop)(X:hZ)(pl:Pl)(H:ic):Prop:=
 n0.1<=X.length/\ (∀x,H.length<=x->M x)/\ (∀a x,pl (.m a)=U x->(uj n0 a=zj-> ¬M x)/\ (uj n0 a=zZ->M x))/\ ∀x,¬M x-> ∃a,a<n0.1/\uj n0 a=zj/\ (pl (.m a)=U x\/b_ X a=zz)
theorem Zl{X:hZ}{pl:Pl}{n0:Nw}{X':hZ}{p:Pl}(h0:n0.1<=X.length)(H:Ext X pl X' p){x:Nat}(h: ∃a,a<n0.1/\uj n0 a=zj/\ (pl (.m a)=U x\/b_ X a=zz)): ∃a,a<n0.1/\uj n0 a=zj/\ (p (.m a)=U x\/b_ X' a=zz):=by
 obtain⟨a,h1,h2,d⟩:=h;refine⟨a,h1,h2,?_⟩;rcases H.keep a (by omega)with g| ⟨O,o',G,k,q,w,y,_⟩
 .simp_all
 simp_all
theorem Zm{n:Nw}{a:Nat}(h:n.1<=a):uj n a=true:=by unfold uj;simp_all
structure RS(Fr:Nat->Prop)(H0:ic)(n0:Nw)(m0:Nat->Prop)(p0:Nat× (Nat->Option Nat))(b:Nat)(s:lu)(st:jI):Prop where
 base:st.base=b
 kb:p0.1<=s.heap.length
 ex: ∃pl,jB s.heap pl s.env st.env/\ib Fr H0 s.heap pl st.heap/\ (∀i,i<p0.1-> ∀x,pl (.m i)=U x->p0.2 i=U x)/\MK n0 m0 s.heap pl st.heap
theorem Yt9{X:hZ}{pl:Pl}{X':hZ}{p:Pl}{H':ic}(d:Ext X pl X' p)(H:ib Fr H0 X' p H'){P:Nat× (Nat->Option Nat)}(k:P.1<=X.length)(h: ∀i,i<P.1-> ∀x,pl (.m i)=U x->P.2 i=U x):
  ∀i,i<P.1-> ∀x,p (.m i)=U x->P.2 i=U x:=by
 intro i q x g;obtain⟨o,w⟩:=H.own _ x g;rcases d.keep i (by omega)with y| ⟨O,o',h1,h2,z,A,B,_⟩
 .simp_all
 simp_all
theorem Ps{X:hZ}{pl:Pl}{H:ic}{n0:Nw}{M:Nat->Prop}(d:MK n0 M X pl H){X':hZ}{p:Pl}{H':ic}(k:ib Fr H0 X' p H')(q:Ext X pl X' p)(y:H.length<=H'.length)
  (z: ∀a x,X.length<=a->p (.m a)=U x->H.length<=x):MK n0 M X' p H':=by
 refine⟨nu d.1 q.le,λx h=>d.2.1 x (nu y h),λa x g=> ?_,λx w=>Zl d.1 q (d.2.2.2 x w)⟩;obtain⟨o,C⟩:=k.own _ x g;by_cases h:a<X.length
 .rcases q.keep a h with D| ⟨O,o',h1,h2,E,F,A,_⟩
  .simp_all
  .rw[A]at g;exact d.2.2.1 a x g
 .have h1:=z a x (by omega) g;have B:=Zm (nu d.1 (Nat.le_of_not_lt h));exact⟨λh=>(by simp_all),λ_=>d.2.1 x h1⟩
theorem Yua{X:hZ}{pl:Pl}{H:ic}{n0:Nw}{M:Nat->Prop}(d:MK n0 M X pl H){X':hZ}{p:Pl}{H':ic}(k:ib Fr H0 X' p H')(q:Ext X pl X' p)(z:H.length<=H'.length)
  (w:X'.length=X.length\/(X'.length=X.length+1/\p (.m X.length)=U H.length)):MK n0 M X' p H':=by
 refine⟨nu d.1 q.le,λx h=>d.2.1 x (nu z h),λa x g=> ?_,λx y=>Zl d.1 q (d.2.2.2 x y)⟩;obtain⟨o,A⟩:=k.own _ x g;have B:=ki A;by_cases h:a<X.length
 .rcases q.keep a h with F| ⟨O,o',h1,h2,G,I,C,_⟩
  .simp_all
  .rw[C]at g;exact d.2.2.1 a x g
 .rcases w with w| ⟨w,D⟩
  .omega
  .have:a=X.length:=by omega
   subst this;rw[D]at g;injection g with g
   have E:=Zm d.1;exact⟨λh=>(by simp_all),λ_=>d.2.1 x (by omega)⟩
theorem Zn(H:ic): ∀us:List jy,H.length<=(rI H us).length
 | []=>jG _
 |u::us=>by
  refine nu ?_ (Zn _ us);cases u<;>simp[Ez]
theorem AN{X:hZ}{pl:Pl}{env:jO}{A:Env}(h:jB X pl env A){d:Option Nat}{v:TV}{a:AV}(H:TR X pl v a):jB X pl (tB env d v) (put A d a):=by
 cases d with
 |none=>exact h
 |some d=>
  intro t;simp only[tB,put,lW,jk];have e0:(d==t)=im d t:=by rw[Bool.eq_iff_iff,beq_iff_eq,Nat.beq_eq]
  rw[e0];cases im d t with
  |true=>exact H
  |false=>exact h t
theorem Zo{X:hZ}{pl:Pl}{H:ic}{n0:Nw}{M:Nat->Prop}(w:MK n0 M X pl H){v:TV}{a:AV}(h:ri X n0 v=zZ)(d:TR X pl v a):(∀i O len,a= .ref i O len-> ¬M i)/\ (∀i j k,a= .ptr i j k-> ¬M i)/\ (∀cs,a≠ .agg cs)/\ (∀f cs,a≠ .clo f cs\/ ∃g ds,v= .clo g ds)/\ (∀i,a= .np i-> ¬M i):=by
 cases v with
 |ref x=>
  simp only[ri,iI]at h;obtain⟨o,p⟩:=pU.1 h.1;obtain⟨y,n,rfl,q,_⟩:=py p d;have:=(w.2.2.1 x y q).1 (by simp_all);simp_all
 |pre x n=>
  simp only[ri,iI]at h;obtain⟨o,p⟩:=pU.1 h.1;obtain⟨y,n,rfl,q,_⟩:=E_ p d;have:=(w.2.2.1 x y q).1 (by simp_all);simp_all
 |ptr x i j=>
  simp only[ri,iI]at h;obtain⟨o,p⟩:=pU.1 h.1;obtain⟨y,rfl,q,_⟩:=AF p d;have:=(w.2.2.1 x y q).1 (by simp_all);simp_all
 |np x=>
  simp only[ri,iI]at h;obtain⟨o,p⟩:=pU.1 h.1;obtain⟨y,rfl,q⟩:=tI p d;have:=(w.2.2.1 x y q).1 (by simp_all);simp_all
 |u=>cases h
 |sub _ _ _=>cases h
 |nq _ _ _ _ _=>cases h
 |v _=>cases h
 |ag _=>cases h
 |clo g ds=>cases d with
  |clo _ _ as=>simp
 |l c v=>
  cases d with
  |l _ _ _ z=>rcases wX z with⟨rfl,_⟩| ⟨L,rfl,_⟩<;>exact⟨λi O len e=>(by cases e),λi j k e=>(by cases e),λcs e=>(by cases e),λf cs=>.inl (λe=>by cases e),λi e=>(by cases e)⟩
 |_=>cases d<;>exact⟨λi O len e=>(by cases e),λi j k e=>(by cases e),λcs e=>(by cases e),λf cs=>.inl (λe=>by cases e),λi e=>(by cases e)⟩
theorem Zp{X:hZ}{pl:Pl}{H:ic}{n0:Nw}{M:Nat->Prop}(w:MK n0 M X pl H){v:TV}{a:AV}(h:wT X n0 v=zZ)(z:TR X pl v a):(∀i,EF i a-> ¬M i)/\ (∀i j k,a= .ptr i j k-> ¬M i)/\ (∀cs,a= .agg cs-> ∀i O len,AV.ref i O len∈cs-> ¬M i)/\ (∀f cs,a≠ .clo f cs\/ ∃g ds,v= .clo g ds)/\ (∀i,a= .np i-> ¬M i):=by
 have G:ri X n0 v=zZ->(∀i,EF i a-> ¬M i)/\ (∀i j k,a= .ptr i j k-> ¬M i)/\ (∀cs,a= .agg cs-> ∀i O len,AV.ref i O len∈cs-> ¬M i)/\ (∀f cs,a≠ .clo f cs\/ ∃g ds,v= .clo g ds)/\ (∀i,a= .np i-> ¬M i):=by
  intro h;obtain⟨h1,h2,B,C,D⟩:=Zo w h z;refine⟨λi d=> ?_,h2,λcs e=>absurd e (B cs),C,D⟩;cases a with
  |ref x O len=>have d:i=x:=d;simp_all
  |agg cs=>simp_all
  |_=>trivial
 cases v with
 |ag cs=>
  cases z with
  |ag _ as E F=>
   have y: ∀i O len,AV.ref i O len∈as-> ¬M i:=by
    intro i O len p;obtain⟨j,A⟩:=mE.1 p;obtain⟨c,q⟩:=lQ E A;have:=ly.1 (show cs.all (ri X n0)=zZ from h) c (jc q);exact(Zo w this (F j c _ q A)).1 i O len rfl
   exact⟨λi ⟨O,len,d⟩=>y i O len d,λi j k e=>(by cases e),λI e i O len d=>(by grind),λf cs=>.inl (λe=>by cases e),λi e=>(by cases e)⟩
 |_=>exact G h
theorem Yub{X:hZ}{pl:Pl}{H:ic}{n0:Nw}{M:Nat->Prop}(p:MK n0 M X pl H){v:TV}{a:AV}(h:Cg X n0 v=zZ)(q:TR X pl v a):J1 M a:=by
 have G:wT X n0 v=zZ->(∀g ds,v≠ .clo g ds)->J1 M a:=by
  intro h w;obtain⟨h1,h2,z,D,A⟩:=Zp p h q;cases a with
  |ref x O len=>exact h1 x rfl
  |ptr x i j=>exact h2 x i j rfl
  |np x=>exact A x rfl
  |agg cs=>exact z cs rfl
  |clo f cs=>simp_all
  |_=>trivial
 cases v with
 |clo g cs=>
  cases q with
  |clo _ _ as B C=>
   intro i c k w;obtain⟨j,y⟩:=mE.1 k;obtain⟨d,hd⟩:=lQ B y;have:=ly.1 (show cs.all (wT X n0)=zZ from h) d (jc hd);exact(Zp p this (C j d c hd y)).1 i w
 |_=>exact G h (λg ds e=>by cases e)
theorem yZ{X:hZ}{pl:Pl}{H:ic}{n0:Nw}{M:Nat->Prop}(q:MK n0 M X pl H){v:TV}{a:AV}(h:oe X n0 v=zZ)(d:TR X pl v a):Gf M a:=by
 cases v with
 |ref x=>
  simp only[oe,iI]at h;obtain⟨o,g⟩:=pU.1 h.1;obtain⟨y,n,rfl,p,_⟩:=py g d;exact(q.2.2.1 x y p).2 (by simp_all)
 |ptr x i j=>
  simp only[oe,iI]at h;obtain⟨o,g⟩:=pU.1 h.1;obtain⟨y,rfl,p,_⟩:=AF g d;exact(q.2.2.1 x y p).2 (by simp_all)
 |np x=>
  simp only[oe,iI]at h;obtain⟨o,g⟩:=pU.1 h.1;obtain⟨y,rfl,p⟩:=tI g d;exact(q.2.2.1 x y p).2 (by simp_all)
 |i k n=>cases d;trivial
 |b x=>cases d;trivial
 |s x=>cases d;trivial
 |e c=>cases d;trivial
 |l c v=>
  cases d with
  |l _ _ _ w=>rcases wX w with⟨rfl,_⟩| ⟨L,rfl,_⟩<;>trivial
 |_=>cases h
theorem Yuc(p:qE):p.w_.iG=p.iG.map iq.er:=by
 cases p<;>rfl
theorem Zq{X:hZ}{pl:Pl}{H:ic}{n0:Nw}{M:Nat->Prop}(d:MK n0 M X pl H){env:jO}{A:Env}(g:jB X pl env A): ∀l:List iq,(l.all λx=>Cg X n0 (vo env x))=zZ->Am M A (l.map iq.er)
 | [],_=>trivial
 |x::l,h=>by
  simp only[List.all_cons,iI]at h;exact⟨Yub d h.1 (rO g x),Zq d g l h.2⟩
theorem Yud{X:hZ}{pl:Pl}{H:ic}{n0:Nw}{M:Nat->Prop}(q:MK n0 M X pl H){env:jO}{A:Env}(z:jB X pl env A){O:qE}(h:E5 X n0 env O=zZ):An M A O.w_:=by
 cases O with
 |app c w s x=>exact yZ q h (rO z s)
 |store n x y=>exact yZ q h (rO z x)
 |appD c s x=>intro y p;have:y=s.er:=by simpa[pa.look]using p
              subst this;exact yZ q h (rO z s)
 |apps s x=>intro y p;have:y=s.er:=by simpa[pa.look]using p
            subst this;exact yZ q h (rO z s)
 |appb s x=>intro y p;have:y=s.er:=by simpa[pa.look]using p
            subst this;exact yZ q h (rO z s)
 |appDb s x=>intro y p;have:y=s.er:=by simpa[pa.look]using p
             subst this;exact yZ q h (rO z s)
 |mput o t V B m k v=>intro y p;have:y=m.er:=by simpa[pa.look]using p
                      subst this;exact yZ q h (rO z m)
 |mdel o t V m k=>intro y p;have:y=m.er:=by simpa[pa.look]using p
                  subst this;exact yZ q h (rO z m)
 |cpy c d s=>intro y p;have:y=d.er:=by simpa[pa.look]using p
             subst this;exact yZ q h (rO z d)
 |call g args=>trivial
 |callF g args=>trivial
 |_=>cases h
theorem y_{H0:ic}:kZ (λ_=>False) H0:=λ_ h=>h.elim
theorem Zr(n:Nat):ib (λ_=>False) (List.replicate n zz) [] (λ_=>zz) (List.replicate n zz):=
 ⟨λa o h=>(by cases h),λp q x h=>(by cases h),λp x h=>(by cases h),λx h=>h.elim,λp x h=>(by cases h),jG _⟩
theorem Yue(c:Cs)(x:List c.den):Rows (x.map c.enc) c x:=by
 refine⟨by simp,λi e V k K=> ?_⟩;rw[jt,K,l_]at k;injection k with k;subst k
 exact⟨rfl,λj x X k K=>by rw[k]at K;injection K with K;subst K;exact .refl _⟩
theorem ve{n:Nat}{c:Cs}{z:List c.den}:
  oD (λ_=>False) (List.replicate n zz) 0 [U (.sq c z)] (jx (λ_=>zz) 0 (List.replicate n (zz:Option iu)).length [U (.sq c z)])=List.replicate n zz++[U ⟨c.width,z.map c.enc⟩]:=by
 have k:(List.replicate n (zz:Option iu)).length=n:=by simp
 have q:jx (λ_=>zz) ([]:hZ).length (List.replicate n (zz:Option iu)).length [U (.sq c z)] (.m 0)=U n:=by
  show U ((List.replicate n (zz:Option iu)).length+(0-0))=U n;simp
 have h0:=Zr n;apply pT;intro x;have H:=Hj (λ_=>False) (List.replicate n zz) 0 [U (.sq c z)] (jx (λ_=>zz) 0 (List.replicate n (zz:Option iu)).length [U (.sq c z)]);have d:(oD (λ_=>False) (List.replicate n zz) 0 [U (.sq c z)] (jx (λ_=>zz) 0 (List.replicate n (zz:Option iu)).length [U (.sq c z)])).length=n+1:=by rw[H,k];rfl
 by_cases w:x<n+1
 .by_cases y:x=n
  .subst y;have:=Pj (Xs:=[]) h0 (X2:=[U (.sq c z)]) (sP _) q;have e:x-(List.replicate x (zz:Option iu)).length=0:=by simp
   rw[nF (by simp),e];exact this
  .rw[ld (by rw[k];omega),vN,if_pos (by omega)];have g:x< (oD (λ_=>False) (List.replicate n zz) 0 [U (.sq c z)] (jx (λ_=>zz) 0 (List.replicate n (zz:Option iu)).length [U (.sq c z)])).length:=by rw[d];exact w
   rw[je g];cases A:(oD (λ_=>False) (List.replicate n zz) 0 [U (.sq c z)] (jx (λ_=>zz) 0 (List.replicate n (zz:Option iu)).length [U (.sq c z)]))[x]with
   |none=>rfl
   |some o=>
    exfalso;have h1:(oD (λ_=>False) (List.replicate n zz) 0 [U (.sq c z)] (jx (λ_=>zz) 0 (List.replicate n (zz:Option iu)).length [U (.sq c z)]))[x]?=U (U o):=by rw[je g,A]
    rcases Y7 (Xs:=[]) h1 with⟨h,_⟩| ⟨p,h,_⟩
    .exact h
    .cases p with
     |m i=>
      rcases(Fj h0 h).1 with h| ⟨h,_,_⟩
      .cases h
      .rw[k]at h;omega
     |n a i=>
      obtain⟨h2,B,_⟩:=yY h;rw[k]at B;have:x<n:=by omega
      omega
 .rw[qb (by rw[d];omega),qb (by simp;omega)]
theorem Lp: ∀(c:Cs) (v:c.den),c.plain=zZ-> ∀x∈c.enc v,∃y,x=AV.v y
 | .nil,_,_,x,H=>by cases H
 | .cons (.l _) _,_,h,_,_=>by cases h
 | .cons (.i _) r,v,h,x,H=>by exact(mT.1 H).elim (λe=>⟨_,e⟩) (Lp r _ h x)
 | .cons .b r,v,h,x,H=>by exact(mT.1 H).elim (λe=>⟨_,e⟩) (Lp r _ h x)
 | .cons .s r,v,h,x,H=>by exact(mT.1 H).elim (λe=>⟨_,e⟩) (Lp r _ h x)
theorem Yuf(W:oE T C){g:Nat}{args:List TV}{as:List AV}{X:hZ}{pl:Pl}{H:ic}{K:TV->hZ->Option β}(hp:T.pf g=zj){d:Bool}(h:OQ T g args d X K=U r)(Y:CT X pl args as)(B:ib Fr H0 X pl H){KA:AV->ic->Prop}
  (M: ∀v X' V H' P,K v X'=U r->TR X' P v V->ib Fr H0 X' P H'->Ext X pl X' P->H.length<=H'.length->(∀a x,X.length<=a->P (.m a)=U x->H.length<=x)->KA V H'):
  ∃A k o len,jX (vQ (hf H)) as A/\ (A=as\/EE o)/\jX Coe A k/\Ge C g k o len/\ (d=zZ->len=o.el.length)/\KA (J0 d o H.length len) (H++[ED d o]):=by
 unfold OQ at h;cases N:AB X args with
 |mk ds L=>
  rw[N]at h;simp only at h;split at h
  .rename_i svs hs;split at h
   .rename_i e hf;obtain⟨O,E⟩:=iU h;obtain⟨Z,hg⟩:=Zd hf;split at E
    .rename_i x q;cases Q:e.F x with
     |none=>simp_all
     |some y=>
      rw[Q]at E;simp at E;split at E
      .rename_i l hv;split at E
       .rename_i c z G;obtain⟨F,R⟩:=iU E;simp only[iI]at F;obtain⟨F,a0⟩:=F;have w:0<c.width:=by simp_all
        obtain⟨S,g1,g2,g3⟩:=Pf B N Y;have I:S=as\/EE ⟨c.width,z.map c.enc⟩:=by
         cases L with
         |false=>simp_all
         |true=>
          refine .inr (λe J x q=> ?_);obtain⟨v,_,rfl⟩:=mH.1 J;exact Lp c v (by trivial) x q
        refine⟨S,jC ds,⟨c.width,z.map c.enc⟩,z.length,g1,I,Y4 g2 O,⟨w,λa D=>Fi ds a D,λe J x q=> ?_,λn=> ?_⟩,λ_=>by simp,?_⟩
        .obtain⟨v,_,rfl⟩:=mH.1 J;exact vY c v x q
        .rw[<-hg];refine W.Cy e Z (by simp_all) _ _ _ _ ⟨x,y,ds,[],λ_=>zz,λ_=>False,.ref 0,l,[U (.sq c z)],Q,q,rfl,?_,Zr n,y_,λi o h=>(by cases h),hv,G,sP _,rfl,by simp[oC,F],λi hi=>by trivial,?_,ve.symm⟩
         .have:=Hg (X:=[]) (pl:=λ_=>zz) ds O;trivial
         .simp[kE,jx,b_,tJ,iz]
        .cases d with
         |true=>
          refine M _ _ _ _ _ R ?_ (G8 B) (Ext.refl _ _) (by simp) (λa x D q=> ?_)
          .refine .l c z _ ?_;show Coe (.rd (wd c.width) _) _;rw[rW w];exact .refl _
          .have:=B.dead (p:=.m a) (rl D);simp_all
         |false=>
         obtain⟨k1,k2⟩:=pw B (.sq c z) ⟨c.width,z.map c.enc⟩ (λ_=>⟨H.length,z.map c.enc,by unfold iF;simp,by simp,w,Yue c z⟩);refine M _ _ _ _ _ R (.ref X.length H.length _ _ (nI _ _) rfl (by unfold iF;simp)) k1 k2 (by simp) (λa x D q=> ?_);unfold iF at q;split at q
         .simp_all
         .have:=B.dead (p:=.m a) (rl D);simp_all
       trivial
      trivial
    trivial
   trivial
  trivial
def qE.mb:qE->Bool
 | .call _ _=>zZ
 | .callF _ _=>zZ
 |_=>zj
theorem Yug(L:oE T C)(M:kZ Fr H0){O:qE}{env:jO}{N:Env}{X:hZ}{pl:Pl}{H:ic}{n0:Nw}{W:Nat->Prop}{K:TV->hZ->Option β}(h:OS T O env X K=U r)(A:jB X pl env N)(G:ib Fr H0 X pl H)(B:MK n0 W X pl H)
  {KA:AV->ic->Prop} (P: ∀v X' V H' p,K v X'=U r->TR X' p v V->ib Fr H0 X' p H'->Ext X pl X' p->MK n0 W X' p H'->(O.mb=zZ->E5 X n0 env O=zZ-> ∀x,¬W x->hf H' x=hf H x)->KA V H'):mZ C O.w_ N H KA:=by
 have Z:O.mb=zj->vG O env X K=U r->kA O.w_ N (hf H) H.length (λv us=>KA v (rI H us)):=λa0 h=>
  YtC h A G (λv X' V us h1 ⟨p,k1,D,E⟩=>P v X' V _ p h1 k1 D.1 D.2 (Yua B D.1 D.2 (Zn H us) E) (λe=>by simp_all))
 have call: ∀{g:Nat} {args:List TV} {as:List AV},(O.mb=zZ->E5 X n0 env O=zZ-> ∀x,¬W x-> ∃b,b∉qF X 4 (lR X 5 (kX X [] (TV.jD args)))/\okO (b_ X b)=zZ/\pl (.m b)=U x)->GW T g args X K=U r->CT X pl args as->Ai C g as H KA:=by
  intro g args as hq h I;unfold GW at h;cases q:T.pf g with
  |true=>
   rw[q,cond_true]at h;exact YtQ L.p q h I G (λv V h1 h2=>P v X V H pl h1 h2 G (Ext.refl _ _) B (λ_ _ _ _=>rfl))
  |false=>
   rw[q,cond_false]at h;exact Zi L q h I G M (λv X' V H' p h1 h2 y z J R h7 _=>P v X' V H' p h1 h2 y z (Ps B y z J R) (λS e2 x k=>by obtain⟨b,Y,q2,F⟩:=hq S e2 x k;exact h7 b x Y q2 F))
 unfold OS at h;split at h
 .rename_i g args;refine call (λ_ w x k=> ?_) h (wg A args);simp only[E5,iI]at w;obtain⟨b,k1,D,E⟩:=B.2.2.2 x k;have Q:=ly.1 w.2 b (tX.2 k1);rw[D,Bool.false_or]at Q;refine⟨b,λhb=> ?_,Q,?_⟩
  .have:=ly.1 w.1 b hb;rw[D]at this;cases this
  .rcases E with E|E
   .exact E
   .rw[E]at Q;cases Q
 .rename_i x args;have k:=rO A x;split at h
  .rename_i f cs S;rw[S]at k;simp only[qE.w_,mZ,jh];generalize iC N x.er=ax at k⊢;cases k with
   |clo _ _ as hl I=>exact⟨f,as,rfl,call (λe=>by cases e) h ((wg A args).append ⟨hl,I⟩)⟩
  trivial
 .rename_i x args;have k:=rO A x;split at h
  .rename_i f cs S;obtain⟨q,h⟩:=iU h;rw[S]at k;simp only[qE.w_,mZ,jh];generalize iC N x.er=ax at k⊢;cases k with
   |clo _ _ as hl I=>exact⟨f,as,rfl,by rw[L.p.pf];exact q,call (λe=>by cases e) h ((wg A args).append ⟨hl,I⟩)⟩
  trivial
 .rename_i g args d;cases q:T.pf g with
  |true=>simp_all
  |false=>
   rw[q,cond_false]at h;exact Yuf L q h (wg A args) G (λv X' V H' p h1 h2 y z J R=>P v X' V H' p h1 h2 y z (Ps B y z J R) (λe=>by cases e))
 .rename_i g args;cases q:T.pf g with
  |true=>simp_all
  |false=>
   rw[q,cond_false]at h;exact Yt8 L q h (wg A args) G M (λv X' V H' p h1 h2 y z J R h7=>P v X' V H' p h1 h2 y z (Ps B y z J R) (λ_ w x k=>by
    simp only[E5,iI]at w;obtain⟨b,Y,q2,F⟩:=B.2.2.2 x k;have Q:=ly.1 w.2 b (tX.2 Y);rw[q2,Bool.false_or]at Q;rcases F with F|F
    .exact h7 w.1 b x (mS Y B.1) Q F
    .rw[F]at Q;cases Q))
 .rename_i h1 h2 y z J;have:=Z (by cases O<;>first|rfl|trivial) h;cases O<;>first|trivial|trivial|trivial|trivial|trivial
theorem Lq(hT:oE T C)(F:kZ Fr H0){n0:Nw}{M:Nat->Prop}{b:Nat}{P:Nat× (Nat->Option Nat)}: ∀{O:List VI} {s:lu} {K:lu->Option β} {st:jI},rj T n0 O s K=U r->RS Fr H0 n0 M P b s st-> ∀{KA:jI->Prop},
  (∀z S,K z=U r->RS Fr H0 n0 M P b z S->KA S)->qy C M (O.map VI.ai) KA st
 | [],s,K,st,h,hs,KA,N=>N s st h hs
 |i::O,⟨env,X⟩,K,⟨A,H,I⟩,h,⟨Q,B,pl,p,hr,G,J⟩,KA,N=>by
  have Q:I=b:=Q;subst Q;simp only[rj]at h;simp only[kn,qy];have R: ∀z S,rj T n0 O z K=U r->RS Fr H0 n0 M P I z S->qy C M (O.map VI.ai) KA S:=λz S h1 h2=>Lq hT F h1 h2 N;have V: ∀{env:jO} {A:Env},jB X pl env A->GX T n0 i env X (λz=>rj T n0 O z K)=U r->
    yx C M i.old i.nw i.op.w_ A H (λv H'=>qy C M (O.map VI.ai) KA ⟨put A i.dst v,H',I⟩):=by
   intro env A p h;unfold GX at h;obtain⟨D,h⟩:=iU h;simp only[X5,iI,rG,Bool.not_eq_true']at D;refine⟨λa1=> ?_,λW=> ?_,Yug hT F h p hr J (λv X' va H' Y h1 h2 h3 Z h5 h6=>⟨λW a0=>h6 ?_ ?_,R _ _ h1 ⟨rfl,nu B Z.le,Y,AN (p.ext Z) h2,h3,Yt9 Z h3 B G,h5⟩⟩)⟩
   rotate_left 2
   .revert a0;show i.op.w_.mb=zZ->_;cases i.op<;>first|exact λ_=>rfl|exact λh=>by cases h
   .simp_all
   .rw[Yuc];rcases D.1 with h1|h1
    .simp_all
    .exact Zq J p _ h1
   .rcases D.2 with h1|h1
    .simp_all
    .exact Yud J p h1
  have q: ∀{env:jO} {A:Env},jB X pl env A->rj T n0 O ⟨tB env i.dst yQ,X⟩ K=U r->qy C M (O.map VI.ai) KA ⟨put A i.dst (.v undef),H,I⟩:=
   λp h=>R _ _ h ⟨rfl,B,pl,AN p (.v _),hr,G,J⟩
  have y: ∀{g:Nat} {t:Bool},jB X pl ((g,.b t)::env) ((g,.v (.bool t))::A):=λ{g t}=>AN (d:=U g) p (.b t);unfold X6 at h;unfold p_;have e1:(VI.ai i).guard=i.guard:=rfl;rw[e1];split at h
  .rename_i hg;rw[hg];exact V p h
  .rename_i g w hg;rw[hg];have k:=p g;simp only at h;split at h
   .rename_i t hx;rw[hx]at k;have L:iC A (.t g)= .v (.bool t):=by
     show jk A g=_;generalize jk A g=a at k⊢;cases k;rfl
    cases w with
    |true=>
     simp only[jh];refine .inl ⟨t,L,λE=> ?_,λE=> ?_⟩
     .subst E;exact V y h
     .subst E;exact q y h
    |false=>
     simp only[jh];refine .inl ⟨t,L,λE=> ?_,λE=> ?_⟩
     .subst E;exact q y h
     .subst E;exact V y h
   .rename_i hx;rw[hx]at k;have L:iC A (.t g)= .v undef:=by
     show jk A g=_;generalize jk A g=a at k⊢;cases k;rfl
    have:=q p h;cases w<;>exact .inr ⟨L,this⟩
   trivial
structure VS(Fr:Nat->Prop)(H0:ic)(p0:Nat× (Nat->Option Nat))(b:Nat)(s:lu)(st:jI):Prop where
 base:st.base=b
 kb:p0.1<=s.heap.length
 ex: ∃pl,jB s.heap pl s.env st.env/\ib Fr H0 s.heap pl st.heap/\ ∀i,i<p0.1-> ∀x,pl (.m i)=U x->p0.2 i=U x
theorem RS.vs{n0:Nw}{M:Nat->Prop}{b:Nat}{p:Nat× (Nat->Option Nat)}{s:lu}{st:jI}(h:RS Fr H0 n0 M p b s st):VS Fr H0 p b s st:=⟨h.base,h.kb,by obtain⟨pl,h1,h2,H,_⟩:=h.ex;grind⟩
theorem VS.rs{b:Nat}{P:Nat× (Nat->Option Nat)}{s:lu}{st:jI}(h:VS Fr H0 P b s st)(S:List Nat): ∃M,(∀x,st.heap.length<=x->M x)/\RS Fr H0 (s.heap.length,S) M P b s st:=by
 obtain⟨pl,h1,h2,y⟩:=h.ex;have w: ∀a x,pl (.m a)=U x->(uj (s.heap.length,S) a=zZ↔a∈S):=λa x H=>by
  obtain⟨o,k⟩:=h2.own _ x H;have:=ki k;unfold uj;have z:iS s.heap.length a=false:=by
   cases A:iS s.heap.length a with
   |false=>rfl
   |true=>have:=l9 A;omega
  simp_all
 have d: ∀x,st.heap.length<=x-> ¬ ∃a,a∉S/\pl (.m a)=U x:=λx q ⟨a,_,H⟩=>by have:=h2.bd H;omega
 refine⟨λx=> ¬ ∃a,a∉S/\pl (.m a)=U x,d,h.base,h.kb,pl,h1,h2,y,jG _,d,λa x H=>⟨λB C=> ?_,λB=> ?_⟩,λx q=> ?_⟩
 .grind
 .rintro⟨b,z,p⟩;have:=h2.inj _ _ _ H p;simp_all
 .obtain⟨a,H,g⟩:=Classical.byContradiction q;obtain⟨o,k⟩:=h2.own _ x g;refine⟨a,ki k,?_,.inl g⟩;grind
def xW(Fr:Nat->Prop)(H0:ic)(k:Nat)(C:Ctx)(d:i_)(e:tx):Prop:=
 ∀x y,e.F x=U y-> ∀s,e.g.fill x=U s-> ∀q b st,VS Fr H0 (k,q) b s st->Sat C d (λE S=> ∃g,tu e.outs y (λo z=>o.ex=E/\o.g.fill z=U g)/\VS Fr H0 (k,q) b g S) st
def lZ(Fr:Nat->Prop)(H0:ic)(C:Ctx)(T:iT):iN->Prop
 | .seq a b=>lZ Fr H0 C T a/\lZ Fr H0 C T b
 | .cond _ a b=>lZ Fr H0 C T a/\lZ Fr H0 C T b
 | .lF _ b=>lZ Fr H0 C T b
 | .fz _ b=>lZ Fr H0 C T b
 | .fa _ b=>lZ Fr H0 C T b
 | .ow _ b=>lZ Fr H0 C T b
 | .loop d b=> ∀e,Cf d T.ls=U e->xW Fr H0 T.kb C (.loop b.er) e
 | .jn d b=> ∀e,Cf d T.ls=U e->xW Fr H0 T.kb C b.er e
 |_=>True
theorem Zs: ∀(os:List jL) (y:Alt os),∃(o:jL) (z:o.g.c.den),∀{d:Type} (k:(o:jL)->o.g.c.den->d),tu os y k=k o z
 | [o],y=>⟨o,y,λk=>rfl⟩
 |o::o'::r,.inl x=>⟨o,x,λk=>rfl⟩
 |o::o'::r,.inr z=>by
  obtain⟨O,Z,h⟩:=Zs (o'::r) z;exact⟨O,Z,λk=>h k⟩
 | [],y=>nomatch y
theorem Zt{L b:Nat}{s:lu}{K:Ex->lu->Option β}{st:jI}{d:i_}{q:Nat->Option Nat}(h:yR T L s K=U r)(D:VS Fr H0 (T.kb,q) b s st)(E: ∀e,Cf L T.ls=U e->xW Fr H0 T.kb C d e)
  {Q:Ex->jI->Prop} (hk: ∀e g S,K e g=U r->VS Fr H0 (T.kb,q) b g S->Q e S):Sat C d Q st:=by
 unfold yR at h;split at h
 .rename_i e F;cases p:wa T.kb e.g.ts (iQ e.own s)with
  |mk vs X=>
   rw[p]at h;simp only at h;split at h
   .rename_i x G;cases I:e.F x with
    |none=>simp_all
    |some y=>
     obtain⟨J,H,pl,h1,h2,k⟩:=D;obtain⟨w,M,N,O,R,V,W,Y⟩:=uo (ws:=e.own) J h1 h2;obtain⟨P,Z,k6,k7,A⟩:=He (env:=(iQ e.own s).env) (X:=(iQ e.own s).heap) R V (nu H W) p;refine Sat.wk N ((E e F x y I _ (rm G) q b w ⟨O,k7,P,Z,k6,λi B z hz=>k i B z (Y i (mS B H) z (A i B z hz))⟩).mono (λex S hq=> ?_));obtain⟨g,g1,g2⟩:=hq;obtain⟨o,z,k⟩:=Zs e.outs y;grind
   trivial
 trivial
theorem sw{b:Nat}{p:Nat× (Nat->Option Nat)}{ts:List Nat}{s:lu}{st:jI}(g:kZ Fr H0)(z:GO s.heap=zZ)(C:VS Fr H0 p b s st): ∃S,Wk st S/\VS Fr H0 p b (Cd ts s) S:=by
 obtain⟨env,X⟩:=s;obtain⟨M,H,B⟩:=st;obtain⟨q,D,pl,h1,h2,k⟩:=C;have F: ∀a∈ (ts.flatMap (OM ⟨env,X⟩)),AA X a=true:=by
  intro a d;obtain⟨t,_,d⟩:=List.mem_flatMap.1 d;unfold OM at d;cases q:js t 1000000 with
  |true=>
   unfold XY at d;grind
  |false=>
   grind
 obtain⟨A,H',K,E,G⟩:=YtO (b:=B) g h1 h2 F (λ{a hd c v h l} N=>by
  have: ∀{X:hZ} {a:Nat},GO X=zZ->b_ X a=U (.fm hd c v h l)->h=none:=by
   intro X;induction X with
   |nil=>intro a _ h;cases h
   |cons o X I=>
    intro a w y;simp only[GO,List.all_cons,iI]at w;cases a with
    |zero=>
     subst y;cases h with
     |none=>rfl
     |some i=>grind
    |succ a=>exact I w.2 y
  grind)
 refine⟨⟨A,H',B⟩,K,q,?_,_,E,G,λi J x L=>k i J x ?_⟩
 .show p.1<=(oh X _).length;rw[Fh];omega
 .unfold nB at L;simp_all
theorem Sat.wkp{C:Ctx}{c:i_}{Q:Ex->jI->Prop}{st:jI}(h:Sat C c (λe s=> ∃S,Wk s S/\Q e S) st):Sat C c Q st:=
 λP fm n d H g k W L a w q=>wp_mono (h P fm n d H g k W L a w q) (λe _ _ p=>by
  cases e<;>first|exact p| (obtain⟨s,⟨S,K,y⟩,z⟩:=p;exact⟨S,y,K _ _ _ _ _ _ z⟩))
theorem sV[Eqb β](D:oE T C)(A:kZ Fr H0){b:Nat}{q:Nat->Option Nat}: ∀{E:iN} {s:lu} {K:Ex->lu->Option β} {st:jI},ev T E s K=U r->lZ Fr H0 C T E->VS Fr H0 (T.kb,q) b s st-> ∀{Q:Ex->jI->Prop},
  (∀e L S,K e L=U r->VS Fr H0 (T.kb,q) b L S->Q e S)->Sat C E.er Q st
 | .bad,s,K,st,h,_,w,Q,H=>by cases h
 | .skip,s,K,st,h,_,w,Q,H=>Xt (H _ _ _ h w)
 | .exit M,s,K,st,h,_,w,Q,H=>Ysw (H _ _ _ h w)
 | .ret,s,K,st,h,_,w,Q,H=>Ot (H _ _ _ h w)
 | .qx R,s,K,st,h,_,w,Q,H=>by
   obtain⟨V,F,G⟩:=w.rs [];exact Oq F (Lq D A h G (λL S h1 h2=>H _ _ _ h1 h2.vs))
 | .wS ns R,s,K,st,h,B,w,Q,H=>by
   obtain⟨V,F,G⟩:=w.rs (ns.flatMap (KQ s)++E6 s.heap 0);exact Oq F (Lq D A h G (λL S h1 h2=>H _ _ _ h1 h2.vs))
 | .pb ls,s,K,st,h,B,w,Q,H=>by
   refine Ysv (λl B=> ?_);obtain⟨p,hp,rfl⟩:=mH.1 B;obtain⟨V,F,G⟩:=w.rs (p.1.flatMap (KQ s)++E6 s.heap 0);exact⟨V,F,Lq D A (X0 h p hp) G (λL S h1 h2=>H _ _ _ h1 h2.vs)⟩
 | .seq x y,s,K,st,h,B,w,Q,H=>by
   simp only[ev]at h;refine yF (sV D A h B.1 w (λe L S h1 h2=> ?_));cases e with
   |kM=>exact sV D A h1 B.2 h2 H
   |exit M=>exact H _ _ _ h1 h2
   |ret=>exact H _ _ _ h1 h2
 | .cond c x y,s,K,st,h,B,w,Q,H=>by
   simp only[ev]at h;obtain⟨P,I,pl,W,hr,J⟩:=w;have X:=rO W c;split at h
   .rename_i t Y;rw[Y]at X;have hv:iC st.env c.er= .v (.bool t):=by
     generalize iC st.env c.er=a at X⊢;cases X;rfl
    have N: ∀t,VS Fr H0 (T.kb,q) b (Ch s c t) (EZ st c.er t)\/vo s.env c≠ .b t:=by
     intro t';by_cases e:t'=t
     .subst e;left;cases c with
      |t g=>exact⟨P,I,pl,AN (d:=U g) W (.b t'),hr,J⟩
      |c k=>exact⟨P,I,pl,W,hr,J⟩
     grind
    refine Xv (b:=t) hv (λe=> ?_) (λe=> ?_)
    .subst e;exact sV D A h B.1 ((N zZ).resolve_right (λZ=>Z Y)) H
    .subst e;exact sV D A h B.2 ((N zj).resolve_right (λZ=>Z Y)) H
   trivial
 | .lF M x,s,K,st,h,B,w,Q,H=>by
   simp only[ev]at h;refine Xw (sV D A h B w (λe L S h1 h2=> ?_));cases e with
   |kM=>exact H _ _ _ h1 h2
   |ret=>exact H _ _ _ h1 h2
   |exit O=>
    simp only[Ex.lF];have e0:(O==M)=im O M:=by rw[Bool.eq_iff_iff,beq_iff_eq,Nat.beq_eq]
    grind
 | .loop a0 x,s,K,st,h,B,w,Q,H=>by
   exact Zt h w B H
 | .jn a0 x,s,K,st,h,B,w,Q,H=>by
   exact Zt h w B H
 | .fz ts x,s,K,st,h,B,w,Q,H=>by
   obtain⟨h1,h2⟩:=iU h;obtain⟨S,F,G⟩:=sw (ts:=ts) A h1 w;exact Sat.wk F (sV D A h2 B G H)
 | .fa ts x,s,K,st,h,B,w,Q,H=>by
   simp only[ev]at h;refine Sat.wkp (sV D A h B w (λe L S h1 h2=> ?_));cases e with
   |kM=>
    obtain⟨h3,h4⟩:=iU h1;obtain⟨a1,F,G⟩:=sw (ts:=ts) A h3 h2;exact⟨a1,F,H _ _ _ h4 G⟩
   |exit M=>exact⟨S,.refl _,H _ _ _ h1 h2⟩
   |ret=>exact⟨S,.refl _,H _ _ _ h1 h2⟩
 | .ow ws x,s,K,st,h,B,w,Q,H=>by
   simp only[ev]at h;obtain⟨P,I,pl,h1,h2,J⟩:=w;obtain⟨a3,a2,F,G,k3,k4,k8,k9⟩:=uo (ws:=ws) P h1 h2;exact Sat.wk F (sV D A h B ⟨G,nu I k8,a2,k3,k4,λi hi z hz=>J i hi z (k9 i (mS hi I) z hz)⟩ H)
theorem Zu{e:Ex}: ∀{os:List jL} {n m:Nat},KR e os n=U m-> ∃k o,m=n+k/\os[k]?=U o/\o.ex=e
 | [],n,m,h=>by cases h
 |o::r,n,m,h=>by
  simp only[KR]at h;cases q:G0 o.ex e with
  |true=>
   rw[q,cond_true]at h;injection h with h;subst h
   refine⟨0,o,rfl,rfl,?_⟩;cases h1:o.ex<;>cases h2:e<;>rw[h1,h2]at q<;>first|rfl|cases q|skip
   exact congrArg _ (jr q)
  |false=>
   rw[q,cond_false]at h;obtain⟨k,o',h1,h2,H⟩:=Zu h;exact⟨k+1,o',by omega,h2,H⟩
theorem Zv: ∀{os:List jL} {n:Nat} {f:(o:jL)->Option o.g.c.den} {y:Alt os} {o:jL},GQ os n f=U y->os[n]?=U o-> ∃z,f o=U z/\ ∀{d:Type} (k:(o:jL)->o.g.c.den->d),tu os y k=k o z
 | [],n,f,y,o,h,_=>by cases h
 | [O],0,f,y,o,h,H=>by
   injection H with H;subst H
   exact⟨y,h,λk=>rfl⟩
 |O::g::r,0,f,y,o,h,H=>by
  injection H with H;subst H
  simp only[GQ]at h;split at h
  .rename_i x p;injection h with h;subst h;exact⟨x,p,λk=>rfl⟩
  trivial
 | [_],n+1,f,y,o,h,_=>by cases h
 |O::g::r,n+1,f,y,o,h,H=>by
  simp only[GQ]at h;split at h
  .rename_i z q;injection h with h;subst h
   obtain⟨w,h1,h2⟩:=Zv q (by simpa using H);exact⟨w,h1,λk=>h2 k⟩
  trivial
theorem Lr{K:Nat}{q:Nat->Option Nat}{O:List jL}{e:Ex}{s:lu}{y:Alt O}{b:Nat}{st:jI}(h:wU K O e s=U y)(A:VS Fr H0 (K,q) b s st): ∃S,tu O y (λo z=>o.ex=e/\o.g.fill z=U S)/\VS Fr H0 (K,q) b S st:=by
 unfold wU at h;split at h
 .rename_i n B;obtain⟨k,o,h1,h2,C⟩:=Zu B;rw[mD]at h1;subst h1;obtain⟨z,g,D⟩:=Zv h h2;obtain⟨env,X⟩:=s;obtain⟨E,H,pl,F,G,d⟩:=A;cases p:wa K o.g.ts ⟨env,X⟩with
  |mk vs X'=>
   rw[p]at g;obtain⟨P,I,J,L,M⟩:=He F G H p;refine⟨⟨ji o.g.ts vs,X'⟩,?_,E,L,P,I,J,λi w x N=>d i w x (M i w x N)⟩;rw[D];exact⟨C,rm g⟩
 trivial
theorem Ls{S R:Type}{step:S->Option (S⊕R)}{s:S}{y:R}(h:lY step s=U y): ∃n,tC step n s=U y:=by
 unfold lY at h;split at h
 .grind
 trivial
theorem Yuh(R:oE T C)(D:kZ Fr H0){V:Nat}{O:List (Nat×Option Nat×Bool)}{g:Sg}{d:List jL}{B:iN}(W:lZ Fr H0 C T B){F:g.c.den->Option (Alt d)}(Y: ∀x y,F x=U y->lY (E7 T O g d B) x=U y):
  xW Fr H0 T.kb C (.loop B.er) ⟨V,O,g,d,F⟩:=by
 intro x y Z s H q b st hs;obtain⟨n,hn⟩:=Ls (Y x y Z);refine Xx (λm t=> ∃x s,tC (E7 T O g d B) m x=U y/\g.fill x=U s/\VS Fr H0 (T.kb,q) b s t) ⟨n,st,⟨x,s,hn,H,hs⟩,.refl _⟩ ?_;rintro m t ⟨x,s,h1,h2,h3⟩;cases m with
 |zero=>cases h1
 |succ m=>
  simp only[tC]at h1;cases h:E7 T O g d B x with
  |none=>simp_all
  |some q=>
   rw[h]at h1;unfold E7 at h;rw[h2]at h;refine sV R D h W h3 (λe S a0 G E=> ?_);cases e with
   |kM=>
    cases p:wa T.kb g.ts (iQ O S)with
    |mk vs X=>
     rw[p]at G;simp only at G;split at G
     .rename_i x' I;injection G with G;subst G
      obtain⟨hb,w,pl,he,hr,J⟩:=E;obtain⟨L,a1,K,A,k3,k4,k8,k9⟩:=uo (ws:=O) hb he hr;obtain⟨P,k5,k6,k7,M⟩:=He (env:=(iQ O S).env) (X:=(iQ O S).heap) k3 k4 (nu w k8) p;exact⟨m,L,⟨x',_,h1,rm I,A,k7,P,k5,k6,λi N z hz=>J i N z (k9 i (mS N w) z (M i N z hz))⟩,by omega,K⟩
     trivial
   |exit a2=>
    simp only at G;split at G
    .rename_i y' k;injection G with G;subst G
     injection h1 with h1;subst h1
     obtain⟨Q,K,A⟩:=Lr k E;exact⟨Q,K,A⟩
    trivial
   |ret=>
    simp only at G;split at G
    .rename_i y' k;injection G with G;subst G
     injection h1 with h1;subst h1
     obtain⟨Q,K,A⟩:=Lr k E;exact⟨Q,K,A⟩
    trivial
theorem Yui(k:oE T C)(H:kZ Fr H0){I:Nat}{d:List (Nat×Option Nat×Bool)}{g:Sg}{O:List jL}{B:iN}(p:lZ Fr H0 C T B){F:g.c.den->Option (Alt O)}(w: ∀x y,F x=U y->uk T g O B x=U y):
  xW Fr H0 T.kb C B.er ⟨I,d,g,O,F⟩:=by
 intro x y z s h q b st A;have h1:=w x y z;unfold uk at h1;rw[h]at h1;exact sV k H h1 p A (λe E S G D=>Lr G D)
end
end Go.Abs
namespace Go.Abs
open Go Go.RowKit
section
variable{Fr:Nat->Prop}{H0:ic}{X:hZ}{pl:Pl}{H:ic}
theorem Lt(X:hZ): ∀l:List TV,TV.rk X l=l.map (TV.qv X)
 | []=>rfl
 |a::r=>by simp[TV.rk,Lt X r]
theorem Zw(y:ib Fr H0 X pl H){v:TV}{a:AV}(h:TR X pl v a):wb (v.qv X)=zZ->Out H a (oX (v.qv X)):=by
 have O: ∀{v:TV} {a:AV},TR X pl v a->v.qv X=v->wb (v.qv X)=zZ->Out H a (oX (v.qv X)):=by
  intro v a D e hd;rw[e]at hd⊢;exact xR (Y0 D hd) (Pb v)
 have L: ∀{cs:List TV} {as:List AV},cs.length=as.length->(∀(j:Nat) (c:TV) (a:AV),cs[j]?=U c->as[j]?=U a->wb (c.qv X)=zZ->Out H a (oX (c.qv X)))->qh (TV.rk X cs)=zZ->
   as.length=(jC (TV.rk X cs)).length/\ ∀(j:Nat) (x B:AV),as[j]?=U x->(jC (TV.rk X cs))[j]?=U B->Out H x B:=by
  intro cs as q h hd;refine⟨by simp[Cx,Lt,q],λj x B h1 h2=> ?_⟩;rw[Cx,Lt,List.map_map,jt,lS]at h2;obtain⟨c,h2,rfl⟩:=h2;refine h j c x h2 h1 (Le hd j _ ?_);rw[Lt,jt,h2];rfl
 induction h with
 |i k n=>exact O (.i k n) rfl
 |b x=>exact O (.b x) rfl
 |uT=>exact O .uT rfl
 |mK=>exact O .mK rfl
 |s x=>exact O (.s x) rfl
 |l c v a h=>exact O (.l c v a h) rfl
 |e c=>intro _;exact .j_ _
 |ref a x o n h d w=>
  intro hd;simp only[TV.qv,h]at hd⊢;cases o with
  |sq c l=>
   injection d with d;subst d
   have:=Lb (Fz:=λ_=>True) (h1:=λ_=>zz) y h w trivial (jG _);rw[rN]at this;trivial
  |fm z c V p l=>
   cases p with
   |some i=>cases z<;>cases hd
   |none=>
    cases z with
    |mp o n=>cases d
    |rw A nn=>
    injection d with d;subst d
    have:=Ld (Fz:=λ_=>True) (h1:=λ_=>zz) y h w (λ_ _ _ _=>trivial) (jG _);rw[rN]at this;trivial
  |st cs=>cases hd
  |sb s=>
   injection d with d;subst d
   exact YW (Fz:=λ_=>True) (h1:=λ_=>zz) y h w trivial
 |pre a x m o n h d w h0 C=>
  intro hd;simp only[TV.qv,h]at hd⊢;cases o with
  |sq c l=>
   injection d with d;subst d
   exact Lb (Fz:=λ_=>True) (h1:=λ_=>zz) y h w trivial C
  |fm z c V p l=>
   cases p with
   |some i=>cases z<;>cases hd
   |none=>
    cases z with
    |mp o n=>cases d
    |rw A nn=>
    injection d with d;subst d
    exact Ld (Fz:=λ_=>True) (h1:=λ_=>zz) y h w (λ_ _ _ _=>trivial) C
  |st cs=>cases hd
  |sb s=>cases hd
 |nA a F h E=>intro hd;simp only[TV.qv,h]at hd;cases hd
 |og a x m h E h0=>intro hd;simp only[TV.qv,h]at hd;cases hd
 |ag cs as q h I=>
  intro hd;have:=L q I hd;exact .agg _ _ this.1 this.2
 |tp cs as q h I=>
  intro hd;have:=L q I hd;exact .iZ _ _ this.1 this.2
 |clo g cs as q h I=>
  intro hd;have:=L q I hd;exact .clo g _ _ this.1 this.2
 |_=>intro hd;cases hd
theorem Pt{s:lu}{st:jI}(H:jB s.heap pl s.env st.env)(z:ib Fr H0 s.heap pl st.heap): ∀{rs:List RV} {vs:List TV},Ci s rs=U vs-> ∃as,Au st rs as/\CT s.heap pl vs as
 | [],vs,h=>by injection h with h;subst h;exact⟨[],trivial,.nil⟩
 |r::rs,vs,h=>by
  simp only[Ci]at h;split at h
  .rename_i v B h1 h2;injection h with h;subst h
   obtain⟨as,K,A⟩:=Pt H z h2;cases r with
   |t n=>
    injection h1 with h1;subst h1
    exact⟨_::as,⟨rfl,K⟩,.cons (H n) A⟩
   |c n g sz=>
    simp only[X7]at h1;have C:TR s.heap pl (lW s.env n) (iC st.env (.t n)):=H n;have k: ∃V,kA (.load g sz (.t n)) st.env (hf st.heap) 0 (λD _=>D=V)/\TR s.heap pl v V:=by
     have:=Ym (KA:=λV=>TR s.heap pl v V) h1 C z (λw W I J=>by simp_all);have d:kA (.load g sz (.t n)) st.env (hf st.heap) 0 (λV _=>TR s.heap pl v V):=this;obtain⟨V,us,q,G⟩:=WW _ _ _ _ _ d;refine⟨V,?_,q⟩;simp only[kA,jh]at G⊢;revert G;generalize iC st.env (.t n)=p;intro G;have L: ∀{cs:List AV},sQ g sz cs (λa=>a=V/\ ([]:List jy)=us)->sQ g sz cs (λa=>a=V):=λh=>by
      cases g with
      |true=>exact⟨h.1,h.2.1⟩
      |false=>obtain⟨c,h1,h2,_⟩:=h;exact⟨c,h1,h2⟩
     split at G<;>first|exact L G|skip
     .obtain⟨o,E,e,y,F⟩:=G;exact⟨o,E,e,y,L F⟩
     trivial
    obtain⟨V,q,G⟩:=k;exact⟨V::as,⟨q,K⟩,.cons G A⟩
  trivial
theorem Zx{vs:List TV}{as:List AV}(h:CT X pl vs as):TR X pl (uS vs) (qd as):=by
 match vs,as,h with
 | [],as,h=>
   have:=h.1;cases as with
   |nil=>exact .tp _ _ rfl (λj c a h=>by simp)
   |cons _ _=>trivial
 | [v],as,h=>
   obtain⟨a,r,rfl,h1,h2⟩:=h.inv;have:=h2.1;cases r with
   |nil=>exact h1
   |cons _ _=>trivial
 |v::w::r,as,h=>
  have H:=h.1
  match as,H with
  |a::b::R,_=>exact .tp _ _ h.1 h.2
theorem Zy: ∀(i:Nat) (vs:List TV),qh vs=zZ->jB X pl (ji (List.range' i vs.length) vs) (sp i (jC vs))
 |i,[],_=>λt=>.u _
 |i,v::vs,h=>by
  simp only[qh,iI]at h;intro t;simp only[pL,List.range'_succ,ji,jC,sp,lW,jk];have e0:(i==t)=im i t:=by rw[Bool.eq_iff_iff,beq_iff_eq,Nat.beq_eq]
  rw[e0];cases im i t with
  |true=>exact Pd v h.1
  |false=>exact Zy (i+1) vs h.2 t
theorem Zz(k:Nat):ib (λ_=>False) [] [] (λ_=>zz) (Z k []):=
 ⟨λa o h=>(by cases h),λp q x h=>(by cases h),λp x h=>(by cases h),λx h=>h.elim,λp x h=>(by cases h),sP _⟩
theorem Fo: ∀{vs:List TV} {svs:List SV},TV.qg vs=U svs->svs.length=vs.length
 | [],svs,h=>by simp only[TV.qg]at h;simp_all
 |a::vs,svs,h=>by
  simp only[TV.qg]at h;split at h
  .rename_i x xs h1 h2;injection h with h;subst h;simp[Fo h2]
  trivial
theorem Yuj(vs:List TV):(jC vs).length=vs.length:=by simp[Cx]
theorem Yuk{S:SV}{c:Cs}{v:TV}{y:c.den}(h:KS S c v=U y):kH S (kp c y)=U (v,[]):=by
 unfold KS at h;split at h
 .rename_i d H;obtain⟨h1,h2⟩:=iU h;have E:=SV.jd h1;have g:=G_ v.lv;generalize tt v.lv=p at h2 g;obtain⟨c',z⟩:=p;obtain⟨e,k⟩:=Cs.kC h2;have q:kp c y=v.lv:=by
   grind
  have:=O5 [] H;simp_all
 trivial
def l4(P:Program)(fm:FM)(T:iT):Prop:= ∃C:Ctx,jq P fm C/\oE T C
theorem Yul(P:Program)(fm:FM)(pf:Nat->Bool)(ls:List tx):l4 P fm ⟨pf,[],ls,0⟩:=
 ⟨XL pf [],YsD P fm pf,⟨rfl,λe h=>by cases h⟩,λe h=>by cases h⟩
def ur(C:Ctx)(g:Nat)(R:vP):Ctx:=⟨λh args H r H'=>C.C h args H r H'\/(h=g/\R args H r H'),C.pf⟩
theorem wm{P:Program}{fm:FM}{C:Ctx}{g:Nat}{R:vP}(h:jq P fm C)(p:C.pf g=zZ->Pure R)(q: ∀f,fm f=g->qc P fm f R):jq P fm (ur C g R):=by
 refine⟨λf args H r H' d=> ?_,λf args H r k d=> ?_,λf args r k d=> ?_⟩
 .rcases d with d| ⟨e,d⟩
  .exact h.ok f args H r H' d
  .exact q f e args H r H' d
 .rcases d with d| ⟨e,d⟩
  .exact h.nr f args H r k d
  .exact⟨((p (e▸k)).nr _ _ _ _ d).1,((p (e▸k)).nr _ _ _ _ d).2.1⟩
 .rcases d with d| ⟨e,d⟩
  .exact .inl (h.any f args r k d)
  .exact .inr ⟨e,(p (e▸k)).any _ _ 1 d⟩
theorem AO{T:iT}{C:Ctx}(h:oE T C){e:hM}{R:vP}(k:T.pf e.g=zZ-> ∀args r,e.R args r->R args [] r [])(I:T.pf e.g=zj-> ∀args H r H',e.RI args H r H'->R args H r H'):oE ⟨T.pf,e::T.fs,T.ls,0⟩ (ur C e.g R):=by
 refine⟨⟨h.p.pf,λe' d p args r g=> ?_⟩,λe' d p args H r H' g=> ?_⟩
 .rcases mT.1 d with rfl|d
  .exact .inr ⟨rfl,k p _ _ g⟩
  .exact .inl (h.p.fn e' d p args r g)
 .rcases mT.1 d with rfl|d
  .exact .inr ⟨rfl,I p _ _ _ _ g⟩
  .exact .inl (h.Cy e' d p args H r H' g)
theorem Yum{e:hM}{args:List AV}{r:AV}(h:e.R args r):q_ e.R args [] r []:=by
 refine⟨0,rfl,rfl,?_,?_,h⟩
 .obtain⟨x,y,vs,v,h1,h2,H,rfl,d,g,rfl⟩:=h;exact λa k=>Fi vs a k
 .obtain⟨x,y,vs,v,h1,h2,H,rfl,d,g,rfl⟩:=h;exact Pb v
theorem Hn{T:iT}{C:Ctx}(h:oE T C){e:hM}(p:T.pf e.g=zZ):oE ⟨T.pf,e::T.fs,T.ls,0⟩ (ur C e.g (q_ e.R)):=
 AO h (λ_ _ _ H=>Yum H) (λq=>by simp_all)
theorem ZA{P:Program}{fm:FM}{T:iT}{C:Ctx}(J:jq P fm C)(B:oE T C)(L:P.follows .mixedOrders=zZ){e:hM}{F:kT}{f:FuncId}
  (q:lk P fm T.pf f=U (F.lJ,F.res,F.code.er)) (M:F.res.length<=4) (w:e.args.ts=List.range' 0 e.args.vs.length) (N:e.args.vs.length<=F.lJ)
  (O:T.kb=0) (Q:lZ (λ_=>False) [] C T F.code) (R: ∀x y,e.F x=U y->Cj T F e.args e.res e.co x=U y):qc P fm f (q_ e.R):=by
 refine XH J L (by rw[B.p.pf];exact q) M ?_;rintro args r ⟨x,y,vs,v,h1,h2,V,rfl,W,h6,rfl⟩;have H:e.args.vs.length=vs.length:=by
  unfold Sg.read at h2;split at h2
  .rename_i svs X K D;obtain⟨E,_⟩:=iU h2;simp at E;rw[<-SV.jv E.1,Fo K]
  trivial
 refine⟨by rw[Yuj,<-H];omega,λk=> ?_⟩;have d:=R x y h1;unfold Cj at d;rw[rm h2]at d;have z:VS (λ_=>False) [] (T.kb,λ_=>zz) k ⟨ji e.args.ts vs,[]⟩ ⟨sp 0 (jC vs),Z k [],k⟩:=by
  refine⟨rfl,by omega,λ_=>zz,?_,Zz k,λi hi x Y=>by cases Y⟩;rw[w,H];exact Zy 0 vs V
 refine sV B y_ d Q z (λex G S g g2=> ?_);have p:(match Ci G F.res with|some vs=>KS e.res e.co ((uS vs).qv G.heap)|none=>zz)=U y->S.base=k/\ ∃vs,Au S F.res vs/\Out S.heap (qd vs) (oX v):=by
  intro g;split at g
  .rename_i ws A;obtain⟨hb,_,pl,he,I,_⟩:=g2;obtain⟨as,K,D⟩:=Pt he I A;have h:=Yuk g;rw[W]at h;injection h with h;injection h with h _
   refine⟨hb,as,K,?_⟩;rw[h];exact Zw I (Zx D) (by simp_all)
  trivial
 cases ex with
 |exit id=>cases g
 |kM=>exact p g
 |ret=>exact p g
theorem Yun{P:Program}{fm:FM}{T:iT}(S:l4 P fm T)(q:P.follows .mixedOrders=zZ)(L:List tx)(e:hM)(w:T.pf e.g=zZ)(F:kT)
  (h: ∀f,fm f=e.g->lk P fm T.pf f=U (F.lJ,F.res,F.code.er)) (z:F.res.length<=4) (g:e.args.ts=List.range' 0 e.args.vs.length) (k:e.args.vs.length<=F.lJ)
  (A: ∀C,oE ⟨T.pf,T.fs,L,0⟩ C->lZ (λ_=>False) [] C ⟨T.pf,T.fs,L,0⟩ F.code) (B: ∀x y,e.F x=U y->Cj ⟨T.pf,T.fs,L,0⟩ F e.args e.res e.co x=U y):l4 P fm ⟨T.pf,e::T.fs,T.ls,0⟩:=by
 obtain⟨C,p,d⟩:=S;have H:oE ⟨T.pf,T.fs,L,0⟩ C:=⟨⟨d.p.pf,d.p.fn⟩,d.Cy⟩;exact⟨ur C e.g (q_ e.R),wm p (λ_=>GF _) (λf D=>ZA p H q (h f D) z g k rfl (A C H) B),Hn d w⟩
theorem Yuo{P:Program}{fm:FM}{T:iT}(S:l4 P fm T)(J:P.follows .mixedOrders=zZ)(e:hM)(E:T.pf e.g=zZ)(d:Nat->e.args.c.den->Option e.co.den)(L:Nat->List tx)(F:kT)
  (g: ∀f,fm f=e.g->lk P fm T.pf f=U (F.lJ,F.res,F.code.er)) (K:F.res.length<=4) (w:e.args.ts=List.range' 0 e.args.vs.length) (z:e.args.vs.length<=F.lJ)
  (h0: ∀x,d 0 x=zz) (p: ∀x y,e.F x=U y-> ∃n,d n x=U y)
  (M: ∀n C,oE ⟨T.pf,⟨e.g,e.pf,e.args,e.res,e.os,e.co,d n⟩::T.fs,L n,0⟩ C->lZ (λ_=>False) [] C ⟨T.pf,⟨e.g,e.pf,e.args,e.res,e.os,e.co,d n⟩::T.fs,L n,0⟩ F.code)
  (N: ∀n x y,d (n+1) x=U y->Cj ⟨T.pf,⟨e.g,e.pf,e.args,e.res,e.os,e.co,d n⟩::T.fs,L n,0⟩ F e.args e.res e.co x=U y):l4 P fm ⟨T.pf,e::T.fs,T.ls,0⟩:=by
 obtain⟨C,G,I⟩:=S;have step: ∀n f,fm f=e.g->qc P fm f (q_ (hM.R ⟨e.g,e.pf,e.args,e.res,e.os,e.co,d n⟩)):=by
  intro n;induction n with
  |zero=>
   intro f _ args H r H' A;obtain⟨_,_,_,_,_,x,y,vs,v,h1,_⟩:=A;simp_all
  |succ n O=>
   intro f B;have D:=wm G (λ_=>GF _) O;have h:=Hn I (e:=⟨e.g,e.pf,e.args,e.res,e.os,e.co,d n⟩) E;have q:oE ⟨T.pf,⟨e.g,e.pf,e.args,e.res,e.os,e.co,d n⟩::T.fs,L n,0⟩ _:=⟨⟨h.p.pf,h.p.fn⟩,h.Cy⟩;exact ZA (e:=⟨e.g,e.pf,e.args,e.res,e.os,e.co,d (n+1)⟩) D q J (g f B) K w z rfl (M n _ q) (N n)
 refine⟨ur C e.g (q_ e.R),wm G (λ_=>GF _) (λf B args H r H' A=> ?_),Hn I E⟩;obtain⟨k,Q,R,V,W,x,y,vs,v,h1,h2⟩:=A;obtain⟨n,X⟩:=p x y h1;exact step n f B args H r H' ⟨k,Q,R,V,W,x,y,vs,v,X,h2⟩
theorem Yup{P:Program}{fm:FM}{T:iT}(S:l4 P fm T){e:hM}(g:e∈T.fs)(p:T.pf e.g=zZ){f:FuncId}(k:fm f=e.g){args:List AV}{r:AV}(h:e.R args r){W:World}{vals:Array Value}(z:vals.size=args.length)
  (q: ∀j a,args[j]?=U a->VR fm W qA (vals.getD j undef) a) (H:rf fm W):Calls P f vals W λE d=> ∃v,E= .returned v/\iv qA W d/\ ∃L,VR fm d L v r:=by
 obtain⟨C,w,y⟩:=S;have h1:=y.p.fn e g p args r h;rw[<-k]at h1;obtain⟨_,h2⟩:=w.ok f args [] r [] h1;refine(h2 W qA vals (YsE fm W H) z q).mono ?_;grind
end
end Go.Abs
namespace Go.Abs
open Go Go.RowKit
theorem Yuq{S:SV}{os:List SO}{c:Cs}{v:TV}{X:hZ}{y:c.den}(h:KT S os c v X=U y):kH S (kp c y)=U (v,kW X)/\ll os (kW X)=U (X,[]):=by
 unfold KT at h;split at h
 .rename_i g O h1 h2;obtain⟨E,d⟩:=iU h;simp at E;have q:=SV.jd E.1;have Q:=SO.jv E.2;have H:=G_ (v.lv++kW X);generalize tt (v.lv++kW X)=p at d H;obtain⟨c',z⟩:=p;obtain⟨e,w⟩:=Cs.kC d;have k:kp c y=v.lv++kW X:=by
   grind
  subst q;subst Q;refine⟨by rw[k];exact O5 _ h1,?_⟩;have:=Fc [] h2;simp_all
 trivial
section
variable{Fr:Nat->Prop}{H0:ic}{X:hZ}{pl:Pl}{H:ic}
theorem ZB: ∀(i:Nat) (vs:List TV) (as:List AV),CT X pl vs as->jB X pl (ji (List.range' i vs.length) vs) (sp i as)
 |i,[],as,_=>λt=>.u _
 |i,v::vs,as,h=>by
  obtain⟨a,r,rfl,h1,h2⟩:=h.inv;intro t;simp only[pL,List.range'_succ,ji,sp,lW,jk];have e0:(i==t)=im i t:=by rw[Bool.eq_iff_iff,beq_iff_eq,Nat.beq_eq]
  rw[e0];cases im i t with
  |true=>exact h1
  |false=>exact ZB (i+1) vs r h2 t
theorem ZC{m:List Nat}{q:Pl}{ρ:Nat->Nat}{H':HF}{X2:hZ}
  (L: ∀{b i o},ja m b 0=U i->b_ X b=U o-> ∀{x},pl (.m b)=U x->b_ X2 i=U (o.jm λa=>ja m a 0)/\ ∃z,q (.m i)=U z/\ρ z=x/\ ∃o',H' z=U (U o'))
  (d: ∀{b i},ja m b 0=U i->b_ X b=zz->b_ X2 i=zz) {tv:TV} {C:AV} (h:TR X pl tv C):
  pq X2 (tv.jm λa=>ja m a 0)=zZ->Cz ρ (λ_=>False) (hf H) H' C (kE X2 q (tv.jm λa=>ja m a 0)):=by
 have J: ∀(o:il),iz (o.jm λa=>ja m a 0)=iz o/\lK (o.jm λa=>ja m a 0)=lK o:=Fg _;have p: ∀{cs:List TV} {as:List AV},cs.length=as.length->(∀(j:Nat) (c:TV) (a:AV),cs[j]?=U c->as[j]?=U a->pq X2 (c.jm λa=>ja m a 0)=zZ->Cz ρ (λ_=>False) (hf H) H' a (kE X2 q (c.jm λa=>ja m a 0)))->mM X2 (TV.my (λa=>ja m a 0) cs)=zZ->
   as.length=(xc X2 q (TV.my (λa=>ja m a 0) cs)).length/\ ∀(j:Nat) (x F:AV),as[j]?=U x->(xc X2 q (TV.my (λa=>ja m a 0) cs))[j]?=U F->Cz ρ (λ_=>False) (hf H) H' x F:=by
  intro cs as y h hd;refine⟨by simp[Pg,pz,y],λj x F h1 h2=> ?_⟩;rw[Pg,pz,List.map_map,jt,lS]at h2;obtain⟨c,h2,rfl⟩:=h2;refine h j c x h2 h1 ?_;have W: ∀{l:List TV} {j:Nat} {c:TV},mM X2 l=zZ->l[j]?=U c->pq X2 c=true:=by
   intro l;induction l with
   |nil=>simp
   |cons a l I=>
    intro j c w M;simp only[mM,iI]at w;grind
  refine W hd (j:=j) ?_;rw[pz,jt,h2];rfl
 induction h with
 |i k n=>intro _;exact .v _
 |b x=>intro _;exact .v _
 |s x=>intro _;exact .v _
 |l c v a h=>intro _;exact xR h (GI (.l c) v)
 |e c=>intro w;exact .emp
 |u a=>intro _;exact .u _
 |v x=>intro _;exact .u _
 |nl=>intro _;exact .v _
 |uT=>intro _;exact .er
 |mK=>intro _;exact .v _
 |ref a x o n h y D=>
  intro w;simp only[TV.jm]at w⊢;split
  .rename_i i A;obtain⟨h1,z,h2,rfl,o',E⟩:=L A h D;have K:tJ X2 i=n:=by simp only[tJ,h1,(J o).1,y,qu]
   simp only[kE,h2,K];exact .ref z 0 n o' E
  .exact .u _
 |nA a C h G=>
  intro w;simp only[TV.jm]at w⊢;split
  .rename_i i A;simp only[A,pq,d A h]at w;cases w
  .exact .u _
 |pre a x k o n h y D h0 N=>
  intro w;simp only[TV.jm]at w⊢;split
  .rename_i i A;simp only[A,pq]at w;cases w
  .exact .u _
 |og a k C h G=>
  intro w;simp only[TV.jm]at w⊢;split
  .rename_i i A;simp only[A,pq]at w;cases w
  .exact .u _
 |ptr a i j x o h A D=>
  intro w;simp only[TV.jm]at w⊢;split
  .rename_i b B;obtain⟨h1,z,h2,rfl,o',E⟩:=L B h D;simp only[kE,h2];exact .ptr z i j o' E
  .exact .u _
 |nM a i j C h G=>
  intro w;simp only[TV.jm]at w⊢;split
  .rename_i b B;simp only[B,pq,d B h,Bool.and_false]at w;cases w
  .exact .u _
 |np a x o h D=>
  intro w;simp only[TV.jm]at w⊢;split
  .rename_i b B;obtain⟨h1,z,h2,rfl,o',E⟩:=L B h D;simp only[kE,h2];exact .np z o' E
  .exact .u _
 |wc a C h G=>
  intro w;simp only[TV.jm]at w⊢;split
  .rename_i b B;simp only[B,pq,d B h]at w;cases w
  .exact .u _
 |ag cs as y h I=>
  intro w;have:=p y I w;exact .agg _ _ this.1 this.2
 |tp cs as y h I=>
  intro w;have:=p y I w;exact .iZ _ _ this.1 this.2
 |clo g cs as y h I=>
  intro w;have:=p y I w;exact .clo g _ _ this.1 this.2
 |_=>intro _;exact .u _
theorem Pu: ∀{X:hZ} {S:List SO},ny X=U S->S.length=X.length
 | [],S,h=>by simp only[ny]at h;simp_all
 |none::X,S,h=>by
  simp only[ny]at h;split at h
  .rename_i xs h2;injection h with h;subst h;simp[Pu h2]
  trivial
 |some o::X,S,h=>by
  simp only[ny]at h;split at h
  .rename_i x xs h1 h2;injection h with h;subst h;simp[Pu h2]
  trivial
theorem getElem?_pre{l m:List Nat}(h:l<+:m){i:Nat}(H:i<l.length):m[i]?=l[i]?:=by
 obtain⟨r,rfl⟩:=h;grind
def za(m:List Nat)(ph:Pl):Pos->Option Nat
 | .m i=>match m[i]? with|some b=>ph (.m b)|none=>zz
 | .n i k=>match m[i]? with|some b=>ph (.n b k)|none=>zz
theorem CA{Kp:Nat->Prop}{Xs:hZ}{pls:Pl}{Xh:hZ}{ph:Pl}{s:jI}{v:TV}{a:AV}{m:List Nat}(Q:ib Kp H Xs pls H)(af:kZ Kp H)(hr:ib Kp H Xh ph s.heap)(hb:s.base=H.length)(hk:Xs.length<=Xh.length)
  (am: ∀i,i<Xs.length-> ∀x,ph (.m i)=U x->pls (.m i)=U x) (ag:m.Nodup) (a1:List.range Xs.length<+:m) (ht:TR Xh ph v a)
  (hw:pq (iw Xh m) (v.jm λa=>ja m a 0)=zZ) (hX:oC (iw Xh m) (iw Xh m)=zZ):
  Fin s a (kE (iw Xh m) (jx pls Xs.length H.length (iw Xh m)) (v.jm λa=>ja m a 0)) (oD Kp H Xs.length (iw Xh m) (jx pls Xs.length H.length (iw Xh m))):=by
 classical
 have av:Xs.length<=m.length:=by simpa using a1.length_le
 have aw:(iw Xh m).length=m.length:=by simp[iw]
 have ac:Xs.length<=(iw Xh m).length:=by omega
 let ρ:Nat->Nat:=λz=>if z<H.length then z else if h: ∃p,jx pls Xs.length H.length (iw Xh m) p=U z then(za m ph (Classical.choose h)).getD z else z
 have V: ∀z,z<H.length->ρ z=z:=λz E=>by simp only[ρ,if_pos E]
 have an: ∀{i},i<Xs.length->m[i]?=U i:=λ{i} W=>by
  rw[getElem?_pre a1 (by simpa using W),pO W]
 have a2: ∀{p:Pos} {z x:Nat},H.length<=z->jx pls Xs.length H.length (iw Xh m) p=U z->za m ph p=U x->ρ z=x:=by
  intro p z x h0 h1 h2;have ah: ∃p,jx pls Xs.length H.length (iw Xh m) p=U z:=⟨p,h1⟩;have:=Lg (Xs:=Xs) Q (Classical.choose_spec ah) h1;simp only[ρ,if_neg (show¬z<H.length by omega),dif_pos ah];rw[this,h2];rfl
 have src: ∀{i o},b_ (iw Xh m) i=U o-> ∃b ob x,m[i]?=U b/\b_ Xh b=U ob/\o=ob.jm (λa=>ja m a 0)/\ph (.m b)=U x/\ ∃z,jx pls Xs.length H.length (iw Xh m) (.m i)=U z/\ρ z=x:=by
  intro i o F;have R:=F;rw[K9]at R;cases hb:m[i]? with
  |none=>rw[hb]at R;cases R
  |some b=>
   rw[hb]at R;simp at R;obtain⟨ob,J,rfl⟩:=R;obtain⟨x,hx⟩:=Zf hr J;refine⟨b,ob,x,rfl,J,rfl,hx,?_⟩;by_cases W:i<Xs.length
   .have:=an W;rw[hb]at this;injection this with this;subst this
    have E:=am b W x hx;exact⟨x,by simp only[jx,F,if_pos W];exact E,V x (Q.bd E)⟩
   .have E:jx pls Xs.length H.length (iw Xh m) (.m i)=U (H.length+(i-Xs.length)):=by simp only[jx,F,if_neg W]
    exact⟨_,E,a2 (by omega) E (by simp only[za,hb];exact hx)⟩
 have S: ∀{i k z},jx pls Xs.length H.length (iw Xh m) (.n i k)=U z-> ∃b hd c v l y el',m[i]?=U b/\b_ Xh b=U (.fm hd c v zz l)/\b_ (iw Xh m) i=U (.fm hd c 0 zz l)/\k<l.length/\ph (.n b k)=U y/\ρ z=y/\
   s.heap[y]?=U (U ⟨c.width,el'⟩)/\Rows el' c (kG hd c l k):=by
  intro i k z E;obtain⟨h1,h2,B⟩:=yY E;cases F:b_ (iw Xh m) i with
  |none=>rw[F]at h1;exact absurd h1 (Nat.not_lt_zero _)
  |some o=>
   rw[F]at h1;obtain⟨b,ob,x,C,P,G,g4,_⟩:=src F;rcases Fk hX F with⟨_,_,e,_⟩| ⟨_,e,_⟩| ⟨_,e⟩| ⟨hd,c,v,l,e,h0,Y⟩
   .subst e;exact absurd h1 (Nat.not_lt_zero _)
   .subst e;exact absurd h1 (Nat.not_lt_zero _)
   .subst e;exact absurd h1 (Nat.not_lt_zero _)
   .subst e;cases ob with
    |fm hd' c' v' h' l'=>
     simp only[il.jm]at G;injection G with e0 I e2 e3 e4
     subst e0;subst I;subst e2;subst e3;have e4:=eq_of_heq e4;subst e4;obtain⟨X,el,q1,q2,q3,q4,q6⟩:=hr.obj b _ P;have hk:k<l.length:=h1;obtain⟨d,r,_,_,qq⟩:=wY (q6 k _ _ (je (by omega:k<el.length)) (tH hk)) (by simp);rcases qq with⟨y,el',Z,f2,f3,f4⟩| ⟨f0,_⟩
     .exact⟨b,hd,c,v',l,y,el',C,P,rfl,hk,Z,a2 (by omega) E (by simp only[za,C];exact Z),f3,f4⟩
     .rw[Y]at f0;cases f0
    |_=>cases G
 have a5:=λ{p:Pos} {x:Nat}=>Pj (Xs:=Xs) Q ac (p:=p) (x:=x);have ai:=λ{x:Nat}=>Lh (Xs:=Xs) Q (X2:=iw Xh m) (x:=x);have ao:=λ{p q:Pos} {x:Nat}=>Lg (Xs:=Xs) Q (X2:=iw Xh m) (p:=p) (q:=q) (x:=x);have a6: ∀{i x},jx pls Xs.length H.length (iw Xh m) (.m i)=U x-> ∃o,b_ (iw Xh m) i=U o:=λh=>Y6 h;have aj: ∀{i k},k<pB (b_ (iw Xh m) i)-> ∃x,jx pls Xs.length H.length (iw Xh m) (.n i k)=U x:=λ{i k} h=>⟨H.length+((iw Xh m).length-Xs.length)+(mA (iw Xh m) i+k),by simp only[jx];rw[if_pos h]⟩;have ak:=Hj Kp H Xs.length (iw Xh m) (jx pls Xs.length H.length (iw Xh m));have L:=λ{x:Nat} {o:iu}=>Y7 (Kp:=Kp) (H:=H) (Xs:=Xs) (pls:=pls) (X2:=iw Xh m) (x:=x) (o:=o)
 clear_value ρ
 generalize ax:oD Kp H Xs.length (iw Xh m) (jx pls Xs.length H.length (iw Xh m))=H' at a5 ai ak L⊢;generalize hq:jx pls Xs.length H.length (iw Xh m)=q at a5 ao a6 aj L src S⊢;have a3: ∀{b i o},ja m b 0=U i->b_ Xh b=U o-> ∀{x},ph (.m b)=U x->b_ (iw Xh m) i=U (o.jm λa=>ja m a 0)/\ ∃z,q (.m i)=U z/\ρ z=x/\ ∃o',hf H' z=U (U o'):=by
  intro b i o W F x hx;have M:=(Fe W).2;simp only[Nat.sub_zero]at M;have hv:b_ (iw Xh m) i=U (o.jm λa=>ja m a 0):=by rw[Ff M,F];rfl
  obtain⟨b',ob,X,h1,h2,B,g,z,h5,h6⟩:=src hv;rw[M]at h1;injection h1 with h1;subst h1
  rw[hx]at g;injection g with g;subst g
  exact⟨hv,z,h5,h6,_,a5 h5⟩
 have a4: ∀{b i},ja m b 0=U i->b_ Xh b=zz->b_ (iw Xh m) i=none:=by
  intro b i W F;have M:=(Fe W).2;simp only[Nat.sub_zero]at M;rw[Ff M,F];rfl
 have K: ∀x,Kp x->ρ x=x/\ ∃o,hf H' x=U (U o):=λx hx=>by
  obtain⟨⟨o,F⟩,_⟩:=af x hx;exact⟨V x (Q.fr x hx).1,o,(ai hx).trans F⟩
 have a0: ∀{p:Pos} {z},q p=U z-> ∃p':Pos,ph p'=U (ρ z)/\ ∀{p2:Pos} {z2},q p2=U z2->ρ z=ρ z2->p=p2:=by
  have a7: ∀{p:Pos} {z},q p=U z-> ∃i b,m[i]?=U b/\ ((p= .m i/\ph (.m b)=U (ρ z))\/ ∃k,p= .n i k/\ph (.n b k)=U (ρ z)):=by
   intro p z E;cases p with
   |m i=>
    obtain⟨o,F⟩:=a6 E;obtain⟨b,ob,x,C,P,G,g4,z',T,g6⟩:=src F;rw[E]at T;injection T with T;subst T
    exact⟨i,b,C,.inl ⟨rfl,by rw[g6];exact g4⟩⟩
   |n i k=>
    obtain⟨b,hd,c,v,l,y,el',C,_,_,_,P,G,_⟩:=S E;exact⟨i,b,C,.inr ⟨k,rfl,by rw[G];exact P⟩⟩
  intro p z E;obtain⟨i,b,C,P⟩:=a7 E;have al: ∀{i j b:Nat},m[i]?=U b->m[j]?=U b->i=j:=λh1 h2=>by
   have:=Hm ag h1;rw[Hm ag h2]at this;injection this with this;exact this.symm
  rcases P with⟨rfl,G⟩| ⟨k,rfl,G⟩
  .refine⟨_,G,λ{p2 z2} a8 he=> ?_⟩;obtain⟨i2,b2,Z,f2⟩:=a7 a8;rw[he]at G;rcases f2 with⟨rfl,f3⟩| ⟨D,rfl,f3⟩
   .have:=hr.inj _ _ _ G f3;injection this with this;subst this;rw[al C Z]
   .have:=hr.inj _ _ _ G f3;cases this
  .refine⟨_,G,λ{p2 z2} a8 he=> ?_⟩;obtain⟨i2,b2,Z,f2⟩:=a7 a8;rw[he]at G;rcases f2 with⟨rfl,f3⟩| ⟨D,rfl,f3⟩
   .have:=hr.inj _ _ _ G f3;cases this
   .have:=hr.inj _ _ _ G f3;injection this with this t2;subst this;subst t2;rw[al C Z]
 have ad: ∀{i b:Nat} {hd:Hd} {c:Cs} {v0:Nat} {l:List (sn c hd.A).den} {el:List (List AV)},b_ (iw Xh m) i=U (.fm hd c 0 zz l)->m[i]?=U b->b_ Xh b=U (.fm hd c v0 zz l)->hd.nn=zZ->el.length=l.length->(∀(i:Nat) (e:List AV) (v:(sn c hd.A).den),el[i]?=U e->l[i]?=U v->wV ph s.heap b hd c zz i e v)->
   ∀(k:Nat) (e e':List AV),el[k]?=U e->(rn q i hd c l)[k]?=U e'->e.length=e'.length/\ ∀(j:Nat) (x X:AV),e[j]?=U x->e'[j]?=U X->Cz ρ (λ_=>False) (hf s.heap) (hf H') x X:=by
  intro i b hd c v0 l el F M J Y ap h6 k e e' h1 h2;have a9:k<l.length:=by rw[<-ap];exact(iP.1 h1).1
  unfold rn at h2;rw[jt,pO a9,l_]at h2;injection h2 with h2;subst h2
  obtain⟨d,r,rfl,q2,q3⟩:=wY (h6 k e _ h1 (tH a9)) (by simp);have aa:=q2.1;refine⟨by simp only[nV,qG];rw[aa];rfl,λj x X B g=> ?_⟩;by_cases hj:j<d.length
  .rw[ld hj]at B;rw[ld (show j< (hd.A.enc (yI hd c l k)).length by rw[show(hd.A.enc (yI hd c l k)).length=d.length from aa.symm];exact hj)]at g;exact xR (q2.2 j x X B g) (vY hd.A _ X (jc g))
  .have ae:(hd.A.enc (yI hd c l k)).length=d.length:=aa.symm;rw[nF (by omega)]at B;rw[nF (by omega),ae]at g;have aq:j-d.length=0:=by
    have:=(iP.1 B).1;simp at this;omega
   rw[aq]at B g;injection B with B;injection g with g;subst B;subst g
   obtain⟨z,E⟩:=aj (i:=i) (k:=k) (by rw[F];exact a9);obtain⟨b2,ay,c2,v2,l2,y,el',C,P,G,g4,T,g6,g7,g8⟩:=S E;rw[M]at C;injection C with C;subst C
   rcases q3 with⟨y2,az,Z,f2,_⟩| ⟨f0,_⟩
   .rw[T]at Z;injection Z with Z;subst Z
    rw[f2,E];have:=Cz.ref (ρ:=ρ) (Fz:=λ_=>False) (H:=hf s.heap) (H':=hf H') z 0 (kG hd c l k).length _ (a5 E);rw[g6]at this;exact this
   .rw[Y]at f0;cases f0
 refine XB ρ (λ_=>False) ⟨λa b o o' h1 h2 he=> ?_,λa ha=>⟨V a (by omega),λ_=> ?_⟩,λa o' F=>⟨λh=>h,?_⟩⟩ (ZC a3 a4 ht hw)
 .rcases L h1 with⟨O,_⟩| ⟨i,O,_⟩<;>rcases L h2 with⟨D,_⟩| ⟨j,D,_⟩
  .rw[(K a O).1,(K b D).1]at he;exact he
  .obtain⟨p',C,_⟩:=a0 D;rw[(K a O).1]at he;exact absurd (he▸O) (hr.nU _ _ C)
  .obtain⟨p',C,_⟩:=a0 O;rw[(K b D).1]at he;exact absurd (he▸D) (hr.nU _ _ C)
  .obtain⟨p',C,P⟩:=a0 O;have:=P D he;subst this;rw[O]at D;injection D
 .show H'[a]?≠zz;rw[je (by rw[ak];omega)];simp
 .rcases L F with⟨O,D⟩| ⟨p,O,D⟩
  .refine⟨o',?_,rfl,rfl,λj e e' h1 h2=> ?_⟩
   .show s.heap[ρ a]?=_;rw[(K a O).1,(hr.fr a O).2];exact D
   .rw[h1]at h2;injection h2 with h2;subst h2
    refine⟨rfl,λj x X B g=> ?_⟩;rw[B]at g;injection g with g;subst g
    exact O_ K ((af a O).2 o' D e (jc h1) x (jc B))
  .cases p with
   |n i k=>
    obtain⟨b,hd,c,v0,l,y,el',C,P,G,g4,T,g6,g7,g8⟩:=S O;rw[D];simp only[uZ,G];refine⟨⟨c.width,el'⟩,by show s.heap[ρ a]?=_;rw[g6];exact g7,rfl,by simp[g8.1],λj e e' h1 h2=> ?_⟩;simp at h2;obtain⟨w,h2,rfl⟩:=h2;have:=g8.2 j e w h1 h2;exact⟨this.1,λk y y' B g=>xR (this.2 k y y' B g) (vY c w y' (jc g))⟩
   |m i=>
   obtain⟨o2,N⟩:=a6 O;obtain⟨b,ob,x,C,P,G,g4,z,T,g6⟩:=src N;rw[O]at T;injection T with T;subst T
   have J:=hr.obj b ob P;have D:o'=pA (iw Xh m) q i:=D;cases ob with
   |fm hd c aA au l=>
    rcases Fk hX N with⟨_,_,e,_⟩| ⟨_,e,_⟩| ⟨_,e⟩| ⟨hd',c',v',l',e,_,Y⟩
    .rw[G]at e;cases e
    .rw[G]at e;cases e
    .rw[G]at e;cases e
    rw[G]at e;simp only[il.jm]at e G;injection e with e0 I e2 e3 e4
    subst e0;subst I;subst e3;subst G;obtain⟨X,el,q1,q2,q3,q4,q6⟩:=J;rw[g4]at q1;injection q1 with q1;subst q1
    have ab:=ad N C P Y q4 q6;rw[D];simp only[pA,N];refine⟨hd.obj el,by show s.heap[ρ a]?=_;rw[g6];exact q2,?_,?_,?_⟩
    .cases hd<;>rfl
    .cases hd with
     |rw A nn=>show(rn q i _ c l).length=el.length;rw[q4];simp[rn]
     |mp o n=>rfl
    .cases hd with
     |rw A nn=>exact λj e e' h1 h2=>ab j e e' h1 h2
     |mp o n=>
      intro j e e' h1 h2;simp only[Hd.obj]at h1 h2;cases j with
      |succ j=>simp at h1
      |zero=>
       simp only[List.getElem?_cons_zero,Option.some.injEq]at h1 h2;subst h1;subst h2;refine⟨rfl,λj x X B g=> ?_⟩
       match j,B,g with
       |0,B,g=>simp at B g;subst B;subst g;exact .v _
       |1,B,g=>
        simp at B g;subst B;subst g;exact .rd 3 _ _ (by rw[q4];simp[rn]) (λk e e' h1 h2=>(ab k e e' h1 h2).1) (λk e e' j x X h1 h2 B g=>(ab k e e' h1 h2).2 j x X B g)
       |2,B,g=>simp at B g;subst B;subst g;exact .v _
       |j+3,B,g=>simp at B
   |sb s0=>
    obtain⟨X,I,e2⟩:=J;rw[g4]at I;injection I with I;subst I
    have G:o2= .sb s0:=G;subst G;rw[D];simp only[pA,N];refine⟨⟨0,iM s0⟩,by show s.heap[ρ a]?=_;rw[g6];exact e2,rfl,rfl,λj e e' h1 h2=> ?_⟩;rw[h1]at h2;injection h2 with h2;subst h2
    refine⟨rfl,λk y y' B g=> ?_⟩;rw[B]at g;injection g with g;subst g
    obtain⟨n,hn⟩:=lQ (we s0).1.symm h1;have:=(we s0).2 j e n h1 hn;subst this;cases k with
    |zero=>simp at B;subst B;exact .v _
    |succ k=>simp at B
   |sq c l=>
    obtain⟨X,el,I,e2,e3,e4⟩:=J;rw[g4]at I;injection I with I;subst I
    have G:o2= .sq c l:=G;subst G;rw[D];simp only[pA,N];refine⟨⟨c.width,el⟩,by show s.heap[ρ a]?=_;rw[g6];exact e2,rfl,by simp[e4.1],λj e e' h1 h2=> ?_⟩;simp at h2;obtain⟨w,h2,rfl⟩:=h2;have:=e4.2 j e w h1 h2;exact⟨this.1,λk y y' B g=>xR (this.2 k y y' B g) (vY c w y' (jc g))⟩
   |st cs=>
    obtain⟨X,e,I,e2,e3,e4⟩:=J;rw[g4]at I;injection I with I;subst I
    have G:o2= .st (TV.my (λa=>ja m a 0) cs):=G;subst G;rcases Fk hX N with⟨_,_,e,_⟩| ⟨aB,e5,_,ar⟩| ⟨_,e⟩| ⟨_,_,_,_,e,_⟩
    .cases e
    rotate_left
    .cases e
    .cases e
    .injection e5 with e5;subst e5
     rw[D];simp only[pA,N];refine⟨⟨cs.length,[e]⟩,by show s.heap[ρ a]?=_;rw[g6];exact e2,by simp[pz],rfl,λj f f' h1 h2=> ?_⟩;cases j with
     |succ j=>simp at h1
     |zero=>
      simp at h1 h2;subst h1;subst h2;have:=ZC (H:=s.heap) (tv:=.tp cs) a3 a4 (.tp cs e e4.1 e4.2) (by simpa[TV.jm,pq]using ar);simp only[TV.jm,kE]at this;cases this with
      |iZ _ _ hl hc=>exact⟨hl,hc⟩
theorem Yur{P:Program}{fm:FM}{T:iT}{C:Ctx}(hC:jq P fm C)(hT:oE T C)(hm:P.follows .mixedOrders=zZ){e:hM}{F:kT}{f:FuncId}
  (D:lk P fm T.pf f=U (F.lJ,F.res,F.code.er)) (h4:F.res.length<=4) (M:e.args.ts=List.range' 0 e.args.vs.length) (a2:e.args.vs.length<=F.lJ)
  (N:T.kb=e.args.os.length) (hl: ∀Fr H0,kZ Fr H0->lZ Fr H0 C T F.code) (hF: ∀x y,e.F x=U y->G1 T F e.args e.res e.os e.co x=U y):qc P fm f e.RI:=by
 refine KB hC hm (by rw[hT.p.pf];exact D) h4 ?_;rintro args H r H' ⟨x,y,vs,Xs,pls,Kp,v,l,X2,h1,h2,h3,E,G,w,a1,h5,h6,h7,h8,h9,a3,rfl,rfl⟩;have h:e.args.vs.length=vs.length/\e.args.os.length=Xs.length:=by
  unfold Sg.read at h2;split at h2
  .rename_i svs a4 O R;obtain⟨V,_⟩:=iU h2;simp at V;exact⟨by rw[<-SV.jv V.1,Fo O],by rw[<-SO.jv V.2,Pu R]⟩
  trivial
 refine⟨by rw[<-E.1,<-h.1];omega,?_⟩;have A:=hF x y h1;unfold G1 at A;rw[rm h2]at A;have I:T.kb=Xs.length:=N.trans h.2;have W:VS Kp H (T.kb,λi=>pls (.m i)) H.length ⟨ji e.args.ts vs,Xs⟩ ⟨sp 0 args,H,H.length⟩:=by
  refine⟨rfl,by simp_all,pls,?_,G,λi hi x hx=>hx⟩;rw[M,h.1];exact ZB 0 vs args E
 refine sV hT w A (hl Kp H w) W (λex S J g g2=> ?_);have p:(match Ci S F.res with|some vs=>(match Ck T.kb (uS vs) S.heap with| (v,X)=>KT e.res e.os e.co v X)|none=>zz)=U y->
   ∃as,Au J F.res as/\Fin J (qd as) (kE X2 (jx pls Xs.length H.length X2) v) (oD Kp H Xs.length X2 (jx pls Xs.length H.length X2)):=by
  intro g;split at g
  .rename_i ws Y;obtain⟨hb,Z,ph,he,K,a0⟩:=g2;obtain⟨as,O,R⟩:=Pt he K Y;have K:=YL K;have k3:=TR.nrm _ ((Zx R).ext O');have d:Xs.length<=(nz S.heap).length:=by rw[<-I];simpa[nz]using Z
   unfold Ck at g;simp only at g;have k:min T.kb (nz S.heap).length=Xs.length:=by omega
   rw[k]at g;generalize nz S.heap=Xh at g K k3 d k;generalize(uS ws).nrm=tw at g k3;have L:(lR Xh 5 (kX Xh (List.range Xs.length) tw.ids)).Nodup:=Ha (Cu wW);have q:List.range Xs.length<+:lR Xh 5 (kX Xh (List.range Xs.length) tw.ids):=(Hc _ _ _).trans (O7 _ _ _);generalize lR Xh 5 (kX Xh (List.range Xs.length) tw.ids)=m at g L q;obtain⟨Q,B⟩:=Yuq g;rw[h5]at Q;injection Q with Q;injection Q with Q q3
   rw[<-q3,h6]at B;injection B with B;injection B with B _
   subst Q;subst B;exact⟨as,O,CA G w K hb d (λi hi z hz=>a0 i (by omega) z hz) L q k3 h8 h9⟩
  trivial
 cases ex with
 |exit id=>cases g
 |kM=>exact p g
 |ret=>exact p g
theorem Yus{P:Program}{fm:FM}{T:iT}(S:l4 P fm T)(z:P.follows .mixedOrders=zZ)(L:List tx)(e:hM)(A:T.pf e.g=zj)(F:kT)
  (H: ∀f,fm f=e.g->lk P fm T.pf f=U (F.lJ,F.res,F.code.er)) (B:F.res.length<=4) (k:e.args.ts=List.range' 0 e.args.vs.length) (p:e.args.vs.length<=F.lJ)
  (D: ∀C,oE ⟨T.pf,T.fs,L,e.args.os.length⟩ C-> ∀Fr H0,kZ Fr H0->lZ Fr H0 C ⟨T.pf,T.fs,L,e.args.os.length⟩ F.code) (E: ∀x y,e.F x=U y->G1 ⟨T.pf,T.fs,L,e.args.os.length⟩ F e.args e.res e.os e.co x=U y):l4 P fm ⟨T.pf,e::T.fs,T.ls,0⟩:=by
 obtain⟨C,w,d⟩:=S;have g:oE ⟨T.pf,T.fs,L,e.args.os.length⟩ C:=⟨⟨d.p.pf,d.p.fn⟩,d.Cy⟩;have q:C.pf e.g=zZ->Pure e.RI:=λh=>by rw[d.p.pf,A]at h;cases h
 exact⟨ur C e.g e.RI,wm w q (λf G=>Yur w g z (H f G) B k p rfl (D C g) E),AO d (λh=>by simp_all) (λ_ _ _ _ _ h=>h)⟩
end
end Go.Abs
namespace Go.Abs
open Go Go.RowKit
theorem Yut{P:Program}{fm:FM}{o:Oper}{xs:List iY}(h:lU P fm o=U (.px .mnxt xs)): ∃x,o.op= .next x zj/\xs=[jK fm x]:=by
 obtain⟨d,p,ty,k,A,g⟩:=o;cases p<;>simp only[lU]at h
 case next x st=>
  cases st with
  |true=>cases h
  |false=>injection h with h;injection h with _ h;exact⟨x,rfl,h.symm⟩
 all_goals exfalso
 all_goals first
  | (cases h;done)
  |skip
 all_goals(repeat' (first| (cases h;done)|split at h))
 all_goals first
  | (cases h;done)
  | (rename_i q;cases q;done)
  | (obtain⟨_,h⟩:=ix h;simp at h;done)
  | (simp only[lS,xO]at h;grind)
  |skip
section
variable{C:Ctx}{Q:Ex->jI->Prop}{st:jI}
theorem Yuu{B:List (List AV)}{d:List Int}(h:B=d.map λb=>[.v (.int .i64 b)]){fm:FM}{w:World}{L:Nat->Loc}{S:Array Nat}(H:Ny fm w L S B):S.toList.map (λ(n:Nat)=>(n:Int))=d:=by
 refine pT λi=> ?_;cases k:d[i]? with
 |none=>
  have:S.toList.length=d.length:=by simp[H.1,h]
  simp_all
 |some b=>
  obtain⟨n,c,h1,h2,g⟩:=H.2 i [.v (.int .i64 b)] (by simp_all);injection h2 with h2 _;subst h2
  have:=kI g;simp_all
theorem Yuv{it N mo i m:Nat}{s:Int}{X el:List (List AV)}{a9:List AV}{oi o:iu}{B sn:List Int}{S tg:AV}
  (h1:jk st.env it= .np i) (h2:st.heap[i]?=U (U oi)) (h3:oi=⟨5,[[.np m,.v (.int .i64 s),.v (.int .i64 s),S,tg]]⟩) (hS:Al S=U X) (av:X=sn.map λb=>[.v (.int .i64 b)])
  (h4:st.heap[m]?=U (U o)) (h5:ka o=U (s,el,a9)) (ag:el.map yw=B.map U)
  (a3:(∀b∈B,b∈sn)->Q .kM ⟨(mo,.v (.bool zj))::(N,.u)::st.env,st.heap,st.base⟩)
  (a4: ∀b∈B,b∉sn->Q .kM ⟨(mo,.v (.bool zZ))::(N,.u)::st.env,st.heap.set i (U ⟨5,[[.np m,.v (.int .i64 s),.v (.int .i64 s),.rd 1 (X++[[.v (.int .i64 b)]]),tg]]⟩),st.base⟩):
  Sat C (.qx [⟨U N,.px .mnxt [.t it],zz,zj,zj⟩,⟨U mo,.ext (.t N) 0,zz,zj,zj⟩]) Q st:=by
 intro P fm n aa hC hm ht w0 L0 a w hs;cases aa with
 |region id O Y=>
  obtain⟨is,zs,k1,k2,E⟩:=yE ht (λe=>by cases e) (λ_ e=>by cases e);injection k2 with k2
  replace E:(Y=zZ/\wH O.toList 0=zZ/\yz C.pf (yA fm O) (uI fm O) (ko O.toList []) is=U zs)\/Y=zj/\zs=is:=by
   rcases E with E| ⟨E,k4|k4⟩
   .exact .inl E
   .exact .inr ⟨E,k4⟩
   .exact .inr ⟨E,Xm k4 (by rw[<-k2];intro y hy;simp at hy;rcases hy with rfl|rfl<;>(intro _ _ _ e;cases e))⟩
  rcases E with⟨rfl,hE,E⟩| ⟨rfl,rfl⟩
  .exfalso;obtain⟨aw,_,_⟩:=Kr E;rw[<-k2]at aw;unfold yz at E;split at E
   .trivial
   .rename_i hd;obtain⟨_,_,hv⟩:=Kr (pf:=C.pf) (mk:=yA fm O) (dd:=uI fm O) (an:=ko O.toList []) (is:=is) (ys:=zs) (by unfold yz;simp_all);obtain⟨x,hx,_,_,hv⟩:=hv 0 ⟨U N,.px .mnxt [.t it],zz,zj,zj⟩ (by grind);apply hd;rw[uK];refine⟨x,jc hx,?_⟩;rcases hv with e| ⟨g,n',z,Z,R⟩| ⟨z,as,Z,R⟩| ⟨z,as,_,Z,R⟩
    .rw[<-e];rfl
    .cases R
    .cases R
    trivial
  .obtain⟨O⟩:=O;refine wp_region_lit ?_;subst k2;simp only at k1;cases O with
   |nil=>simp[pg]at k1
   |cons A r=>
   obtain⟨y1,z1,g1,g2,e⟩:=ET k1;injection e with Z R
   subst Z;subst R;cases r with
   |nil=>simp[pg]at g2
   |cons o2 r2=>
   obtain⟨y2,z2,g3,g4,e⟩:=ET g2;injection e with Z R
   subst Z;subst R;cases r2 with
   |cons o3 r3=>obtain⟨_,_,_,_,e⟩:=ET g4;cases e
   |nil=>
   obtain⟨ax,ab,aV,_,_,hg⟩:=N5 g1;have ah:A.guard=none:=by
    simp_all
   obtain⟨x,ai,T⟩:=Yut ax;have hx:x= .tmp it:=by
    injection T with T _
    cases x<;>simp[jK]at T;rw[T]
   subst hx;obtain⟨L1,ay,az,G,aj⟩:=hs.rel;have ak:=aj it;rw[h1]at ak;have al:vS oi=U (m,s,s,X):=by rw[h3];unfold vS;simp_all
   have a7:hf st.heap i=U (U oi):=h2;obtain⟨g,g',h,p,I,ex,hL,aA,am,ao,aW,J⟩:=Wt G a7 al ak;obtain⟨es,nc,enc,aX,aB,ap,ac⟩:=Wl G (show hf st.heap m=_ from h4) h5 am;have aC:h=nc:=by omega
   have aD:h=I:=by omega
   subst aC;subst aD;have aY:=Yuu av J;have aE:es.toList.map (λe=>((e.born:Nat):Int))=B:=by
    have:es.toList.map (λe=>U ((e.born:Nat):Int))=B.map some:=by
     rw[<-ag];refine pT λj=> ?_;rw[jt,jt];have aS:es.toList.length=el.length:=by simpa using ap.len
     cases q:el[j]? with
     |none=>
      simp_all
     |some e=>
      obtain⟨me,b,k,r,q1,rfl,q3,_⟩:=ap.row j e q;have aF:es.toList[j]?=U me:=by simp_all
      rw[aF];have a8: ∃bb:Int,yw (b::k::r)=U bb:=by
       have:=congrArg (λl=>l[j]?) ag;grind
      obtain⟨bb,a8⟩:=a8;have:b= .v (.int .i64 bb):=by
       unfold yw at a8;grind
      subst this;have:=kI q3;simp_all
    have h':=congrArg (List.map (λ(o:Option Int)=>o.getD 0)) this;simpa[List.map_map,Function.comp_def]using h'
   have ad: ∀x∈es.toList,x.born<h:=λx hx=>by
    obtain⟨j,q⟩:=mE.1 hx;exact ac.1 j x (by simp_all)
   have a5: ∀b:Nat,((b:Int)∈sn↔p.contains b=zZ):=λb=>by
    grind
   have L: ∀y w',(Instr.next (.pointer (U ⟨g,0,zz⟩)) zj A.type).run P w= .ok y w'->Gl P A a w y w':=by
    intro y w' hy;refine .inl ?_;have aG:a.eval (.tmp it)= .pointer (U ⟨g,0,zz⟩):=ex;obtain⟨d1,aZ,t1,p1,a1,b0⟩:=A;simp only at ai;subst ai;simp[execOp,aG,hy]
   have b1:N<a.tmps.size:=by rw[hs.size];simp_all
   have aq: ∀(t:Bool) (y:Value) (w':World) (L':Nat->Loc) (H':ic),(∃xs,y= .tuple xs/\xs.getD 0 undef= .bool t/\0<xs.size)->iv L1 w w'->hY L1 L' w.heap.size->HR fm w' L' (hf H')->
     Q .kM ⟨(mo,.v (.bool t))::(N,.u)::st.env,H',st.base⟩->wpList P ⟨A::o2::[]⟩ (oA fm n w0 L0 Q) [o2] (a.put A.dst y) w':=by
    rintro t y w' L' H' ⟨xs,rfl,aH,b2⟩ D ar aI hq;have aJ:ER fm w' L' (a.put A.dst (.tuple xs)) ((N,.iZ (.v (.bool t)::List.replicate (xs.size-1) .u))::st.env):=by
     have:=mU (d:=A.dst) (x:=.tuple xs) (v:=.iZ (.v (.bool t)::List.replicate (xs.size-1) .u)) (λt=>(aj t).mono D ar) (λk hk=>by simp_all)
      (.iZ xs _ (by grind) (λj c q=>by
       cases j with
       |zero=>simp at q;subst q;rw[aH];exact .v _
       |succ j=>
        rw[List.getElem?_cons_succ,vN]at q;split at q
        .injection q with q;subst q;exact .u _
        trivial))
     have aK:A.dst=U N:=ab.symm;rw[aK]at this⊢;trivial
    have aL:SR fm n w0 L0 ⟨(N,.iZ (.v (.bool t)::List.replicate (xs.size-1) .u))::st.env,H',st.base⟩ (a.put A.dst (.tuple xs)) w':=
     hs.step (ES _ _ _) (EP _ _ _) ⟨ay,az⟩ D ar aI aJ
    refine Ki hC (n0:=λ_=>True) (K:=λs'=>s'=⟨(mo,.v (.bool t))::(N,.iZ (.v (.bool t)::List.replicate (xs.size-1) .u))::st.env,H',st.base⟩) (λs' a' b3 ae V=> ?_) [o2] [_] _ _ _ g2 ?_ aL
    .subst ae;obtain⟨L2,m1,m2,m3,m4⟩:=V.rel;refine⟨_,hq,V.defers,V.size,V.base,L2,m1,m2,m3,λu=> ?_⟩;have:=m4 u;simp only[jk]at this⊢;cases aM:(mo==u)with
     |true=>simp_all
     |false=>
      rw[aM]at this;simp only[cond_false]at this⊢;cases b4:(N==u)with
      |true=>exact .u _
      |false=>simp_all
    .show p_ C _ ⟨U mo,.ext (.t N) 0,zz,zj,zj⟩ _ _;simp only[YqU,BP];show∃l,iC _ (.t N)=AV.iZ l/\ ∃b,l[0]?=U b/\_;exact⟨.v (.bool t)::List.replicate (xs.size-1) .u,by simp[iC,jk],_,rfl,rfl⟩
   rcases run_next_at (P:=P) w A.type g g' h h p es h aA aB ad (jG _)with⟨hz,M⟩| ⟨e,he,w1,W,M⟩
   ·
    unfold wpList;rw[show Region.wanted A _=zZ by simp[Region.wanted,ah],if_pos rfl];refine .inl (Gt (L _ _ M) (aq zj _ w L1 st.heap ⟨_,rfl,rfl,by simp⟩ (iv.refl _ _) (hY.refl _ _) G (a3 (λb hb=> ?_))));rw[<-aE]at hb;obtain⟨e,he,rfl⟩:=mH.1 hb;rw[a5];apply Classical.byContradiction;intro hc;have:e∈ (leftOf es p).toList:=by
     unfold leftOf;simp_all
    simp_all
   .have b5:e∈es.toList/\p.contains e.born=false:=by
     unfold leftOf at he;simp_all
    have aN:((e.born:Nat):Int)∈B:=by grind
    have aO:((e.born:Nat):Int)∉sn:=λhc=>by
     simp_all
    have hq:=a4 _ aN aO;obtain⟨S0,aT,b6,b7,_⟩:=Ws al;have a2:=G.obj i oi a7;rw[hL,h3]at a2;obtain⟨_,a0,s',t',S',aU,b8,af,au,a6,q1,F,q3,q4,q5,q6,q7⟩:=a2;injection F with F _
    injection F with Z F;injection F with R F;injection F with e3 F;injection F with e4 F;injection F with e5 F
    subst Z;subst R;subst e3;subst e4;subst e5;obtain⟨m1,m2⟩:=Gp G a7 hL (ob:=.mapIter (U g') h (p.push e.born) h) (λc t f e=>by cases e) (w':=ChangeMaps.setBlock w1 g (.mapIter (U g') h (p.push e.born) h))
     (by rcases W with rfl|rfl<;>rfl) (by rcases W with rfl|rfl<;>rfl) (by rcases W with rfl|rfl<;>rfl) (by rcases W with rfl|rfl<;>rfl)
     (o':=⟨5,[[.np m,.v (.int .i64 s),.v (.int .i64 s),.rd 1 (X++[[.v (.int .i64 ((e.born:Nat):Int))]]),tg]]⟩) (λe=>by cases e)
     (λD aP=>⟨rfl,_,_,_,_,_,g',h,p.push e.born,h,aP,rfl,am.mono D (hY.refl _ _),by rw[ao];exact .v _,by rw[ao];exact .v _,q6.mono D (hY.refl _ _),.inr ⟨1,_,rfl,by grind,λj ej q=>by
      by_cases aQ:j<X.length
      .rw[ld aQ]at q;obtain⟨n',b',r1,r2,r3⟩:=J.2 j ej q;exact⟨n',b',by grind,r2,r3.mono D (hY.refl _ _)⟩
      .have aR:j=X.length:=by
        grind
       subst aR;rw[nF (jG _)]at q;simp at q;subst q;exact⟨e.born,_,by grind,rfl,.v _⟩⟩⟩)
    unfold wpList;rw[show Region.wanted A _=zZ by simp[Region.wanted,ah],if_pos rfl];refine .inl (Gt (L _ _ M) (aq zZ _ _ L1 _ ⟨_,rfl,rfl,by simp⟩ m1 (hY.refl _ _) ?_ hq));have:=Gs (H:=st.heap) (a:=i) (o:=U ⟨5,[[.np m,.v (.int .i64 s),.v (.int .i64 s),.rd 1 (X++[[.v (.int .i64 ((e.born:Nat):Int))]]),tg]]⟩) (by simp_all) 0;rw[<-this];exact m2
 |seq x y=>simp only[tr]at ht;grind
 |cond c x y=>simp only[tr]at ht;grind
 |block id b=>simp[tr]at ht
 |loop b=>simp[tr]at ht
 |_=>cases ht
end
end Go.Abs
namespace Go.Abs
open Go
def cs:List Ty->Cs
 | []=>.nil
 |t::r=>.cons t (cs r)
abbrev I:Ty:=.i .i64
abbrev o(d:Nat)(p:qE):VI:=⟨U d,p,zz,zj,zj⟩
abbrev on(p:qE):VI:=⟨zz,p,zz,zj,zj⟩
abbrev t(n:Nat):iq:=.t n
abbrev k(n:Int):iq:=.c (.one (.i .i64 n))
abbrev kb(x:Bool):iq:=.c (.one (.b x))
abbrev ks(x:ByteArray):iq:=.c (.one (.s x))
abbrev ke(c:Cs):iq:=.c (.one (.e c))
def iV{A B d:Type}(y:A⊕B)(f:A->d)(g:B->d):d:=match y with| .inl a=>f a| .inr b=>g b
theorem YuG{S R:Type}{step s:S->Option (S⊕R)}(h: ∀x,step x=s x){x:S}{y:R}(H:lY s x=U y):lY step x=U y:=by
 have:step=s:=funext h;simp_all
theorem Fp{p:Nat->Bool}{fs:List hM}{l l':List tx}{k K:Nat}{C:Ctx}(h:oE ⟨p,fs,l,k⟩ C):oE ⟨p,fs,l',K⟩ C:=⟨⟨h.p.pf,h.p.fn⟩,h.Cy⟩
structure Lo where
 run: ∀{S R:Type},(S->Option (S⊕R))->S->Option R
def zb(L:Lo):Prop:= ∀{S R:Type} (step:S->Option (S⊕R)) (x:S) (y:R),L.run step x=U y->lY step x=U y
theorem Pv{S R:Type}{step:S->Option (S⊕R)}: ∀{n m:Nat} {x:S} {y:R},n<=m->tC step n x=U y->tC step m x=U y
 |0,_,_,_,_,h=>by cases h
 |n+1,0,_,_,h,_=>by omega
 |n+1,m+1,x,y,h,H=>by
  simp only[tC]at H⊢;split at H
  .exact Pv (by omega) H
  .exact H
  trivial
theorem Ho{S R:Type}{step:S->Option (S⊕R)}{n:Nat}{x:S}{y:R}(h:tC step n x=U y):lY step x=U y:=by
 have H: ∃n r,tC step n x=U r:=⟨n,y,h⟩;unfold lY;have h2:=Classical.choose_spec (Classical.choose_spec H);have k:=Pv (Nat.le_max_left n (Classical.choose H)) h;have K:=Pv (Nat.le_max_right n (Classical.choose H)) h2;grind
noncomputable def f_:Lo:=⟨λstep x=>lY step x⟩
theorem YuH:zb f_:=λ_ _ _ h=>h
theorem jz{S R:Type}(step:S->Option (S⊕R))(x:S):lY step x=match step x with|some (.inl s)=>lY step s|some (.inr r)=>U r|none=>none:=by
 refine Option.ext (λy=>⟨λh=> ?_,λh=> ?_⟩)
 .obtain⟨n,H⟩:=Ls h;cases n with
  |zero=>cases H
  |succ n=>
   simp only[tC]at H;split at H
   .rename_i d;rw[d];exact Ho H
   .simp_all
   trivial
 .split at h
  .rename_i s d;obtain⟨n,H⟩:=Ls h;exact Ho (n:=n+1) (by simp only[tC,d];exact H)
  .rename_i r d;exact Ho (n:=1) (by simp only[tC,d];exact h)
  trivial
def sy{A B:Type}(f:Nat->A->Option B):Nat×A->Option ((Nat×A)⊕B):=λx=>match f x.1 x.2 with
 |some y=>U (.inr y)
 |none=>U (.inl (x.1+1,x.2))
theorem YuI{A B:Type}{f:Nat->A->Option B}{n:Nat}{x:A}{y:B}(h:lY (sy f) (n,x)=U y): ∃m,f m x=U y:=by
 obtain⟨k,H⟩:=Ls h;induction k generalizing n with
 |zero=>cases H
 |succ k I=>
  simp only[tC,sy]at H;cases d:f n x with
  |some z=>grind
  |none=>rw[d]at H;exact I (Ho H) H
theorem Lu{A B:Type}{f:Nat->A->Option B}(d: ∀n x y,f n x=U y->f (n+1) x=U y){x:A}{y:B}: ∀{m n:Nat},f (n+m) x=U y->lY (sy f) (n,x)=U y
 |0,n,h=>Ho (n:=1) (by simp only[tC,sy];simp_all)
 |m+1,n,h=>by
  rw[jz];cases H:f n x with
  |some z=>
   simp only[sy,H];have: ∀k,f (n+k) x=U z:=λk=>by
    induction k with
    |zero=>exact H
    |succ k I=>grind
   simp_all
  |none=>
   simp only[sy,H];exact Lu d (m:=m) (n:=n+1) (by grind)
end Go.Abs
namespace Go.Abs
open Go Go.RowKit
def vf(es:Nat)(z:List Value):i_:=
 .seq (.qx [⟨U 2,.mv (.c .emp),zz,zj,zj⟩])
  (.seq
   (.seq (.qx [⟨U 3,.mv (.t 0),zz,zj,zj⟩,⟨U 4,.pv (.Ey zj) [(.t 3)],zz,zj,zj⟩])
    (.cond (.t 4) (.seq (.qx [⟨U 2,.mv (.c .emp),zz,zj,zj⟩]) .ret) .skip))
   (.seq (.qx [⟨U 5,.bsl es z 0 [],zz,zj,zj⟩,⟨U 6,.mv (.t 0),zz,zj,zj⟩,⟨U 7,.app es (.t 5) (.t 6),zz,zj,zj⟩,⟨U 2,.mv (.t 7),zz,zj,zj⟩])
    .ret))
def mi(g:Nat)(c:Cs):hM:=⟨g,zj,⟨[0],[.l c],[],.cons (.l c) .nil⟩,.ref 0,[.sq c],.cons (.l c) .nil,
 λ(l:List c.den)=>bif iS l.length c_&&iS 1 c.width then U l else zz⟩
section
variable{C:Ctx}
theorem YuJ{d:i_}{Q:Ex->jI->Prop}{t es:Nat}{env:Env}{H:ic}{b:Nat}(q:jk env t= .rd es [])(h: ∀A c,Sat C d Q ⟨(t,.v (.slice A 0 c))::env,H,b⟩):Sat C d Q ⟨env,H,b⟩:=by
 intro P fm n g y z B W D a w E;obtain⟨h1,h2,F,L,G,I,J,k⟩:=E;have p:=k t;rw[q]at p;rcases wK p with⟨_,A,c,e⟩| ⟨_,_,_,_,_,K,_⟩
 .refine h A c P fm n g y z B W D a w ⟨h1,h2,F,L,G,I,J,λs=> ?_⟩;simp only[jk];cases M:(t==s)with
  |true=>have:t=s:=by simp_all
         subst this;rw[e];exact .v _
  |false=>exact k s
 trivial
theorem ZD{es:Nat}(g:0<es){z:List Value}{a0:AV}{l:List (List AV)}{H:ic}{b:Nat}{t:Bool}(p:lG (.Ey zj) [a0]=U (.v (.bool t)))(q:t=zZ->l=[])
  (M: ∀(fm:FM) (w:World) (L:Nat->Loc) (x:Value),VR fm w L x a0->VR fm w L x (.rd es l)) (h: ∀e∈l,e.length=es) (d:l.length<=c_) {env:Env} (N:jk env 0=a0) {Q:Ex->jI->Prop}
  (h1:l=[]-> ∀env,jk env 2= .emp-> ∃S,Wk ⟨env,H,b⟩ S/\Q .ret S) (h2: ∀env,jk env 2= .ref H.length 0 l.length->Q .ret ⟨env,H++[U ⟨es,l⟩],b⟩):Sat C (vf es z) Q ⟨env,H,b⟩:=by
 refine yF (Kw ?_);simp only[qy,p_,BP,mZ,kA,jh,iC,put,rI,Ex.then];refine yF (yF (Kw ?_));simp only[qy,p_,BP,mZ,kA,jh,iC,put,rI,Ex.then,kn,mq,jk];refine⟨.v (.bool t),?_,?_⟩
 .simp_all
 refine Xv (b:=t) (by rfl) (λe=> ?_) (λe=> ?_)
 .subst e;refine yF (Kw ?_);simp only[qy,p_,BP,mZ,kA,jh,iC,put,rI,Ex.then,EZ];obtain⟨S,k,y⟩:=h1 (q rfl) ((2,.emp)::(4,.v (.bool zZ))::(4,.v (.bool zZ))::(3,bif(2:Nat)==0 then .emp else jk env 0)::(2,.emp)::env) (by rfl);exact Sat.wk k (Ot y)
 .subst e;refine Xt ?_;simp only[Ex.then,EZ];refine Sat.wk (s:=⟨[(0,.rd es l)],H,b⟩) ?_ ?_
  .intro fm n W O a w A;obtain⟨K,B,D,L,E,F,G,I⟩:=A;refine⟨K,B,D,L,E,F,G,λs=> ?_⟩;simp only[jk];cases J:((0:Nat)==s)with
   |true=>
    have:0=s:=by simp_all
    subst this;have:=I 0;simp only[jk,Nat.reduceBEq,cond_false]at this;simp_all
   |false=>exact .u _
  .refine yF (Kw ?_);simp only[qy,p_,BP,mZ,kA,jh,iC,put,rI,Ex.then,s_,List.replicate_zero,jk,Nat.reduceBEq,cond_true,cond_false,mu,true_and];refine⟨d,h,λh0=>absurd h0 (by omega),?_⟩;refine Ot (h2 _ (by rfl))
theorem Pw{es:Nat}(d:0<es){z:List Value}{l:List (List AV)}{H:ic}{b:Nat}(k: ∀e∈l,e.length=es)(g:l.length<=c_){env:Env}(p:jk env 0= .rd es l){Q:Ex->jI->Prop}
  (h1:l=[]-> ∀env,jk env 2= .emp-> ∃S,Wk ⟨env,H,b⟩ S/\Q .ret S) (h2: ∀env,jk env 2= .ref H.length 0 l.length->Q .ret ⟨env,H++[U ⟨es,l⟩],b⟩):Sat C (vf es z) Q ⟨env,H,b⟩:=by
 cases l with
 |nil=>
  refine YuJ p (λA c=> ?_);refine ZD d (a0:=.v (.slice A 0 c)) (t:=A.isNone) rfl (λ_=>rfl) (λfm w L x q=> ?_) (λe p=>by cases p) g (by rfl) h1 h2;rw[kI q];exact .lT A es c
 |cons e0 y=>
  exact ZD d (a0:=.rd es (e0::y)) (t:=zj) rfl (λh=>by cases h) (λ_ _ _ _ h=>h) k g p h1 h2
end
theorem YuK{C:Ctx}{c:Cs}{n:Nat}{z:List Value}{Kp:Nat->Prop}{H:ic}{pls:Pl}{args:List AV}(x:List c.den)(hn:1<=n)(N:x.length<=c_)(d:0<c.width)(E:CT [] pls [.l c x] args)(y:ib Kp H [] pls H)(G:kZ Kp H)
  (O:oC [U (.sq c x)] [U (.sq c x)]=zZ):
  args.length<=n/\Sat C (vf c.width z) (yG [.t 2] (kE [U (.sq c x)] (jx pls 0 H.length [U (.sq c x)]) (.ref 0)) (oD Kp H 0 [U (.sq c x)] (jx pls 0 H.length [U (.sq c x)]))) ⟨sp 0 args,H,H.length⟩:=by
 obtain⟨a,R,rfl,P,I⟩:=E.inv;have A:R=[]:=mC.1 I.1.symm;subst A;refine⟨by trivial,?_⟩;have B:Coe a (.rd c.width (x.map c.enc)):=by
  cases P with
  |l _ _ _ Q=>exact Q
 have S:Wk ⟨sp 0 [a],H,H.length⟩ ⟨[(0,.rd c.width (x.map c.enc))],H,H.length⟩:=by
  intro fm n w0 L0 aa w T;obtain⟨k,K,V,L,W,X,Y,Z⟩:=T;refine⟨k,K,V,L,W,X,Y,λs=> ?_⟩;have:=Z s;simp only[sp,jk]at this⊢;cases J:((0:Nat)==s)with
  |true=>rw[J]at this;exact BX B this
  |false=>simp_all
 refine Sat.wk S ?_;have F: ∀env,jk env 2= .ref H.length 0 (x.map c.enc).length->
   yG [.t 2] (kE [U (.sq c x)] (jx pls 0 H.length [U (.sq c x)]) (.ref 0)) (oD Kp H 0 [U (.sq c x)] (jx pls 0 H.length [U (.sq c x)])) .ret ⟨env,H++[U ⟨c.width,x.map c.enc⟩],H.length⟩:=by
  intro env g;refine⟨[jk env 2],⟨rfl,trivial⟩,?_⟩;simp only[qd,g];have M:ib Kp H [] (λ_=>zz) H:=⟨λa o h=>(by cases h),λp q x h=>(by cases h),λp x h=>(by cases h),y.fr,λp x h=>(by cases h),jG _⟩;have D:Rows (x.map c.enc) c x:=by
   refine⟨by simp,λi e v' k K=> ?_⟩;rw[jt,K,l_]at k;injection k with k;subst k
   exact⟨rfl,λj x x' k K=>by rw[k]at K;injection K with K;subst K;exact .refl _⟩
  obtain⟨hr,_⟩:=pw M (.sq c x) ⟨c.width,x.map c.enc⟩ (λ_=>⟨H.length,x.map c.enc,by rfl,by simp,d,D⟩);have ht:TR ([]++[U (il.sq c x)]) (iF (λ_=>zz) (.m 0) (U H.length)) (.ref 0) (.ref H.length 0 (x.map c.enc).length):=
   .ref 0 H.length (.sq c x) _ rfl (by simp[iz]) (by rfl)
  exact CA (Xs:=[]) (pls:=pls) (m:=[0]) (s:=⟨env,H++[U ⟨c.width,x.map c.enc⟩],H.length⟩) y G hr rfl (sP _) (λi hi=>absurd hi (Nat.not_lt_zero _)) (by simp) (List.nil_prefix) ht rfl O
 refine Pw d (l:=x.map c.enc) (λe g=> ?_) (by simp_all) (by rfl) (λh0 env g=> ?_) (λenv g=>F env g)
 .obtain⟨w,_,rfl⟩:=mH.1 g;exact rJ c w
 .refine⟨_,KD g d,?_⟩;have:=F ((2,.ref H.length 0 0)::env) (by rw[h0];rfl);simp_all
theorem YuL{P:Program}{fm:FM}{C:Ctx}(J:jq P fm C)(L:P.follows .mixedOrders=zZ){f:FuncId}{g n:Nat}{c:Cs}{z:List Value}(h:lk P fm C.pf f=U (n,[.t 2],vf c.width z))(M:1<=n):
  qc P fm f (mi g c).RI:=by
 refine KB J L h (by simp) ?_;rintro args H r H' ⟨x,y,vs,Xs,pls,Kp,v,l,X2,h1,h2,W,p,q,w,B,N,O,X,Y,Q,R,rfl,rfl⟩;have K: ∀(x y:List c.den),(bif iS x.length c_&&iS 1 c.width then U x else zz)=U y->Sg.fill ⟨[0],[.l c],[],.cons (.l c) .nil⟩ x=U ⟨ji [0] vs,Xs⟩->vs.length=1->kH (.ref 0) (kp (.cons (.l c) .nil) y)=U (v,l)->ll [.sq c] l=U (X2,[])->
   x.length<=c_/\0<c.width/\vs=[.l c x]/\Xs=[]/\v= .ref 0/\X2=[U (.sq c x)]:=by
  intro x y F d k E S;obtain⟨T,F⟩:=iU F;injection F with F;subst F
  simp at T;have D:kp (.cons (.l c) .nil) x=[⟨.l c,x⟩]:=rfl;unfold Sg.fill at d;simp only[D,pn,kH,wh,ll]at d;injection d with d;injection d with hz hX
  obtain⟨Z,rfl⟩:=List.length_eq_one_iff.1 k;simp only[ji,List.cons.injEq,Prod.mk.injEq,and_true,true_and]at hz;simp only[D,kH,Option.some.injEq,Prod.mk.injEq]at E;obtain⟨rfl,rfl⟩:=E;simp only[ll,rL,wh,Option.some.injEq,Prod.mk.injEq,and_true]at S;grind
 have k:vs.length=1:=by
  unfold Sg.read at h2;split at h2
  .rename_i svs V A G;obtain⟨I,_⟩:=iU h2;simp at I;have:=SV.jv I.1;rw[<-Fo A,this];rfl
  trivial
 obtain⟨A,G,rfl,rfl,rfl,rfl⟩:=K x y h1 (rm h2) k N O;exact YuK (c:=c) x M A G p q w Q
def mO(g:Nat)(c:Cs):hM:=⟨g,zZ,⟨[0],[.l c],[],.cons (.l c) .nil⟩,.l c,[],.cons (.l c) .nil,
 λ(l:List c.den)=>bif iS l.length c_&&iS 1 c.width then U l else zz⟩
theorem YuM{P:Program}{fm:FM}{C:Ctx}(L:jq P fm C)(N:P.follows .mixedOrders=zZ){f:FuncId}{g n:Nat}{c:Cs}{z:List Value}(h:lk P fm C.pf f=U (n,[.t 2],vf c.width z))(X:1<=n):
  qc P fm f (q_ (mO g c).R):=by
 refine XH L N h (by simp) ?_;rintro args r ⟨x,y,vs,v,h1,h2,O,rfl,G,Q,rfl⟩;have A: ∀(x y:List c.den),(bif iS x.length c_&&iS 1 c.width then U x else zz)=U y->Sg.fill ⟨[0],[.l c],[],.cons (.l c) .nil⟩ x=U ⟨ji [0] vs,[]⟩->vs.length=1->kH (.l c) (kp (.cons (.l c) .nil) y)=U (v,[])->
   x.length<=c_/\0<c.width/\vs=[.l c x]/\v= .l c x:=by
  intro x y F H d R;obtain⟨S,F⟩:=iU F;injection F with F;subst F
  simp at S;have I:kp (.cons (.l c) .nil) x=[⟨.l c,x⟩]:=rfl;unfold Sg.fill at H;simp only[I,pn,kH,wh,ll]at H;injection H with H;injection H with hz _
  obtain⟨Y,rfl⟩:=List.length_eq_one_iff.1 d;simp only[ji,List.cons.injEq,Prod.mk.injEq,and_true,true_and]at hz;simp only[I,kH,wh,Option.some.injEq,Prod.mk.injEq,and_true]at R;grind
 have d:vs.length=1:=by
  unfold Sg.read at h2;split at h2
  .rename_i svs T K p;obtain⟨J,_⟩:=iU h2;simp at J;have:=SV.jv J.1;rw[<-Fo K,this];rfl
  trivial
 obtain⟨K,p,rfl,rfl⟩:=A x y h1 (rm h2) d G;clear h1 h2 G A d O Q;generalize E:(show List c.den from x)=xx;subst E;refine⟨by trivial,λk=> ?_⟩;have M: ∀x:List c.den,x.length<=c_->Sat C (vf c.width z) (B5 k [.t 2] (oX (.l c x))) ⟨sp 0 (jC [.l c x]),Z k [],k⟩:=by
  intro x K;have B: ∀env,jk env 2= .ref (Z k []).length 0 (x.map c.enc).length->B5 k [.t 2] (oX (.l c x)) .ret ⟨env,Z k []++[U ⟨c.width,x.map c.enc⟩],k⟩:=by
   intro env q;refine⟨rfl,[jk env 2],⟨rfl,trivial⟩,?_⟩;simp only[qd,q];have D:Rows (x.map c.enc) c x:=by
    refine⟨by simp,λi e v' K p=> ?_⟩;rw[jt,p,l_]at K;injection K with K;subst K
    exact⟨rfl,λj x x' K p=>by rw[K]at p;injection p with p;subst p;exact .refl _⟩
   obtain⟨V,_⟩:=pw (Zz k) (.sq c x) ⟨c.width,x.map c.enc⟩ (λ_=>⟨(Z k []).length,x.map c.enc,by rfl,by simp,p,D⟩);have W:TR ([]++[U (il.sq c x)]) (iF (λ_=>zz) (.m 0) (U (Z k []).length)) (.ref 0) (.ref (Z k []).length 0 (x.map c.enc).length):=
    .ref 0 (Z k []).length (.sq c x) _ rfl (by simp[iz]) (by rfl)
   exact Zw V W rfl
  refine Pw (by trivial) (l:=x.map c.enc) (λe q=> ?_) (by simp_all) (by rfl) (λh0 env q=> ?_) (λenv q=>B env q)
  .obtain⟨w,_,rfl⟩:=mH.1 q;exact rJ c w
  .refine⟨_,KD q p,?_⟩;have:=B ((2,.ref (Z k []).length 0 0)::env) (by rw[h0];rfl);simp_all
 grind
theorem YuN{P:Program}{fm:FM}{T:iT}(S:l4 P fm T)(k:P.follows .mixedOrders=zZ){g:Nat}(c:Cs)(p:T.pf g=zZ)(z:List Value)(n:Nat)(q:1<=n)
  (h: ∀f,fm f=g->lk P fm T.pf f=U (n,[.t 2],vf c.width z)):l4 P fm ⟨T.pf,mO g c::T.fs,T.ls,0⟩:=by
 obtain⟨C,H,d⟩:=S;exact⟨ur C g (q_ (mO g c).R),wm H (λ_=>GF _) (λf w=>YuM H k (by rw[d.p.pf];exact h f w) q),Hn (e:=mO g c) d p⟩
theorem YuO{P:Program}{fm:FM}{T:iT}(S:l4 P fm T)(w:P.follows .mixedOrders=zZ){g:Nat}(c:Cs)(p:T.pf g=zj)(z:List Value)(n:Nat)(y:1<=n)
  (H: ∀f,fm f=g->lk P fm T.pf f=U (n,[.t 2],vf c.width z)):l4 P fm ⟨T.pf,mi g c::T.fs,T.ls,0⟩:=by
 obtain⟨C,q,d⟩:=S;have k:C.pf g=zZ->Pure (mi g c).RI:=λh=>by rw[d.p.pf,p]at h;cases h
 exact⟨ur C g (mi g c).RI,wm q k (λf A=>YuL q w (by rw[d.p.pf];exact H f A) y),AO (e:=mi g c) d (λh=>by rw[show(mi g c).g=g from rfl,p]at h;cases h) (λ_ _ _ _ _ h=>h)⟩
end Go.Abs
