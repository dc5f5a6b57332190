/- How objects come, go, move and are turned. No condition. -/
import Derived.Test.YtanbdececkgkhaaGreatDoorA1
set_option linter.unusedVariables false
set_option linter.unusedSimpArgs false
set_option linter.unusedSectionVars false
open Option renaming some → U,none → zz
open Bool renaming true → zZ,false → zj
open List renaming getElem?_eq_some_iff → iP, mem_of_getElem? → jc, getElem?_eq_getElem → je, getElem?_map → jt, map_cons → kn, getElem?_append_left → ld, all_eq_true → ly, map_nil → mq, getElem?_set_ne → mR, mem_iff_getElem? → mE, length_eq_zero_iff → mC, mem_cons → mT, getElem?_append_right → nF, length_append → nV, getElem?_take → oU, getElem?_set_self → o_, length_cons → pL, getElem?_range → pO, getElem?_eq_none → qb, mem_cons_self → pM, length_map → pQ, length_singleton → qG, append_assoc → qS, nil_append → qt, take_length → rN, ext_getElem? → pT, getElem?_drop → rU, cons_append → rV, length_nil → uU, mem_singleton → uV, mem_append → uE, drop_zero → vM, getD_eq_getElem?_getD → vW, nodup_range → wW, getElem?_replicate → vN
open Nat renaming beq → im, ble → iS, eq_of_beq_eq_true → jr, blt → js, le_refl → jG, le_of_ble_eq_true → l9, zero_add → mD, lt_of_lt_of_le → mS, le_trans → nu, ble_eq_true_of_le → qi, zero_le → sP
open Option renaming map_eq_some_iff → lS, map_some → l_, isSome_iff_exists → pU, getD_some → qu
open Bool renaming and_eq_true → iI, or_eq_true → rG, and_self → uW
open Int renaming toNat_natCast → mN
open Array renaming getD_eq_getD_getElem? → mI, getElem?_eq_getElem → rH
open ByteArray renaming mk → a_
namespace Go.Abs
open Go Go.RowKit
theorem km: ∀(X:hZ) (a:Nat) (o:Option il),(hU X a o).length=X.length
 | [],_,_=>rfl
 |_::_,0,_=>rfl
 |_::r,a+1,o=>by simp[hU,km r a o]
theorem oV: ∀{X:hZ} {a:Nat} (o:Option il),a<X.length->b_ (hU X a o) a=o
 |_::_,0,_,_=>rfl
 |_::r,a+1,o,h=>by simp only[hU,b_];exact oV o (by simp_all)
theorem nt: ∀{X:hZ} {a b:Nat} (o:Option il),a≠b->b_ (hU X a o) b=b_ X b
 | [],_,_,_,_=>rfl
 |_::_,0,0,_,h=>absurd rfl h
 |_::_,0,_+1,_,_=>rfl
 |_::_,_+1,0,_,_=>rfl
 |_::r,a+1,b+1,o,h=>by simp only[hU,b_];exact nt o (by omega)
theorem qj: ∀{X:hZ} {Y:hZ} {a:Nat},a<X.length->b_ (X++Y) a=b_ X a
 |_::_,_,0,_=>rfl
 |_::r,Y,a+1,h=>by simp;exact qj (by simp_all)
theorem nI: ∀(X:hZ) (o:Option il),b_ (X++[o]) X.length=o
 | [],_=>rfl
 |_::r,o=>by exact nI r o
theorem rl: ∀{X:hZ} {a:Nat},X.length<=a->b_ X a=zz
 | [],_,_=>rfl
 |_::r,0,h=>by grind
 |_::r,a+1,h=>by simp only[b_];exact rl (by simp_all)
def iF(pl:Pl)(p:Pos)(x:Option Nat):Pl:=λq=>if q=p then x else pl q
def Pos.of:Pos->Nat
 | .m a=>a
 | .n a _=>a
def tF(pl:Pl)(a:Nat):Pl:=λq=>if q.of=a then zz else pl q
section
variable{Fr:Nat->Prop}{H0:ic}{X:hZ}{pl:Pl}{H:ic}
theorem ib.lt(g:ib Fr H0 X pl H){p:Pos}{x:Nat}(B:pl p=U x): ∃o,H[x]?=U (U o):=by
 have A:=g.own p x B;cases p with
 |m a=>
  obtain⟨o,q⟩:=A;have:=g.obj a o q;cases o with
  |sq c l=>obtain⟨y,el,h1,h2,_⟩:=this;simp_all
  |fm hd c V h l=>obtain⟨y,el,h1,h2,_⟩:=this;simp_all
  |st cs=>obtain⟨y,el,h1,h2,_⟩:=this;simp_all
  |sb s=>obtain⟨y,h1,h2⟩:=this;simp_all
 |n a i=>
  obtain⟨hd,c,V,h,l,q,C,w⟩:=A;obtain⟨y,el,h1,h2,E,F,D⟩:=g.obj a _ q;have z:i<el.length:=by omega
  obtain⟨d,r,_,_,k⟩:=D i el[i] l[i] (je z) (je C);rcases k w with⟨Y,el',K,_,G,_⟩| ⟨_,K,_⟩
  .simp_all
  simp_all
theorem ib.bd(h:ib Fr H0 X pl H){p:Pos}{x:Nat}(d:pl p=U x):x<H.length:=by
 obtain⟨o,g⟩:=h.lt d;grind
theorem ib.dead(d:ib Fr H0 X pl H){p:Pos}(h:b_ X p.of=zz):pl p=none:=by
 cases g:pl p with
 |none=>rfl
 |some x=>
  have:=d.own p x g;cases p with
  |m a=>obtain⟨o,k⟩:=this;simp only[Pos.of]at h;simp_all
  |n a i=>obtain⟨_,_,_,_,_,k,_⟩:=this;simp only[Pos.of]at h;simp_all
theorem OR.keep{X':hZ}{P:Pl}{H':ic}{a:Nat}{o:il}(h:OR X pl H a o)(C:Ext X pl X' P)(g: ∀p,p.of=a->P p=pl p)
  (k: ∀p x,p.of=a->pl p=U x->H'[x]?=H[x]?):OR X' P H' a o:=by
 cases o with
 |sq c l=>
  obtain⟨x,el,h1,h2,q,w⟩:=h;exact⟨x,el,(g _ rfl).trans h1,(k _ x rfl h1).trans h2,q,w⟩
 |fm hd c V B l=>
  obtain⟨x,el,h1,h2,q,w,D⟩:=h;refine⟨x,el,(g _ rfl).trans h1,(k _ x rfl h1).trans h2,q,w,λi e v K E=> ?_⟩;obtain⟨d,r,Q,F,I⟩:=D i e v K E;refine⟨d,r,Q,F,λJ=> ?_⟩;rcases I J with⟨y,el',G,z,A,L⟩| ⟨M,G,z,A⟩
  .exact .inl ⟨y,el',(g _ rfl).trans G,z,(k _ y rfl G).trans A,L⟩
  .exact .inr ⟨M,(g _ rfl).trans G,z,A⟩
 |st cs=>
  obtain⟨x,e,h1,h2,q,w⟩:=h;exact⟨x,e,(g _ rfl).trans h1,(k _ x rfl h1).trans h2,q,w.ext C⟩
 |sb s=>
  obtain⟨x,h1,h2⟩:=h;exact⟨x,(g _ rfl).trans h1,(k _ x rfl h1).trans h2⟩
theorem pw(g:ib Fr H0 X pl H)(o:il)(O:iu)(F:Ext X pl (X++[U o]) (iF pl (.m X.length) (U H.length))->OR (X++[U o]) (iF pl (.m X.length) (U H.length)) (H++[U O]) X.length o):
  ib Fr H0 (X++[U o]) (iF pl (.m X.length) (U H.length)) (H++[U O])/\Ext X pl (X++[U o]) (iF pl (.m X.length) (U H.length)):=by
 have C:Ext X pl (X++[U o]) (iF pl (.m X.length) (U H.length)):=by
  refine⟨by simp,λa z=> ?_⟩;have D:(Pos.m a:Pos)≠ .m X.length:=λe=>by simp_all
  cases h:b_ X a with
  |none=>exact .inl (by rw[qj z];exact h)
  |some y=>
   refine .inr ⟨y,y,rfl,by rw[qj z];exact h,rfl,rfl,by unfold iF;simp_all,rfl,λhd c V k l e=>⟨hd,V,k,l,e,.inr ⟨rfl,λh=>⟨h,rfl,λi=>⟨rfl,by rfl⟩⟩⟩⟩⟩
 refine⟨⟨λa y h1=> ?_,λp q x d w=> ?_,λp x d=> ?_,λx A=> ?_,λp x d=> ?_,?_⟩,C⟩
 .by_cases e:a=X.length
  .subst e;rw[nI]at h1;simp_all
  .have z:a<X.length:=by
    have:=ki h1;grind
   rw[qj z]at h1;refine(g.obj a y h1).keep C (λp d=> ?_) (λp x d B=> ?_)
   .unfold iF;rw[if_neg (λh=>e (by subst h;exact d.symm))]
   .rw[ld (g.bd B)]
 .unfold iF at d w;split at d<;>split at w
  .simp_all
  .injection d with d;subst d;have:=g.bd w;omega
  .injection w with w;subst w;have:=g.bd d;omega
  .exact g.inj p q x d w
 .unfold iF at d;split at d
  .rename_i h;subst h;exact⟨o,nI X _⟩
  .have:=g.own p x d;cases p with
   |m a=>obtain⟨y,h1⟩:=this;exact⟨y,by rw[qj (ki h1)];exact h1⟩
   |n a i=>obtain⟨hd,c,V,k,l,h1,h2⟩:=this;exact⟨hd,c,V,k,l,by rw[qj (ki h1)];exact h1,h2⟩
 .have h1:=g.fr x A;grind
 .unfold iF at d;split at d
  .injection d with d;subst d;intro E;have:=(g.fr _ E).1;have:=g.le;omega
  .exact g.nU p x d
 .have:=g.le;grind
theorem Cn(g:ib Fr H0 X pl H){a x:Nat}{o:il}(D:b_ X a=U o)(A:pl (.m a)=U x):
  ib Fr H0 (hU X a zz) (tF pl a) (H.set x zz)/\Ext X pl (hU X a zz) (tF pl a):=by
 have k:=ki D;have B:Ext X pl (hU X a zz) (tF pl a):=by
  refine⟨by rw[km];omega,λb C=> ?_⟩;by_cases e:b=a
  .subst e;exact .inl (oV _ k)
  .rw[nt _ (Ne.symm e)];cases h:b_ X b with
   |none=>simp
   |some O=>exact .inr ⟨O,O,rfl,rfl,rfl,rfl,by unfold tF;rw[if_neg (by trivial)],rfl,λhd c V d l e'=>⟨hd,V,d,l,e',.inr ⟨rfl,λh=>⟨h,rfl,λi=>⟨rfl,by unfold tF;rw[if_neg (by trivial)]⟩⟩⟩⟩⟩
 have w: ∀{p y},tF pl a p=U y->p.of≠a/\pl p=U y:=by
  intro p y h;unfold tF at h;simp_all
 have E: ∀{p y},p.of≠a->pl p=U y->y≠x:=λh1 h2 e=>by
  subst e;have:=g.inj _ _ _ h2 A;subst this;trivial
 refine⟨⟨λb O h1=> ?_,λp q y h1 h2=>g.inj p q y (w h1).2 (w h2).2,λp y h1=> ?_,λy F=> ?_,λp y h1=>g.nU p y (w h1).2,by have:=g.le;simp_all⟩,B⟩
 .have C:b≠a:=λe=>by subst e;rw[oV _ k]at h1;cases h1
  rw[nt _ (Ne.symm C)]at h1;refine(g.obj b O h1).keep B (λp z=> ?_) (λp y z G=> ?_)
  .unfold tF;simp_all
  grind
 .obtain⟨h2,I⟩:=w h1;have:=g.own p y I;cases p with
  |m b=>obtain⟨O,K⟩:=this;exact⟨O,by rw[nt _ (show a≠b from λe=>h2 e.symm)];exact K⟩
  |n b i=>obtain⟨hd,c,V,d,l,K,J⟩:=this;exact⟨hd,c,V,d,l,by rw[nt _ (show a≠b from λe=>h2 e.symm)];exact K,J⟩
 .have h1:=g.fr y F;refine⟨h1.1,?_⟩;rw[mR (λe=>g.nU _ _ A (by simp_all))];grind
theorem E9(d:ib Fr H0 X pl H){a x:Nat}{o o':il}(D:b_ X a=U o)(E:pl (.m a)=U x)(O:iu)(I:lK o'=lK o)(J:iz o'=iz o)(z: ∀hd c v h l,o'≠ .fm hd c v h l)(F: ∀hd c v h l,o≠ .fm hd c v h l)
  (N:Ext X pl (hU X a (U o')) pl->OR (hU X a (U o')) pl (H.set x (U O)) a o'):
  ib Fr H0 (hU X a (U o')) pl (H.set x (U O))/\Ext X pl (hU X a (U o')) pl:=by
 have q:=ki D;have G:Ext X pl (hU X a (U o')) pl:=by
  refine⟨by rw[km];omega,λb P=> ?_⟩;by_cases e:b=a
  .subst e;exact .inr ⟨o,o',D,oV _ q,I,J,rfl,by cases o<;>cases o'<;>first|rfl|grind|grind,λhd c V g l e=>absurd e (z _ _ _ _ _)⟩
  .rw[nt _ (Ne.symm e)];cases h:b_ X b with
   |none=>simp
   |some w=>grind
 have A: ∀{p y},p.of=a->pl p=U y->p= .m a:=by
  intro p y h1 h2;have:=d.own p y h2;cases p with
  |m b=>simp only[Pos.of]at h1;rw[h1]
  |n b i=>
   simp only[Pos.of]at h1;subst h1;obtain⟨hd,c,v,h,l,k,_⟩:=this;grind
 refine⟨⟨λb w h1=> ?_,d.inj,λp y h1=> ?_,λy L=> ?_,d.nU,by have:=d.le;simp_all⟩,G⟩
 .by_cases e:b=a
  .subst e;rw[oV _ q]at h1;simp_all
  .rw[nt _ (Ne.symm e)]at h1;refine(d.obj b w h1).keep G (λp _=>rfl) (λp y B C=> ?_);rw[mR (λe'=>e (by subst e';have:=d.inj _ _ _ C E;subst this;exact B.symm))]
 .have:=d.own p y h1;by_cases e:p.of=a
  .have:=A e h1;subst this;exact⟨o',oV _ q⟩
  .cases p with
   |m b=>obtain⟨w,K⟩:=this;exact⟨w,by rw[nt _ (show a≠b from λe'=>e e'.symm)];exact K⟩
   |n b i=>obtain⟨hd,c,V,g,l,K,M⟩:=this;exact⟨hd,c,V,g,l,by rw[nt _ (show a≠b from λe'=>e e'.symm)];exact K,M⟩
 .have h1:=d.fr y L;refine⟨h1.1,?_⟩;rw[mR (λe=>d.nU _ _ E (by simp_all))];grind
end
end Go.Abs
namespace Go.Abs
open Go Go.RowKit
def K1.av:K1->AV
 | .i k n=>.v (.int k n)
 | .b x=>.v (.bool x)
 | .s x=>.v (.string x)
 | .e _=>.emp
 | .v x=>.v x
 | .nl=>.v (.pointer zz)
def K1.val:K1->Value
 | .i k n=>.int k n
 | .b x=>.bool x
 | .s x=>.string x
 | .e _=>.slice zz 0 0
 | .v x=>x
 | .nl=>.pointer zz
def KC.av:KC->AV
 | .one k=>k.av
 | .ag l=>.agg (l.map K1.av)
 | .tp l=>.iZ (l.map K1.av)
 | .ls l=>.rd 1 (l.map λs=>[.v (.string s)])
 | .f g=>.clo g []
 | .v x=>.v x
def iq.er:iq->iY
 | .t n=>.t n
 | .c k=>.c k.av
theorem X9{k:K1}(h:k.ok=zZ):zc k.val=k.av:=by
 cases k with
 |v x=>cases x<;>first|rfl|cases h
 |_=>rfl
theorem CT.nil{X:hZ}{pl:Pl}:CT X pl [] []:=⟨rfl,λj c a h=>by simp⟩
theorem CT.cons{X:hZ}{pl:Pl}{c:TV}{cs:List TV}{a:AV}{as:List AV}(h:TR X pl c a)(k:CT X pl cs as):CT X pl (c::cs) (a::as):=by
 refine⟨by simp[k.1],λj c' A h1 h2=> ?_⟩;cases j with
 |zero=>simp_all
 |succ j=>exact k.2 j c' A h1 h2
theorem CT.inv{X:hZ}{pl:Pl}{c:TV}{cs:List TV}{as:List AV}(h:CT X pl (c::cs) as): ∃a r,as=a::r/\TR X pl c a/\CT X pl cs r:=by
 cases as with
 |nil=>have:=h.1;trivial
 |cons a r=>exact⟨a,r,rfl,h.2 0 c a rfl rfl,by simpa using h.1,λj c' A h1 h2=>h.2 (j+1) c' A h1 h2⟩
theorem CT.get{X:hZ}{pl:Pl}{cs:List TV}{as:List AV}(h:CT X pl cs as){j:Nat}{c:TV}(d:cs[j]?=U c): ∃a,as[j]?=U a/\TR X pl c a:=by
 have g:j<cs.length:=(iP.1 d).1;have H:j<as.length:=by rw[<-h.1];exact g
 exact⟨as[j],je H,h.2 j c _ d (je H)⟩
theorem CT.take{X:hZ}{pl:Pl}{cs:List TV}{as:List AV}(h:CT X pl cs as)(n:Nat):CT X pl (cs.take n) (as.take n):=by
 refine⟨by simp[h.1],λj c a h1 h2=> ?_⟩;rw[oU]at h1 h2;split at h1
 .rename_i H;rw[if_pos H]at h2;exact h.2 j c a h1 h2
 trivial
theorem CT.drop{X:hZ}{pl:Pl}{cs:List TV}{as:List AV}(h:CT X pl cs as)(n:Nat):CT X pl (cs.drop n) (as.drop n):=by
 refine⟨by simp[h.1],λj c a h1 h2=> ?_⟩;rw[rU]at h1 h2;exact h.2 _ c a h1 h2
theorem CT.append{X:hZ}{pl:Pl}{cs ds:List TV}{as B:List AV}(h:CT X pl cs as)(k:CT X pl ds B):CT X pl (cs++ds) (as++B):=by
 refine⟨by simp[h.1,k.1],λj c a h1 h2=> ?_⟩;by_cases H:j<cs.length
 .rw[ld H]at h1;rw[ld (by rw[<-h.1];exact H)]at h2;exact h.2 j c a h1 h2
 .rw[nF (by omega)]at h1;rw[nF (by rw[<-h.1];omega),<-h.1]at h2;exact k.2 _ c a h1 h2
theorem CT.tm{X:hZ}{pl:Pl}{l cs:List TV}{as B:List AV}(h:CT X pl l as)(k:CT X pl cs B)(j:Nat):CT X pl (tm l j cs) (iK as j B):=by
 unfold Go.Abs.tm iK;rw[<-k.1];exact((h.take j).append k).append (h.drop _)
theorem CT.yS{X:hZ}{pl:Pl}(l:List K1):CT X pl (l.map K1.tv) (l.map K1.av):=by
 induction l with
 |nil=>exact .nil
 |cons k r h=>
  refine .cons ?_ h;cases k<;>first|exact .i _ _|exact .b _|exact .s _|exact .e _|exact .v _|exact .nl
section
variable{X:hZ}{pl:Pl}
theorem YsQ(k:KC):TR X pl k.tv k.av:=by
 cases k with
 |one k=>cases k<;>first|exact .i _ _|exact .b _|exact .s _|exact .e _|exact .v _|exact .nl
 |ag l=>have h:=CT.yS (X:=X) (pl:=pl) l;exact .ag _ _ h.1 h.2
 |tp l=>have h:=CT.yS (X:=X) (pl:=pl) l;exact .tp _ _ h.1 h.2
 |ls l=>exact .l (.cons .s .nil) l _ (Coe.refl _)
 |f g=>exact .clo g _ _ rfl (λj c a h=>by simp)
 |v x=>exact .v x
def jB(X:hZ)(pl:Pl)(env:jO)(ae:Env):Prop:= ∀t,TR X pl (lW env t) (jk ae t)
theorem jB.ext{X':hZ}{p:Pl}{env:jO}{ae:Env}(h:jB X pl env ae)(H:Ext X pl X' p):jB X' p env ae:=λt=>(h t).ext H
theorem rO{env:jO}{ae:Env}(h:jB X pl env ae)(x:iq):TR X pl (vo env x) (iC ae x.er):=by
 cases x with
 |t n=>exact h n
 |c k=>exact YsQ k
theorem wX{a:AV}{es:Nat}{l:List (List AV)}(h:Coe a (.rd es l)):(a= .emp/\l=[])\/ ∃L,a= .rd es L/\L.length=l.length/\ ∀(i:Nat) (e e':List AV),L[i]?=U e->l[i]?=U e'->CC e e':=by
 generalize d:AV.rd es l=b at h;cases h with
 |refl=>subst d;exact .inr ⟨l,rfl,rfl,λi e e' h1 h2=>by rw[h1]at h2;injection h2 with h2;subst h2;exact⟨rfl,λj x X g H=>by rw[g]at H;injection H with H;subst H;exact .refl _⟩⟩
 |j_ es=>simp_all
 |rd es L l' k z h=>injection d with h1 h2;subst h1;subst h2;exact .inr ⟨L,rfl,k,λi e e' h1 h2=>⟨z i e e' h1 h2,λj x X g H=>h i e e' j x X h1 h2 g H⟩⟩
 |_=>cases d
theorem um{a:AV}{x:Value}(h:Coe a (.v x)):a= .v x:=by cases h;rfl
theorem X_{t:Ty}{v:t.den}{a:AV}(h:Coe a (t.enc v)):TR X pl (nx t v) a:=by
 cases t with
 |i k=>rw[um h];exact .i _ _
 |b=>rw[um h];exact .b _
 |s=>rw[um h];exact .s _
 |l c=>exact .l c v a h
theorem yT: ∀(c:Cs) (v:c.den) {e:List AV},CC e (c.enc v)->CT X pl (cells c v) e
 | .nil,v,e,h=>by
   have:=h.1;rw[mC.1 this];exact .nil
 | .cons t r,v,e,h=>by
   cases e with
   |nil=>have:=h.1;trivial
   |cons a as=>
    refine .cons (X_ (h.2 0 a _ rfl (by rfl))) (yT r _ ⟨by have:=h.1;simpa[Cs.enc]using this,λj x d h1 h2=>h.2 (j+1) x d h1 (by trivial)⟩)
theorem tG{c c':Cs}{l:List c.den}{l':List c'.den}(h:m_ c c' l=U l'): ∃e:c=c',e▸l=l':=by
 obtain⟨e,h1⟩:=Ty.kC h;grind
theorem iU{β:Type}{b:Bool}{x:Option β}{r:β}(h:(bif b then x else zz)=U r):b=zZ/\x=U r:=by
 grind
theorem OT{t:Ty}{tv:TV}{a:AV}{x:t.den}(h:Aw t tv=U x)(H:TR X pl tv a):Coe a (t.enc x):=by
 cases t with
 |i k=>
  cases tv with
  |i K n=>
   obtain⟨h1,h2⟩:=iU (b:=decide (K=k)) (x:=U n) (by exact h);have:=of_decide_eq_true h1;subst this;injection h2 with h2;subst h2
   cases H;exact .refl _
  |_=>cases h
 |b=>
  cases tv with
  |b y=>injection h with h;subst h;cases H;exact .refl _
  |_=>cases h
 |s=>
  cases tv with
  |s y=>injection h with h;subst h;cases H;exact .refl _
  |_=>cases h
 |l c=>
  cases tv with
  |l c' v=>
   obtain⟨e,h1⟩:=tG (c:=c') (c':=c) (l:=v) (l':=x) h;subst e;subst h1;cases H with
   |l _ _ _ h=>exact h
  |e c'=>
   obtain⟨h1,h2⟩:=iU h;injection h2 with h2;subst h2
   cases H;exact .j_ _
  |_=>cases h
theorem yU: ∀{c:Cs} {cs:List TV} {as:List AV} {v:c.den},pack c cs=U v->CT X pl cs as->CC as (c.enc v)
 | .nil,[],as,v,h,H=>by
   have:=H.1;cases as with
   |nil=>exact⟨rfl,λj x d h=>by grind⟩
   |cons _ _=>trivial
 | .cons t r,a::cs,as,v,h,H=>by
   obtain⟨b,B,rfl,h1,h2⟩:=H.inv;simp only[pack]at h;split at h
   .rename_i x y g p;injection h with h;subst h
    have K:=OT g h1;have k:=yU p h2;simp only[Cs.enc,xS,vX];refine⟨by simp[k.1],λj x d G q=> ?_⟩;cases j with
    |zero=>simp_all
    |succ j=>exact k.2 j x d G q
   trivial
 | .nil,_::_,_,_,h,_=>by trivial
 | .cons _ _,[],_,_,h,_=>by trivial
theorem Ya{t:Ty}: ∀{cs:List TV} {l:List t.den},KF t cs=U l->l.length=cs.length/\ ∀(j:Nat) (x:t.den),l[j]?=U x-> ∃c,cs[j]?=U c/\Aw t c=U x
 | [],l,h=>by injection h with h;subst h;exact⟨rfl,λj x h=>by simp at h⟩
 |a::r,l,h=>by
  simp only[KF]at h;split at h
  .rename_i x y d g;injection h with h;subst h
   obtain⟨k,K⟩:=Ya g;refine⟨by simp[k],λj z H=> ?_⟩;cases j with
   |zero=>simp at H;subst H;exact⟨a,rfl,d⟩
   |succ j=>exact K j z (by simpa using H)
  .cases h
theorem Yb: ∀{c:Cs} {cs:List TV} {v:c.den},pack c cs=U v->cs.length=c.width
 | .nil,[],_,_=>rfl
 | .cons t r,a::cs,v,h=>by
   simp only[pack]at h;split at h
   .rename_i x y d H;simp only[pL,Cs.width,Yb H]
   trivial
 | .nil,_::_,_,h=>by trivial
 | .cons _ _,[],_,h=>by trivial
def CE(X:hZ)(pl:Pl)(cs:List (List TV))(as:List (List AV)):Prop:=
 cs.length=as.length/\ ∀(i:Nat) (e:List TV) (f:List AV),cs[i]?=U e->as[i]?=U f->CT X pl e f
theorem G3: ∀{c:Cs} {cs:List (List TV)} {as:List (List AV)} {l:List c.den},xT c cs=U l->CE X pl cs as->Rows as c l
 |c,[],as,l,h,H=>by
  injection h with h;subst h
  have:=H.1;cases as with
  |nil=>exact⟨rfl,λi e v h=>by simp⟩
  |cons _ _=>trivial
 |c,a::cs,as,l,h,H=>by
  cases as with
  |nil=>have:=H.1;trivial
  |cons b B=>
   simp only[xT]at h;split at h
   .rename_i x y d g;injection h with h;subst h
    have K:=yU d (H.2 0 a b rfl rfl);have k:=G3 g (as:=B) ⟨by simpa using H.1,λi e f h1 h2=>H.2 (i+1) e f h1 h2⟩;refine⟨by simp[k.1],λi e v h1 h2=> ?_⟩;cases i with
    |zero=>simp_all
    |succ i=>exact k.2 i e v h1 h2
   trivial
theorem OU{tv:TV}{a:AV}{cs:List TV}(h:qe X tv=U cs)(d:TR X pl tv a): ∃as,cellsOf a=U as/\CT X pl cs as:=by
 have O: ∀{tv a},TR X pl tv a->CT X pl [tv] [a]:=λh=>.cons h .nil;cases tv with
 |i k n=>injection h with h;subst h;have H:=d;cases H;exact⟨_,by rfl,O d⟩
 |b x=>injection h with h;subst h;have H:=d;cases H;exact⟨_,by rfl,O d⟩
 |s x=>injection h with h;subst h;have H:=d;cases H;exact⟨_,by rfl,O d⟩
 |l c v=>
  injection h with h;subst h
  have H:=d;cases H with
  |l _ _ _ w=>
   rcases wX w with⟨rfl,_⟩| ⟨L,rfl,_⟩<;>exact⟨_,by rfl,O d⟩
 |e c=>injection h with h;subst h;have H:=d;cases H;exact⟨_,by rfl,O d⟩
 |u=>trivial
 |ef x=>trivial
 |nl=>injection h with h;subst h;have H:=d;cases H;exact⟨_,by rfl,O d⟩
 |v x=>
  simp only[qe]at h;cases q:x.oneCell' with
  |false=>simp_all
  |true=>simp[q]at h;subst h;have H:=d;cases H;exact⟨_,by simp[cellsOf,q],O d⟩
 |ref a=>
  simp only[qe]at h;cases p:b_ X a with
  |none=>simp_all
  |some o=>
   simp[p]at h;subst h;have H:=d;cases H with
   |ref=>exact⟨_,by rfl,O d⟩
   |nA _ _ h=>simp_all
 |pre a n=>
  simp only[qe]at h;cases p:b_ X a with
  |none=>simp_all
  |some o=>
   simp[p]at h;subst h;have H:=d;cases H with
   |pre=>exact⟨_,by rfl,O d⟩
   |og _ _ _ h=>simp_all
 |ptr a i j=>
  simp only[qe]at h;cases p:b_ X a with
  |none=>simp_all
  |some o=>
   simp[p]at h;subst h;have H:=d;cases H with
   |ptr=>exact⟨_,by rfl,O d⟩
   |nM _ _ _ _ h=>simp_all
 |np a=>
  simp only[qe]at h;cases p:b_ X a with
  |none=>simp_all
  |some o=>
   simp[p]at h;subst h;have H:=d;cases H with
   |np=>exact⟨_,by rfl,O d⟩
   |wc _ _ h=>simp_all
 |sub _ _ _=>trivial
 |nq _ _ _ _ _=>trivial
 |lt _=>trivial
 |tp _=>trivial
 |ag ds=>injection h with h;subst h;cases d with
  |ag _ as y h=>exact⟨as,by rfl,y,h⟩
 |rp ds=>simp only[qe]at h;injection h with h;subst h;have H:=d;cases H;exact⟨_,by rfl,O d⟩
 |clo g ds=>simp only[qe]at h;injection h with h;subst h;have H:=d;cases H;exact⟨_,by rfl,O d⟩
theorem Yc{g:Bool}{n:Nat}{cs:List TV}{as:List AV}{v:TV}{K:AV->Prop}(h:wP g n cs=U v)(H:CT X pl cs as)(k: ∀a,TR X pl v a->K a):sQ g n as K:=by
 cases g with
 |true=>
  simp only[wP]at h;cases d:iS n cs.length with
  |false=>simp_all
  |true=>
   rw[d,cond_true]at h;injection h with h;subst h
   exact⟨by rw[<-H.1];simp_all,k _ (.ag _ _ (H.take n).1 (H.take n).2)⟩
 |false=>
  obtain⟨a,h1,h2⟩:=H.get h;exact⟨a,h1,k a h2⟩
theorem lA{β:Type}{p:Prop}[Decidable p]{x:Option β}{r:β}(h:e_ p x=U r):p/\x=U r:=by
 unfold e_ at h;grind
theorem Yd(B:ByteArray): ∀(m i:Nat) (r:List UInt8),B.size-i=m->ByteArray.toList.loop B i r=r.reverse++B.data.toList.drop i
 |0,i,r,h=>by
  unfold ByteArray.toList.loop;have h2: ¬i<B.size:=by omega
  rw[if_neg h2,List.drop_of_length_le (by simp_all),List.append_nil]
 |m+1,i,r,h=>by
  unfold ByteArray.toList.loop;have h2:i<B.size:=by omega
  have H:i<B.data.toList.length:=by trivial
  rw[if_pos h2,Yd B m (i+1) _ (by omega),List.drop_eq_getElem_cons H];simp;congr 2;simp only[ByteArray.get!];simp_all
theorem xV(B:ByteArray):B.toList=B.data.toList:=by
 have:=Yd B _ 0 [] rfl;trivial
theorem Ye(x y:ByteArray):(x.toList==y.toList)=decide (x=y):=by
 rw[Bool.eq_iff_iff,beq_iff_eq,decide_eq_true_iff];constructor
 .intro h;have h2: ∀z:ByteArray,z.toList=z.data.toList:=λz=>xV z;cases x;simp_all
 simp_all
variable{β:Type}{r:β}
theorem YsR{p:BinOp}{k:IntKind}{x y:Int}{K:TV->Option β}(h:B6 p k x y K=U r){KA:Value->Prop}(H: ∀w z,K w=U r->TR X pl w (.v z)->KA z):EA p k x y KA:=by
 cases p<;>simp only[B6]at h
 case quo=>obtain⟨h1,h2⟩:=lA h;exact⟨h1,H _ _ h2 (.i _ _)⟩
 case rem=>obtain⟨h1,h2⟩:=lA h;exact⟨h1,H _ _ h2 (.i _ _)⟩
 case shl=>obtain⟨h1,h2⟩:=lA h;exact⟨h1,H _ _ h2 (.i _ _)⟩
 case shr=>obtain⟨h1,h2⟩:=lA h;exact⟨h1,H _ _ h2 (.i _ _)⟩
 case eql=>exact H _ _ h (.b _)
 case neq=>exact H _ _ h (.b _)
 all_goals exact H _ _ h (by constructor)
theorem YsS{p:BinOp}{x y:ByteArray}{K:TV->Option β}(h:B7 p x y K=U r){KA:Value->Prop}(k: ∀w z,K w=U r->TR X pl w (.v z)->KA z):BO p x y KA:=by
 cases p<;>simp only[B7]at h
 case add=>obtain⟨h1,h2⟩:=lA h;exact⟨Int.ofNat_le.2 (l9 h1),k _ _ h2 (.s _)⟩
 all_goals first
  | (simp only[BO,Ye];exact k _ _ h (.b _))
  |cases h
theorem YsT{p:BinOp}{a b:TV}{V d:AV}{K:TV->Option β}(h:B8 p a b K=U r)(H:TR X pl a V)(g:TR X pl b d){KA:Value->Prop}
  (k: ∀w z,K w=U r->TR X pl w (.v z)->KA z):qX p V d KA:=by
 unfold B8 at h;split at h
 .obtain⟨h1,h2⟩:=iU h;cases H;cases g;exact⟨of_decide_eq_true h1,YsR h2 k⟩
 .cases H;cases g;exact YsS h k
 trivial
theorem Yf: ∀{K:List Nat} {cs ds:List TV} {as B:List AV} {x:Bool},KH K cs ds=U x->CT X pl cs as->CT X pl ds B->sd K as B=U x
 | [],[],[],as,B,x,h,h1,h2=>by
   have d:=h1.1;have p:=h2.1;cases as<;>cases B<;>simp at d p;trivial
 |k::K,a::cs,b::ds,as,B,x,h,h1,h2=>by
  obtain⟨V,q,rfl,g,w⟩:=h1.inv;obtain⟨y,z,rfl,G,A⟩:=h2.inv;simp only[KH]at h;split at h
  .rename_i C Y H D;simp only[sd,Yf D w A];have:pX k V y=U C:=by
    unfold GK at H;split at H
    .cases g;cases G;trivial
    .obtain⟨E,F⟩:=iU H;have:=of_decide_eq_true E;subst this;cases g;cases G;simp only[pX,if_true];trivial
    .cases g;cases G;simp only[pX,Ye];exact H
    trivial
   simp_all
  trivial
 | [],[],_::_,_,_,_,h,_,_=>by trivial
 | [],_::_,_,_,_,_,h,_,_=>by trivial
 |_::_,[],_,_,_,_,h,_,_=>by trivial
 |_::_,_::_,[],_,_,_,h,_,_=>by trivial
theorem Yg{mx:Bool}{k:IntKind}: ∀{l:List TV} {as:List AV} {m:Int} {v:TV},KI mx k m l=U v->CT X pl l as-> ∃a,EC mx k m as=U a/\TR X pl v a
 | [],as,m,v,h,H=>by
   have:=H.1;cases as with
   |nil=>injection h with h;subst h;exact⟨_,rfl,.i _ _⟩
   |cons _ _=>trivial
 |a::l,as,m,v,h,H=>by
  obtain⟨b,B,rfl,h1,h2⟩:=H.inv;unfold KI at h;split at h
  .trivial
  .rename_i _ _ K n R d;injection d with e1 e2;subst e1;subst e2
   cases h1;have:=Yg h h2;trivial
  trivial
end
end Go.Abs
namespace Go.Abs
open Go Go.RowKit
section
variable{Fr:Nat->Prop}{H0:ic}{X:hZ}{pl:Pl}{H:ic}
theorem ib.build(d:ib Fr H0 X pl H){X':hZ}{P:Pl}{H':ic}(A:Nat->Prop)(D:Ext X pl X' P)
  (y: ∀b,¬A b->b_ X' b=b_ X b) (w: ∀p:Pos,¬A p.of->P p=pl p)
  (E: ∀(p:Pos) x,¬A p.of->pl p=U x->H'[x]?=H[x]?)
  (O: ∀b o,A b->b_ X' b=U o->OR X' P H' b o)
  (F: ∀(p:Pos) x,A p.of->P p=U x->Live X' p)
  (src: ∀(p:Pos) x,A p.of->P p=U x->(∃q:Pos,pl q=U x/\A q.of)\/H.length<=x)
  (I: ∀(p q:Pos) x,A p.of->A q.of->P p=U x->P q=U x->p=q)
  (G: ∀x,Fr x->H'[x]?=H[x]?) (L:H.length<=H'.length):ib Fr H0 X' P H':=by
 have M: ∀(p q:Pos) x,A p.of-> ¬A q.of->P p=U x->P q=U x->False:=by
  intro p q x h1 h2 J z;rw[w q h2]at z;rcases src p x h1 J with⟨R,K,B⟩|k
  .have:=d.inj _ _ _ K z;simp_all
  .have:=d.bd z;omega
 refine⟨λb o h1=> ?_,λp q x h1 h2=> ?_,λp x h1=> ?_,λx h1=> ?_,λp x h1=> ?_,nu d.le L⟩
 .by_cases C:A b
  .simp_all
  .rw[y b C]at h1;exact(d.obj b o h1).keep D (λp e=>w p (by simp_all)) (λp x e N=>E p x (by simp_all) N)
 .by_cases g:A p.of<;>by_cases C:A q.of
  .grind
  .grind
  .grind
  .rw[w p g]at h1;rw[w q C]at h2;exact d.inj p q x h1 h2
 .by_cases g:A p.of
  .simp_all
  .rw[w p g]at h1;have:=d.own p x h1;cases p with
   |m b=>obtain⟨o,k⟩:=this;exact⟨o,by rw[y b g];exact k⟩
   |n b i=>obtain⟨hd,c,v,h,l,k,B⟩:=this;exact⟨hd,c,v,h,l,by rw[y b g];exact k,B⟩
 .have:=d.fr x h1;simp_all
 .by_cases g:A p.of
  .rcases src p x g h1 with⟨q,K,B⟩|k
   .exact d.nU q x K
   .intro Q;have:=(d.fr x Q).1;have:=d.le;omega
  .rw[w p g]at h1;exact d.nU p x h1
theorem yV(q:ib Fr H0 X pl H){a:Nat}{hd:Hd}{c:Cs}{V:Nat}{d:Option Nat}{l:List (sn c hd.A).den}(w:b_ X a=U (.fm hd c V d l)){p:Pos}{x:Nat}(y:pl p=U x)(g:p.of=a):
  p= .m a\/ ∃i,p= .n a i/\i<l.length/\d≠U i:=by
 have:=q.own p x y;cases p with
 |m b=>simp only[Pos.of]at g;simp_all
 |n b i=>
  simp only[Pos.of]at g;subst g;obtain⟨hd',c',v,h,l',k,K,z⟩:=this;rw[w]at k;injection k with k;injection k with e0 e1 e2 e3 E
  subst e0;subst e1;subst e3;have E:=eq_of_heq E;subst E;exact .inr ⟨i,rfl,K,z⟩
theorem Yh(g:ib Fr H0 X pl H){a:Nat}{c:Cs}{l:List c.den}(w:b_ X a=U (.sq c l)){p:Pos}{x:Nat}(q:pl p=U x)(d:p.of=a):p= .m a:=by
 have:=g.own p x q;cases p with
 |m b=>simp only[Pos.of]at d;rw[d]
 |n b i=>
  simp only[Pos.of]at d;subst d;obtain⟨hd',c',v,h,l',k,_⟩:=this;simp_all
theorem KU(I:ib Fr H0 X pl H){a x m:Nat}{hd hd':Hd}{c:Cs}{V ver':Nat}{w:Option Nat}{l:List (sn c hd.A).den}{l':List (sn c hd'.A).den}{el:List (List AV)}{X':hZ}{src:Nat->Option Nat}
  (ha:b_ X a=U (.fm hd c V w l)) (D:pl (.m a)=U x) (B:m=a\/(b_ X' m=zz/\ ∃lm,b_ X m=U (.sq c lm))) (a4:X'.length=X.length) (C:b_ X' a=U (.fm hd' c ver' zz l'))
  (M: ∀b,b≠a->b≠m->b_ X' b=b_ X b) (N:V<ver') (hN:lK (.fm hd' c ver' zz l')=lK (.fm hd c V w l)) (hL:iz (.fm hd' c ver' zz l')=iz (.fm hd c V w l)) (h0:0<c.width)
  (A: ∀j z,src j=U z->j<l'.length/\ ((∃i,pl (.n a i)=U z)\/(m≠a/\pl (.m m)=U z))) (O: ∀i j z,src i=U z->src j=U z->i=j)
  (Y:el.length=l'.length) (Q: ∀(i:Nat) (e:List AV) (v:(sn c hd'.A).den),el[i]?=U e->l'[i]?=U v-> ∃d r,e=d++[r]/\CC d (hd'.A.enc (da c hd'.A v))/\
   ((∃y el',src i=U y/\r= .ref y 0 (ow c hd'.A v).length/\H[y]?=U (U ⟨c.width,el'⟩)/\Rows el' c (ow c hd'.A v))\/(hd'.nn=zj/\src i=zz/\ow c hd'.A v=[]/\r= .emp))):
  ∃P,ib Fr H0 X' P (H.set x (U (hd'.obj el)))/\Ext X pl X' P/\P (.m a)=U x/\ ∀i,P (.n a i)=src i:=by
 have a5:=ki ha;let P:Pl:=λq=>match q with
  | .m b=>if b=a then U x else if b=m then zz else pl (.m b)
  | .n b j=>if b=a then src j else if b=m then zz else pl (.n b j)
 have S:P (.m a)=U x:=if_pos rfl;have T: ∀j,P (.n a j)=src j:=λj=>if_pos rfl;have Z: ∀q:Pos,q.of≠a->q.of≠m->P q=pl q:=λq h1 h2=>by
  cases q with
  |m b=>simp only[Pos.of]at h1 h2;simp only[P,if_neg h1,if_neg h2]
  |n b j=>simp only[Pos.of]at h1 h2;simp only[P,if_neg h1,if_neg h2]
 have a0: ∀q:Pos,m≠a->q.of=m->P q=none:=λq h1 h2=>by
  cases q with
  |m b=>simp only[Pos.of]at h2;subst h2;simp only[P,if_neg h1,if_true]
  |n b j=>simp only[Pos.of]at h2;subst h2;simp only[P,if_neg h1,if_true]
 have R:Ext X pl X' P:=by
  refine⟨by omega,λb g=> ?_⟩;by_cases F:b=a
  .subst F;exact .inr ⟨_,_,ha,C,hN,hL,S.trans D.symm,rfl,λa6 c1 v1 h1 l1 e=>by
    injection e with e0 F E e3 e4
    subst e0;subst F;subst E;subst e3;exact⟨_,_,_,_,rfl,.inl N⟩⟩
  .by_cases E:b=m
   .rcases B with B|B
    .exact absurd (E.trans B) F
    .exact .inl (E▸B.1)
   .rw[M b F E];cases h:b_ X b with
    |none=>simp
    |some o=>exact .inr ⟨o,o,rfl,rfl,rfl,rfl,Z (.m b) F E,rfl,λhd' c' v' J l' e=>⟨hd',v',J,l',e,.inr ⟨rfl,λh=>⟨h,rfl,λj=>⟨rfl,Z (.n b j) F E⟩⟩⟩⟩⟩
 have a1:x<H.length:=I.bd D;have G: ∀j z,src j=U z->z≠x:=λj z h e=>by
  subst e;rcases(A j _ h).2 with⟨i,hi⟩| ⟨h1,h2⟩
  .have:=I.inj _ _ _ hi D;cases this
  .have:=I.inj _ _ _ h2 D;injection this with this;exact h1 this
 have K: ∀{p:Pos} {z},(p.of=a\/p.of=m)->P p=U z->(p= .m a/\z=x)\/ ∃j,p= .n a j/\src j=U z:=by
  intro p z g k;by_cases e:p.of=a
  .cases p with
   |m b=>simp only[Pos.of]at e;subst e;rw[S]at k;injection k with k;exact .inl ⟨rfl,k.symm⟩
   |n b j=>simp only[Pos.of]at e;subst e;rw[T]at k;exact .inr ⟨j,rfl,k⟩
  .have E:=g.resolve_left e;rw[a0 p (λh=>e (E.trans h)) E]at k;cases k
 refine⟨P,I.build (λb=>b=a\/b=m) R (λb g=>M b (λe=>g (.inl e)) (λe=>g (.inr e))) (λp g=>Z p (λe=>g (.inl e)) (λe=>g (.inr e))) (λp z g k=> ?_) (λb o g L=> ?_) (λp z g k=> ?_) (λp z g k=> ?_) (λp q z g a2 k a3=> ?_) (λz k=> ?_) (by simp),R,S,T⟩
 .rw[mR (λe=> ?_)];subst e;have:=I.inj _ _ _ k D;subst this;exact g (.inl rfl)
 .by_cases e:b=a
  .subst e;rw[C]at L;injection L with L;subst L
   refine⟨x,el,S,o_ a1,h0,Y,λi e v k1 k2=> ?_⟩;obtain⟨d,r,g1,g2,g3⟩:=Q i e v k1 k2;refine⟨d,r,g1,g2,λ_=> ?_⟩;rcases g3 with⟨y,el',W,f2,f3,f4⟩| ⟨f0,W,f2,f3⟩
   .exact .inl ⟨y,el',(T i).trans W,f2,by rw[mR (Ne.symm (G i y W))];exact f3,f4⟩
   .exact .inr ⟨f0,(T i).trans W,f2,f3⟩
  .have E:=g.resolve_left e;rcases B with B|B
   .exact absurd (E.trans B) e
   .rw[E,B.1]at L;cases L
 .rcases K g k with⟨rfl,rfl⟩| ⟨j,rfl,h⟩
  .exact⟨_,C⟩
  .exact⟨_,_,_,_,_,C,(A j z h).1,by simp⟩
 .rcases K g k with⟨rfl,rfl⟩| ⟨j,rfl,h⟩
  .exact .inl ⟨_,D,.inl rfl⟩
  .rcases(A j z h).2 with⟨i,hi⟩| ⟨_,h2⟩
   .exact .inl ⟨_,hi,.inl rfl⟩
   .exact .inl ⟨_,h2,.inr rfl⟩
 .rcases K g k with⟨rfl,rfl⟩| ⟨j,rfl,h⟩<;>rcases K a2 a3 with⟨rfl,J⟩| ⟨j',rfl,J⟩
  .rfl
  .exact absurd rfl (G _ _ J)
  .exact absurd J (G _ _ h)
  .rw[O _ _ _ h J]
 .rw[mR (λe=>I.nU _ _ D (by simp_all))]
theorem OV(M:ib Fr H0 X pl H)(D:Nat->Prop){hd:Hd}{c:Cs}{l:List (sn c hd.A).den}{el:List (List AV)}{X':hZ}{H':ic}{src:Nat->Option Nat}
  (a0:X'.length=X.length+1) (A:b_ X' X.length=U (.fm hd c 0 zz l)) (C: ∀b,b<X.length->D b->b_ X' b=zz) (E: ∀b,b<X.length-> ¬D b->b_ X' b=b_ X b) (h0:0<c.width)
  (a1:H'.length=H.length+1) (N:H'[H.length]?=U (U (hd.obj el))) (hH: ∀(p:Pos) z,¬D p.of->pl p=U z->H'[z]?=H[z]?) (O: ∀z,Fr z->H'[z]?=H[z]?)
  (w: ∀j z,src j=U z->j<l.length/\ ∃p:Pos,D p.of/\pl p=U z) (F: ∀i j z,src i=U z->src j=U z->i=j)
  (Q:el.length=l.length) (G: ∀(i:Nat) (e:List AV) (v:(sn c hd.A).den),el[i]?=U e->l[i]?=U v-> ∃d r,e=d++[r]/\CC d (hd.A.enc (da c hd.A v))/\
   ((∃y el',src i=U y/\r= .ref y 0 (ow c hd.A v).length/\H'[y]?=U (U ⟨c.width,el'⟩)/\Rows el' c (ow c hd.A v))\/(hd.nn=zj/\src i=zz/\ow c hd.A v=[]/\r= .emp))):
  ∃P,ib Fr H0 X' P H'/\Ext X pl X' P/\P (.m X.length)=U H.length:=by
 classical
 let P:Pl:=λq=>if q.of=X.length then(match q with| .m _=>U H.length| .n _ j=>src j)else if D q.of then zz else pl q
 have R:P (.m X.length)=U H.length:=if_pos rfl;have S: ∀j,P (.n X.length j)=src j:=λj=>if_pos rfl;have pd: ∀q:Pos,q.of≠X.length->D q.of->P q=none:=λq h1 h2=>by simp only[P,if_neg h1,if_pos h2]
 have T: ∀q:Pos,q.of≠X.length-> ¬D q.of->P q=pl q:=λq h1 h2=>by simp only[P,if_neg h1,if_neg h2]
 have a2: ∀{q:Pos} {z},pl q=U z->q.of<X.length:=λ{q z} h=>by
  have:=M.own q z h;cases q with
  |m a=>obtain⟨o,h⟩:=this;exact ki h
  |n a i=>obtain⟨_,_,_,_,_,h,_⟩:=this;exact ki h
 have I:Ext X pl X' P:=by
  refine⟨by omega,λb g=> ?_⟩;by_cases e:D b
  .exact .inl (C b g e)
  .rw[E b g e];cases h:b_ X b with
   |none=>simp
   |some o=>exact .inr ⟨o,o,rfl,rfl,rfl,rfl,T _ (by simp only[Pos.of];omega) e,rfl,λhd' c' v' J l' e'=>⟨hd',v',J,l',e',.inr ⟨rfl,λh=>⟨h,rfl,λj=>⟨rfl,T _ (by simp only[Pos.of];omega) e⟩⟩⟩⟩⟩
 have K: ∀{p:Pos} {z},(p.of=X.length\/D p.of)->P p=U z->(p= .m X.length/\z=H.length)\/ ∃j,p= .n X.length j/\src j=U z:=by
  intro p z g k;by_cases e:p.of=X.length
  .cases p with
   |m b=>simp only[Pos.of]at e;subst e;rw[R]at k;injection k with k;exact .inl ⟨rfl,k.symm⟩
   |n b j=>simp only[Pos.of]at e;subst e;rw[S]at k;exact .inr ⟨j,rfl,k⟩
  .rw[pd p e (g.resolve_left e)]at k;cases k
 have L: ∀j z,src j=U z->z<H.length:=λj z h=>by
  obtain⟨_,p,_,hp⟩:=w j z h;exact M.bd hp
 refine⟨P,M.build (λb=>b=X.length\/D b) I (λb g=> ?_) (λp g=>T p (λe=>g (.inl e)) (λe=>g (.inr e))) (λp z g k=>hH p z (λe=>g (.inr e)) k) (λb o g B=> ?_) (λp z g k=> ?_) (λp z g k=> ?_) (λp q z g V k W=> ?_) O (by omega),I,R⟩
 .rw[not_or]at g;by_cases e:b<X.length
  .exact E b e g.2
  .rw[rl (by omega),rl (by omega)]
 .by_cases e:b=X.length
  .subst e;rw[A]at B;injection B with B;subst B
   refine⟨H.length,el,R,N,h0,Q,λi e v k1 k2=> ?_⟩;obtain⟨d,r,g1,g2,g3⟩:=G i e v k1 k2;refine⟨d,r,g1,g2,λ_=> ?_⟩;rcases g3 with⟨y,el',Y,Z,f3,f4⟩| ⟨f0,Y,Z,f3⟩
   .exact .inl ⟨y,el',(S i).trans Y,Z,f3,f4⟩
   .exact .inr ⟨f0,(S i).trans Y,Z,f3⟩
  .have hl:=ki B;rw[C b (by omega) (g.resolve_left e)]at B;cases B
 .rcases K g k with⟨rfl,rfl⟩| ⟨j,rfl,h⟩
  .exact⟨_,A⟩
  .exact⟨_,_,_,_,_,A,(w j z h).1,by simp⟩
 .rcases K g k with⟨rfl,rfl⟩| ⟨j,rfl,h⟩
  .exact .inr (jG _)
  .obtain⟨_,p,h1,h2⟩:=w j z h;exact .inl ⟨p,h2,.inr h1⟩
 .rcases K g k with⟨rfl,rfl⟩| ⟨j,rfl,h⟩<;>rcases K V W with⟨rfl,J⟩| ⟨j',rfl,J⟩
  .rfl
  .have:=L _ _ J;omega
  .have:=L _ _ h;omega
  .rw[F _ _ _ h J]
theorem wY{a:Nat}{hd:Hd}{c:Cs}{g:Option Nat}{i:Nat}{e:List AV}{v:(sn c hd.A).den}(h:wV pl H a hd c g i e v)(k:g≠U i): ∃d r,e=d++[r]/\CC d (hd.A.enc (da c hd.A v))/\
   ((∃y el',pl (.n a i)=U y/\r= .ref y 0 (ow c hd.A v).length/\H[y]?=U (U ⟨c.width,el'⟩)/\Rows el' c (ow c hd.A v))\/(hd.nn=zj/\pl (.n a i)=zz/\ow c hd.A v=[]/\r= .emp)):=by
 obtain⟨d,r,h1,h2,p⟩:=h;exact⟨d,r,h1,h2,p k⟩
theorem YsU(k:ib Fr H0 X pl H){a:Nat}{hd:Hd}{c:Cs}{V:Nat}{d:Option Nat}{l:List (sn c hd.A).den}(p:b_ X a=U (.fm hd c V d l)){i:Nat}(g:l.length<=i\/d=U i):pl (.n a i)=none:=by
 cases h:pl (.n a i)with
 |none=>rfl
 |some z=>
  rcases yV k p h rfl with e| ⟨j,e,h1,h2⟩
  .cases e
  .injection e with _ e;subst e
   rcases g with g|g
   .omega
   .exact absurd g h2
theorem KV{c:Cs}{l:List c.den}{i:Nat}(h:i<l.length):l[i]?=U (lX c l i):=by
 simp[lX,List.getD,h]
theorem YsV{c:Cs}{l:List c.den}{i:Nat}(h:l.length<=i):lX c l i=c.qC:=by
 simp[lX,List.getD,h]
theorem YsW{hd:Hd}{c:Cs}{l:List (sn c hd.A).den}{i:Nat}(h:l.length<=i):kG hd c l i=[]:=by
 unfold kG;rw[YsV h,XT]
theorem wZ(hd:Hd)(c:Cs)(l:List (sn c hd.A).den)(i:Nat)(v:List c.den):(kV hd c l i v).length=l.length:=List.length_set
theorem Yi(hd:Hd)(c:Cs)(l:List (sn c hd.A).den)(i:Nat)(d:hd.A.den):(sr hd c l i d).length=l.length:=List.length_set
theorem Yj{c:Cs}{l:List c.den}{i:Nat}(j:Nat)(v:c.den)(h:i<l.length):lX c (l.set i v) j=if j=i then v else lX c l j:=by
 unfold lX;by_cases e:j=i
 .subst e;simp[List.getD,h]
 .simp[List.getD,mR (Ne.symm e),e]
theorem YsX{hd:Hd}{c:Cs}{l:List (sn c hd.A).den}{i:Nat}{v:List c.den}(h:i<l.length)(j:Nat):kG hd c (kV hd c l i v) j=if j=i then v else kG hd c l j:=by
 unfold kG kV;rw[Yj j _ h];by_cases e:j=i
 .rw[if_pos e,if_pos e,ui]
 .rw[if_neg e,if_neg e]
theorem YsY{hd:Hd}{c:Cs}{l:List (sn c hd.A).den}{i:Nat}{d:hd.A.den}(h:i<l.length)(j:Nat):kG hd c (sr hd c l i d) j=kG hd c l j:=by
 unfold sr;rw[kG,Yj j _ h];by_cases e:j=i
 .rw[if_pos e,ui,e]
 .rw[if_neg e];rfl
theorem E'{A:Cs}{nn:Bool}{el:List (List AV)}:(Hd.rw A nn).obj el=⟨A.width+1,el⟩:=rfl
theorem YsZ(w:ib Fr H0 X pl H){a x m y i:Nat}{A:Cs}{nn:Bool}{c:Cs}{V:Nat}{g:Option Nat}{l:List (sn c A).den}{L:List c.den}{el:List (List AV)}{e0:List AV}
  (D:b_ X a=U (.fm (.rw A nn) c V g l)) (Z:pl (.m a)=U x) (J:b_ X m=U (.sq c L)) (p:pl (.m m)=U y) (C:m≠a) (M:i<l.length) (hh:g=zz\/g=U i) (hx:H[x]?=U (U ⟨A.width+1,el⟩)) (N:el[i]?=U e0):
  ∃P,ib Fr H0 (hU (hU X m zz) a (U (.fm (.rw A nn) c (V+1) zz (kV (.rw A nn) c l i L)))) P (H.set x (U ⟨A.width+1,el.set i (iK e0 A.width [.ref y 0 L.length])⟩))/\
   Ext X pl (hU (hU X m zz) a (U (.fm (.rw A nn) c (V+1) zz (kV (.rw A nn) c l i L)))) P:=by
 have a0:=ki D;have O:=ki J;obtain⟨x',a1,h1,h2,h3,h4,h6⟩:=w.obj a _ D;rw[Z]at h1;injection h1 with h1;subst h1
 rw[hx]at h2;injection h2 with h2;injection h2 with h2;injection h2 with _ h2;subst h2
 obtain⟨y',R,G,g2,g3,g4⟩:=w.obj m _ J;rw[p]at G;injection G with G;subst G
 obtain⟨P,q,K,_⟩:=KU w (m:=m) (hd':=.rw A nn) (ver':=V+1) (l':=kV (.rw A nn) c l i L) (el:=el.set i (iK e0 A.width [.ref y 0 L.length])) (X':=hU (hU X m zz) a (U (.fm (.rw A nn) c (V+1) zz (kV (.rw A nn) c l i L))))
  (src:=λj=>if j=i then U y else pl (.n a j)) D Z (.inr ⟨by rw[nt _ (Ne.symm C)];exact oV _ O,L,J⟩) (by rw[km,km]) (oV _ (by rw[km];omega)) (λb h1 h2=>by rw[nt _ (Ne.symm h1),nt _ (Ne.symm h2)]) (by omega)
  (by simp only[lK];exact wZ _ _ _ _ _) (by simp only[iz];exact congrArg U (wZ _ _ _ _ _)) h3 (λj z B=>by
   by_cases e:j=i
   .rw[if_pos e]at B;injection B with B;subst B
    exact⟨by rw[wZ];omega,.inr ⟨C,p⟩⟩
   .rw[if_neg e]at B;refine⟨?_,.inl ⟨j,B⟩⟩;rcases yV w D B rfl with e| ⟨j',e,h,_⟩
    .cases e
    .injection e with _ e;subst e;rw[wZ];exact h) (λj k z h1 h2=>by
   by_cases E:j=i<;>by_cases F:k=i
   .rw[E,F]
   .rw[if_pos E]at h1;rw[if_neg F]at h2;injection h1 with h1;subst h1;have:=w.inj _ _ _ h2 p;cases this
   .rw[if_neg E]at h1;rw[if_pos F]at h2;injection h2 with h2;subst h2;have:=w.inj _ _ _ h1 p;cases this
   .rw[if_neg E]at h1;rw[if_neg F]at h2;have:=w.inj _ _ _ h1 h2;injection this) (by rw[List.length_set,wZ];exact h4) (by
  intro j e v q K;by_cases I:j=i
  .subst I;have S:j<el.length:=by rw[h4];exact M
   rw[o_ S]at q;injection q with q;subst q
   unfold kV at K;rw[o_ M]at K;injection K with K;subst K
   obtain⟨d,r,T,Q,_⟩:=h6 j e0 _ N (KV M);have W:d.length=A.width:=by rw[Q.1,rJ]
   refine⟨d,.ref y 0 L.length,?_,?_,.inl ⟨y,R,if_pos rfl,?_,g2,?_⟩⟩
   .subst T;unfold iK;rw[<-W];simp
   .rw[Av];exact Q
   .rw[ui]
   .rw[ui];exact g4
  .unfold kV at K;rw[mR (Ne.symm I)]at q K;have Y:g≠U j:=by
    rcases hh with h|h<;>rw[h]<;>simp;exact λe=>I e.symm
   obtain⟨d,r,T,Q,q3⟩:=wY (h6 j e v q K) Y;exact⟨d,r,T,Q,by rw[if_neg I];exact q3⟩)
 exact⟨P,q,K⟩
theorem Ys0(w:ib Fr H0 X pl H){a x i:Nat}{A:Cs}{c:Cs}{V:Nat}{l:List (sn c A).den}{el:List (List AV)}{e0:List AV}
  (y:b_ X a=U (.fm (.rw A zj) c V zz l)) (J:pl (.m a)=U x) (B:i<l.length) (P:H[x]?=U (U ⟨A.width+1,el⟩)) (C:el[i]?=U e0):
  ∃p,ib Fr H0 (hU X a (U (.fm (.rw A zj) c (V+1) zz (kV (.rw A zj) c l i [])))) p (H.set x (U ⟨A.width+1,el.set i (iK e0 A.width [.emp])⟩))/\
   Ext X pl (hU X a (U (.fm (.rw A zj) c (V+1) zz (kV (.rw A zj) c l i [])))) p:=by
 have D:=ki y;obtain⟨W,R,h1,h2,S,L,M⟩:=w.obj a _ y;rw[J]at h1;injection h1 with h1;subst h1
 rw[P]at h2;injection h2 with h2;injection h2 with h2;injection h2 with _ h2;subst h2
 obtain⟨p,g,K,_⟩:=KU w (m:=a) (hd':=.rw A zj) (ver':=V+1) (l':=kV (.rw A zj) c l i []) (el:=el.set i (iK e0 A.width [.emp])) (X':=hU X a (U (.fm (.rw A zj) c (V+1) zz (kV (.rw A zj) c l i []))))
  (src:=λj=>if j=i then zz else pl (.n a j)) y J (.inl rfl) (km _ _ _) (oV _ D) (λb h1 _=>by rw[nt _ (Ne.symm h1)]) (by omega)
  (by simp only[lK];exact wZ _ _ _ _ _) (by simp only[iz];exact congrArg U (wZ _ _ _ _ _)) S (λj z q=>by
   by_cases e:j=i
   .rw[if_pos e]at q;cases q
   .rw[if_neg e]at q;refine⟨?_,.inl ⟨j,q⟩⟩;rcases yV w y q rfl with e| ⟨Y,e,h,_⟩
    .cases e
    .injection e with _ e;subst e;rw[wZ];exact h) (λj k z h1 h2=>by
   by_cases N:j=i
   .rw[if_pos N]at h1;cases h1
   .by_cases O:k=i
    .rw[if_pos O]at h2;cases h2
    .rw[if_neg N]at h1;rw[if_neg O]at h2;have:=w.inj _ _ _ h1 h2;injection this) (by rw[List.length_set,wZ];exact L) (by
  intro j e v g K;by_cases E:j=i
  .subst E;have F:j<el.length:=by rw[L];exact B
   rw[o_ F]at g;injection g with g;subst g
   unfold kV at K;rw[o_ B]at K;injection K with K;subst K
   obtain⟨d,r,G,Q,_⟩:=M j e0 _ C (KV B);have I:d.length=A.width:=by rw[Q.1,rJ]
   refine⟨d,.emp,?_,?_,.inr ⟨rfl,if_pos rfl,?_,rfl⟩⟩
   .subst G;unfold iK;rw[<-I];simp
   .rw[Av];exact Q
   .rw[ui]
  .unfold kV at K;rw[mR (Ne.symm E)]at g K;obtain⟨d,r,G,Q,T⟩:=wY (M j e v g K) (by simp);exact⟨d,r,G,Q,by rw[if_neg E];exact T⟩)
 exact⟨p,g,K⟩
theorem OW(J:ib Fr H0 X pl H){a:Nat}{hd:Hd}{c:Cs}{V:Nat}{d:Option Nat}{l l':List (sn c hd.A).den}(K:b_ X a=U (.fm hd c V zz l)){H':ic}(W:H'.length=H.length)(B:l'.length=l.length)
  (L:d=zz-> ∀i,(kG hd c l' i).length=(kG hd c l i).length) {P:Pl} (y: ∀p:Pos,(∀i,d=U i->p≠ .n a i)->P p=pl p) (M: ∀i,d=U i->P (.n a i)=zz)
  (hH: ∀(p:Pos) z,p.of≠a->pl p=U z->H'[z]?=H[z]?) (N: ∀z,Fr z->H'[z]?=H[z]?) (O:Ext X pl (hU X a (U (.fm hd c V d l'))) P->OR (hU X a (U (.fm hd c V d l'))) P H' a (.fm hd c V d l')):
  ib Fr H0 (hU X a (U (.fm hd c V d l'))) P H'/\Ext X pl (hU X a (U (.fm hd c V d l'))) P:=by
 have Q:=ki K;have g:b_ (hU X a (U (.fm hd c V d l'))) a=U (.fm hd c V d l'):=oV _ Q;have w: ∀b,b≠a->b_ (hU X a (U (.fm hd c V d l'))) b=b_ X b:=λb h=>nt _ (Ne.symm h);have C: ∀p:Pos,p.of≠a->P p=pl p:=λp h=>y p λi _ e=>h (by subst e;rfl);have R:P (.m a)=pl (.m a):=y _ λi _ e=>by cases e
 have A: ∀{p:Pos} {z},P p=U z->pl p=U z/\ ∀i,d=U i->p≠ .n a i:=by
  intro p z h;have G: ∀i,d=U i->p≠ .n a i:=λi hi e=>by subst e;rw[M i hi]at h;cases h
  exact⟨by rw[<-y p G];exact h,G⟩
 have D:Ext X pl (hU X a (U (.fm hd c V d l'))) P:=by
  refine⟨by rw[km];omega,λb k=> ?_⟩;by_cases F:b=a
  .subst F;refine .inr ⟨_,_,K,g,?_,?_,R,rfl,λa0 c1 v1 h1 l1 e=> ?_⟩
   .cases hd<;>simp[lK,B]
   .cases hd<;>simp[iz,B]
   .injection e with e0 F e2 e3 S
    subst e0;subst F;subst e2;subst e3;have S:=eq_of_heq S;subst S;exact⟨_,_,_,_,rfl,.inr ⟨rfl,λY=>⟨rfl,B,λi=>⟨L Y i,y _ λj Z=>by rw[Y]at Z;cases Z⟩⟩⟩⟩
  .rw[w b F];cases h:b_ X b with
   |none=>simp
   |some o=>exact .inr ⟨o,o,rfl,rfl,rfl,rfl,C (.m b) F,rfl,λhd' c' v' h' l' e=>⟨hd',v',h',l',e,.inr ⟨rfl,λh=>⟨h,rfl,λj=>⟨rfl,C (.n b j) F⟩⟩⟩⟩⟩
 refine⟨J.build (λb=>b=a) D (λb k=>w b k) (λp k=>C p k) (λp z k E=>hH p z k E) (λb o k I=> ?_) (λp z k E=> ?_) (λp z k E=>.inl ⟨p,(A E).1,k⟩) (λp q z _ _ E T=>J.inj _ _ _ (A E).1 (A T).1) N (by omega),D⟩
 .subst k;rw[g]at I;injection I with I;subst I
  exact O D
 .obtain⟨h1,h2⟩:=A E;rcases yV J K h1 k with rfl| ⟨j,rfl,k1,_⟩
  .exact⟨_,g⟩
  .exact⟨_,_,_,_,_,g,by omega,λe=>h2 j e rfl⟩
theorem Yk(A:ib Fr H0 X pl H){a i:Nat}{hd:Hd}{c:Cs}{V:Nat}{l:List (sn c hd.A).den}(E:b_ X a=U (.fm hd c V zz l)){H':ic}(w:H'.length=H.length)
  (G: ∀z,pl (.n a i)≠U z->H'[z]?=H[z]?):
  ib Fr H0 (hU X a (U (.fm hd c V (U i) l))) (iF pl (.n a i) zz) H'/\Ext X pl (hU X a (U (.fm hd c V (U i) l))) (iF pl (.n a i) zz):=by
 have k: ∀{p:Pos} {z},p≠ .n a i->pl p=U z->H'[z]?=H[z]?:=λh1 h2=>G _ (λe=>h1 (A.inj _ _ _ h2 e));have g: ∀p:Pos,p≠ .n a i->iF pl (.n a i) zz p=pl p:=λp h=>by unfold iF;simp_all
 refine OW A E w rfl (λh=>by cases h) (λp h=>g p (h i rfl)) (λj h=>by injection h with h;subst h;unfold iF;simp) (λp z h B=>k (λe=>h (by subst e;rfl)) B) (λz B=>G z (λe=>A.nU _ _ e B)) (λ_=> ?_);obtain⟨I,el,h1,h2,J,K,L⟩:=A.obj a _ E;refine⟨I,el,(g _ (λe=>by cases e)).trans h1,(k (λe=>by cases e) h1).trans h2,J,K,λj e v M N=> ?_⟩;obtain⟨d,r,Q,O,P⟩:=L j e v M N;refine⟨d,r,Q,O,λR=> ?_⟩;have q:(Pos.n a j:Pos)≠ .n a i:=λe=>by injection e with _ e;exact R (by rw[e])
 rcases P (by simp)with⟨y,el',F,C,D,S⟩| ⟨T,F,C,D⟩
 .exact .inl ⟨y,el',(g _ q).trans F,C,(k q F).trans D,S⟩
 .exact .inr ⟨T,(g _ q).trans F,C,D⟩
theorem Ys1(w:ib Fr H0 X pl H){a i y:Nat}{hd:Hd}{c:Cs}{V:Nat}{l:List (sn c hd.A).den}(N:b_ X a=U (.fm hd c V zz l))(D:i<l.length)(q:pl (.n a i)=U y){L:List c.den}(A:L.length=(kG hd c l i).length)
  {el:List (List AV)} (B:Rows el c L):
  ib Fr H0 (hU X a (U (.fm hd c V zz (kV hd c l i L)))) pl (H.set y (U ⟨c.width,el⟩))/\Ext X pl (hU X a (U (.fm hd c V zz (kV hd c l i L)))) pl:=by
 have g: ∀{p:Pos} {z},p≠ .n a i->pl p=U z->(H.set y (U ⟨c.width,el⟩))[z]?=H[z]?:=λh1 h2=>by
  rw[mR (λe=>h1 (by subst e;exact w.inj _ _ _ h2 q))]
 refine OW w N (by simp) (wZ _ _ _ _ _) (λ_ j=> ?_) (λ_ _=>rfl) (λ_ h=>by cases h) (λp z h O=>g (λe=>h (by subst e;rfl)) O) (λz O=> ?_) (λ_=> ?_)
 .rw[YsX D];split
  .rename_i e;rw[A,e]
  .rfl
 .rw[mR (λe=>w.nU _ _ q (by simp_all))]
 .obtain⟨T,E,h1,h2,W,Z,P⟩:=w.obj a _ N;refine⟨T,E,h1,(g (λe=>by cases e) h1).trans h2,W,by rw[wZ];exact Z,λj e v R k=> ?_⟩;by_cases G:j=i
  .subst G;unfold kV at k;rw[o_ D]at k;injection k with k;subst k
   obtain⟨d,r,Q,I,J⟩:=P j e _ R (KV D);refine⟨d,r,Q,by rw[Av];exact I,λ_=>.inl ?_⟩;rcases J (by simp)with⟨Y,el',F,C,K,S⟩| ⟨f0,F,C,K⟩
   .rw[q]at F;injection F with F;subst F
    refine⟨y,el,q,?_,o_ (w.bd q),by rw[ui];exact B⟩;rw[ui,C,A];rfl
   .rw[q]at F;cases F
  .unfold kV at k;rw[mR (Ne.symm G)]at k;obtain⟨d,r,Q,I,J⟩:=P j e v R k;refine⟨d,r,Q,I,λ_=> ?_⟩;have M:(Pos.n a j:Pos)≠ .n a i:=λe=>by injection e with _ e;exact G e
   rcases J (by simp)with⟨Y,el',F,C,K,S⟩|h
   .exact .inl ⟨Y,el',F,C,(g M F).trans K,S⟩
   .exact .inr h
theorem Ys2(y:ib Fr H0 X pl H){a x i:Nat}{A:Cs}{nn:Bool}{c:Cs}{V:Nat}{l:List (sn c A).den}(R:b_ X a=U (.fm (.rw A nn) c V zz l))(B:pl (.m a)=U x)(C:i<l.length){el:List (List AV)}(Z:H[x]?=U (U ⟨A.width+1,el⟩))
  {d:A.den} {f g:List AV} {r0:AV} (D:el[i]?=U (f++[r0])) (hg:CC g (A.enc d)) (E:f.length=A.width):
  ib Fr H0 (hU X a (U (.fm (.rw A nn) c V zz (sr (.rw A nn) c l i d)))) pl (H.set x (U ⟨A.width+1,el.set i (g++[r0])⟩))/\Ext X pl (hU X a (U (.fm (.rw A nn) c V zz (sr (.rw A nn) c l i d)))) pl:=by
 have q: ∀{p:Pos} {z},p≠ .m a->pl p=U z->(H.set x (U ⟨A.width+1,el.set i (g++[r0])⟩))[z]?=H[z]?:=λh1 h2=>by
  rw[mR (λe=>h1 (by subst e;exact y.inj _ _ _ h2 B))]
 refine OW (hd:=.rw A nn) y R (by simp) (Yi _ _ _ _ _) (λ_ j=>by rw[YsY (hd:=.rw A nn) C]) (λ_ _=>rfl) (λ_ h=>by cases h) (λp z h S=>q (λe=>h (by subst e;rfl)) S) (λz S=> ?_) (λ_=> ?_)
 .rw[mR (λe=>y.nU _ _ B (by simp_all))]
 .obtain⟨x',a0,h1,h2,h3,T,W⟩:=y.obj a _ R;rw[B]at h1;injection h1 with h1;subst h1
  rw[Z]at h2;injection h2 with h2;injection h2 with h2;injection h2 with _ h2;subst h2
  refine⟨x,_,B,o_ (y.bd B),h3,by rw[List.length_set,Yi];exact T,λj e v K k=> ?_⟩;by_cases w:j=i
  .subst w;have G:j<el.length:=by rw[T];exact C
   rw[o_ G]at K;injection K with K;subst K
   unfold sr at k;rw[o_ C]at k;injection k with k;subst k
   obtain⟨d0,r,Q,I,J⟩:=W j _ _ D (KV C);have L:d0.length=A.width:=by rw[I.1,rJ]
   obtain⟨rfl,M⟩:=List.append_inj Q (by rw[E,L]);injection M with M;subst M
   refine⟨g,r0,rfl,by rw[Av];exact hg,λw=> ?_⟩;rw[ui];rcases J w with⟨Y,el',F,N,O,P⟩|h
   .exact .inl ⟨Y,el',F,N,(q (λe=>by cases e) F).trans O,P⟩
   .exact .inr h
  .unfold sr at k;rw[mR (Ne.symm w)]at K k;obtain⟨d,r,Q,I,J⟩:=W j e v K k;refine⟨d,r,Q,I,λw=> ?_⟩;rcases J w with⟨Y,el',F,N,O,P⟩|h
   .exact .inl ⟨Y,el',F,N,(q (λe=>by cases e) F).trans O,P⟩
   .exact .inr h
end
end Go.Abs
namespace Go.Abs
open Go Go.RowKit
def Yl(P:List (Nat×Nat×iq)):List (Nat×Nat×iY):=P.map λp=>(p.1,p.2.1,p.2.2.er)
def OX(P:List (Nat×iq)):List (Nat×iY):=P.map λp=>(p.1,p.2.er)
def mf:Option IntKind->Bool
 |none=>zZ
 |some _=>zj
def G4(g:Bool)(V:Cs):AV:=
 match g with
 |true=>.agg (V.kS.map zc)
 |false=>match V.kS.map zc with
  | [x]=>x
  |_=>.u
def qE.w_:qE->jA
 | .mm mx xs=>.pv (.mm mx) (xs.map iq.er)
 | .emz x L h mx=>.pv .emz [x.er,L.er,h.er,mx.er]
 | .sl3 es x L h mx=>.pv (.sl3 es) [x.er,L.er,h.er,mx.er]
 | .mv x=>.mv x.er
 | .mvp x=>.mv x.er
 | .pick c a b=>.pick c.er a.er b.er
 | .box x=>.box x.er
 | .alloc z=>.alloc (z.map K1.val)
 | .build z p=>.build (z.map K1.val) (Yl p)
 | .bsl c n p=>.bsl c.width c.kS n (OX p)
 | .bslT c n p=>.bsl c.width c.kS n (OX p)
 | .load g n x=>.load g n x.er
 | .loadR g n x=>.loadR g n x.er
 | .store n x y=>.store n x.er y.er
 | .nilc x=>.nilc x.er
 | .bin q x y=>.bin q x.er y.er
 | .beq N x y=>.beq N x.er y.er
 | .eqa N K x y=>.eqa N K x.er y.er
 | .not x=>.not x.er
 | .neg x=>.neg x.er
 | .conv k x=>.conv k x.er
 | .cvs x=>.cvs x.er
 | .fad O x=>.fad O x.er
 | .fld g O n x=>.fld g O n x.er
 | .iad es x i=>.iad es x.er i.er
 | .iada es n x i=>.iada es n x.er i.er
 | .idx x i=>.idx x.er i.er
 | .slcS x L h=>.slcS x.er (L.map iq.er) (h.map iq.er)
 | .slcR es x L h=>.slcR es x.er (L.map iq.er) (h.map iq.er)
 | .ext x i=>.ext x.er i
 | .len x=>.len x.er
 | .lenS x=>.lenS x.er
 | .app c _ s x=>.app c.width s.er x.er
 | .mksl c _ n C=>.mksl c.width c.kS n.er C.er
 | .call f xs=>.call f (xs.map iq.er)
 | .callF f xs=>.call f (xs.map iq.er)
 | .dyn x xs=>.dyn x.er (xs.map iq.er)
 | .dynP x xs=>.dynP x.er (xs.map iq.er)
 | .callN f xs d=>.callN f (xs.map iq.er) d
 | .mkf f xs=>.mkf f (xs.map iq.er)
 | .lit c xs=>.px (.lit c.width) (xs.map iq.er)
 | .appD c s x=>.px (.appD c.width) [s.er,x.er]
 | .apps s x=>.px .apps [s.er,x.er]
 | .appb s x=>.px .appb [s.er,x.er]
 | .appDb s x=>.px .appDb [s.er,x.er]
 | .litb xs=>.px .litb (xs.map iq.er)
 | .bstr x=>.px .bstr [x.er]
 | .bld=>.px .bld []
 | .sbyt x=>.pv .sbyt [x.er]
 | .isp N x=>.pv (.isp N) [x.er]
 | .isi N x=>.pv (.isi N) [x.er]
 | .ixa _ n x i=>.px (.ixa n) [x.er,i.er]
 | .add64 xs=>.pv .add64 (xs.map iq.er)
 | .sub64 xs=>.pv .sub64 (xs.map iq.er)
 | .mkm o t V A=>.px (.mkm (nH A) (iE o t V).width) []
 | .mkmF o c=>.px (.mkm 1 3) []
 | .mget o t V A ok m k=>.px (.mget (mf o) (nH A) ok) [m.er,k.er,.c (G4 A (.cons t V))]
 | .mput o t V A m k v=>.px (.mput (mf o) (nH A) (iE o t V).width) [m.er,k.er,v.er]
 | .mdel o t V m k=>.px (.mdel (mf o) (iE o t V).width) [m.er,k.er]
 | .mlen m=>.px .mlen [m.er]
 | .mrng m=>.px .mrng [m.er]
 | .ment _ _ _ _ I=>.px .ment [I.er]
 | .mnxt I=>.px .mnxt [I.er]
 | .cpy c d s=>.px (.cpy c.width) [d.er,s.er]
section
variable{Fr:Nat->Prop}{H0:ic}{X:hZ}{pl:Pl}{H:ic}{β:Type}{r:β}{env:jO}{ae:Env}
def oW(Fr:Nat->Prop)(H0:ic)(X:hZ)(pl:Pl)(H:ic)(v:TV)(X':hZ)(V:AV)(us:List jy):Prop:=
 ∃p,TR X' p v V/\ (ib Fr H0 X' p (rI H us)/\Ext X pl X' p)/\
  (X'.length=X.length\/(X'.length=X.length+1/\p (.m X.length)=U H.length))
theorem oW.same(d:ib Fr H0 X pl H){v:TV}{V:AV}(h:TR X pl v V):oW Fr H0 X pl H v X V []:=⟨pl,h,⟨d,Ext.refl _ _⟩,.inl rfl⟩
theorem qH{x:Nat}{o:iu}(h:H[x]?=U (U o)){K:iu->Prop}(k:K o):qW (hf H) x K:=⟨o,h,k⟩
theorem tH{c:Cs}{l:List c.den}{i:Nat}(h:i<l.length):l[i]?=U (lX c l i):=by
 simp[lX,List.getD,h]
theorem iX(s:ByteArray):(iM s).length=s.size:=by
 simp[iM,xV]
theorem Ys3{s:ByteArray}{i:Nat}(h:i<s.size):(iM s)[i]?=U [.v (.int .u8 (ig s i))]:=by
 have H:i<s.data.size:=h;unfold iM ig;rw[xV,jt,Array.getElem?_toList,rH H,mN,mI,rH H];rfl
theorem AF{a i j:Nat}{A:AV}{o:il}(d:b_ X a=U o)(h:TR X pl (.ptr a i j) A): ∃x,A= .ptr x i j/\pl (.m a)=U x/\i<lK o:=by
 cases h with
 |nM _ _ _ _ hd=>simp_all
 |ptr _ _ _ x o' H g p=>simp_all
theorem py{a:Nat}{A:AV}{o:il}(d:b_ X a=U o)(h:TR X pl (.ref a) A): ∃x n,A= .ref x 0 n/\pl (.m a)=U x/\iz o=U n:=by
 cases h with
 |nA _ _ hd=>simp_all
 |ref _ x o' n H g p=>simp_all
theorem E_{a:Nat}{m:Int}{A:AV}{o:il}(d:b_ X a=U o)(h:TR X pl (.pre a m) A): ∃x n,A= .ref x 0 m.toNat/\pl (.m a)=U x/\iz o=U n/\0<=m/\m.toNat<=n:=by
 cases h with
 |og _ _ _ hd=>simp_all
 |pre _ x _ o' n H g p h0 k=>simp_all
theorem Co{a V i:Nat}{A:AV}{hd:Hd}{c:Cs}{l:List (sn c hd.A).den}(d:b_ X a=U (.fm hd c V zz l))(h:TR X pl (.sub a V i) A):
  (∃y,A= .ref y 0 (kG hd c l i).length/\i<l.length/\pl (.n a i)=U y)\/(A= .emp/\pl (.n a i)=zz/\kG hd c l i=[]):=by
 cases h with
 |su _ _ _ _ hd=>
  obtain⟨hd',c',k,q,l',e,hd⟩:=hd _ d;injection e with e0 e1 e2 E
  subst e2;subst E;rcases hd with hd|hd
  .omega
  .exact absurd rfl hd.2
 |sub _ _ _ y hd' c' l' H g p=>
  rw[d]at H;injection H with H;injection H with e0 e1 _ _ E
  subst e0;subst e1;have E:=eq_of_heq E;subst E;exact .inl ⟨y,rfl,g,p⟩
 |tD _ _ _ hd' c' l' H p h0=>
  rw[d]at H;injection H with H;injection H with e0 e1 _ _ E
  subst e0;subst e1;have E:=eq_of_heq E;subst E;exact .inr ⟨rfl,p,h0⟩
theorem KW{a V i k j:Nat}{A:AV}{hd:Hd}{c:Cs}{l:List (sn c hd.A).den}(g:b_ X a=U (.fm hd c V zz l))(h:TR X pl (.nq a V i k j) A):
  ∃y,A= .ptr y k j/\i<l.length/\k< (kG hd c l i).length/\pl (.n a i)=U y:=by
 cases h with
 |tE _ _ _ _ _ _ hd=>
  obtain⟨hd',c',w,z,l',e,hd⟩:=hd _ g;injection e with e0 e1 e2 E
  subst e2;subst E;rcases hd with hd|hd
  .omega
  .exact absurd rfl hd.2
 |nq _ _ _ _ _ y hd' c' l' H p d q=>
  rw[g]at H;injection H with H;injection H with e0 e1 _ _ E
  subst e0;subst e1;have E:=eq_of_heq E;subst E;exact⟨y,rfl,p,d,q⟩
theorem Ys4{a V i:Nat}{hd:Hd}{c:Cs}{l:List (sn c hd.A).den}{e:List AV}(p:b_ X a=U (.fm hd c V zz l))(h:wV pl H a hd c zz i e (lX (sn c hd.A) l i))(w:i<l.length){cs:List TV}(g:cs=cells hd.A (yI hd c l i)++[TV.sub a V i]):CT X pl cs e:=by
 obtain⟨d,r,rfl,h2,z⟩:=h;subst g;refine(yT hd.A _ h2).append (.cons ?_ .nil);rcases z (by simp)with⟨y,el',G,k,q,A⟩| ⟨B,G,k,q⟩
 .rw[k];exact .sub a V i y hd c l p w G
 .rw[q];exact .tD a V i hd c l p G k
theorem G5(k:ib Fr H0 X pl H){a V i y:Nat}{hd:Hd}{c:Cs}{l:List (sn c hd.A).den}(w:b_ X a=U (.fm hd c V zz l))(z:i<l.length)(p:pl (.n a i)=U y): ∃el',H[y]?=U (U ⟨c.width,el'⟩)/\Rows el' c (kG hd c l i):=by
 obtain⟨C,el,h1,h2,D,E,A⟩:=k.obj a _ w;have h:i<el.length:=by omega
 obtain⟨d,r,_,_,q⟩:=A i _ _ (je h) (tH z);rcases q (by simp)with⟨Y,el',g,F,G,B⟩| ⟨_,g,_⟩
 .rw[p]at g;injection g with g;subst g
  exact⟨el',G,B⟩
 .rw[p]at g;cases g
theorem Ym{g:Bool}{n:Nat}{x:TV}{O:AV}{K:TV->hZ->Option β}(h:KK g n x X K=U r)(F:TR X pl x O)(P:ib Fr H0 X pl H){KA:AV->Prop}
  (Q: ∀v R,K v X=U r->TR X pl v R->KA R):
  (match(generalizing:=false) O with
   | .rp cs=>sQ g n cs KA
   | .ptr a i j=>qW (hf H) a λo=> ∃e,o.el[i]?=U e/\sQ g n (e.drop j) KA
   |_=>False):=by
 have L: ∀{cs:List TV} {as:List AV},(match wP g n cs with|some a=>K a X|none=>zz)=U r->CT X pl cs as->sQ g n as KA:=by
  intro cs as h G;split at h
  .rename_i v W;exact Yc W G (λa Y=>Q v a h Y)
  trivial
 unfold KK at h;split at h
 .cases F with
  |rp _ as Z G=>exact L h ⟨Z,G⟩
 .rename_i a i j;cases z:b_ X a with
  |none=>simp_all
  |some o=>
   cases F with
   |nM _ _ _ _ hd=>simp_all
   |ptr _ _ _ x o' q p B=>
    rw[z]at q;injection q with q;subst q
    have w:=P.obj a o z;rw[z]at h;cases o with
    |sq c l=>
     obtain⟨I,el,h1,h2,S,C⟩:=w;rw[B]at h1;injection h1 with h1;subst h1
     simp only[lK]at p;have d:i<el.length:=by rw[C.1];exact p
     refine qH h2 ⟨el[i],je d,L h ?_⟩;exact(yT c _ (C.2 i _ _ (je d) (tH p))).drop j
    |st cs=>
     obtain⟨I,e,h1,h2,S,C⟩:=w;rw[B]at h1;injection h1 with h1;subst h1
     simp only at h;obtain⟨J,M⟩:=iU h;have:=jr J;subst this;exact qH h2 ⟨e,rfl,L M (C.drop j)⟩
    |sb s=>
     obtain⟨I,h1,h2⟩:=w;rw[B]at h1;injection h1 with h1;subst h1
     simp only[lK]at p;simp only at h;split at h
     .exact qH h2 ⟨_,Ys3 p,_,rfl,Q _ _ h (.i _ _)⟩
     trivial
    |fm hd c V D l=>
     cases D with
     |some _=>cases h
     |none=>
     obtain⟨I,el,h1,h2,S,C,h6⟩:=w;rw[B]at h1;injection h1 with h1;subst h1
     simp only at h;obtain⟨e0,h⟩:=iU h;cases hd with
     |mp o n=>cases e0
     |rw A nn=>
     simp only[lK]at p;have d:i<el.length:=by omega
     refine qH h2 ⟨el[i],je d,L h ?_⟩;exact(Ys4 z (h6 i _ _ (je d) (tH p)) p rfl).drop j
 .rename_i a V i k j;split at h
  .rename_i hd c ver' l z;obtain⟨J,M⟩:=iU h;have:=jr J;subst this;obtain⟨y,rfl,p,N,B⟩:=KW z F;obtain⟨el',g3,T⟩:=G5 P z p B;have E:k<el'.length:=by rw[T.1];omega
   exact qH g3 ⟨el'[k],je E,L M ((yT c _ (T.2 k _ _ (je E) (tH N))).drop j)⟩
  trivial
 trivial
theorem Yn{el:List (List AV)}{c:Cs}{l:List c.den}{i:Nat}{e:List AV}{v:c.den}(h:Rows el c l)(d:CC e (c.enc v)):Rows (el.set i e) c (l.set i v):=by
 refine⟨by simp[h.1],λk f w h1 h2=> ?_⟩;by_cases H:k=i
 .grind
 .rw[mR (Ne.symm H)]at h1 h2;exact h.2 k f w h1 h2
theorem Cp{y:TV}{A:AV}{cs:List TV}(h:qe X y=U cs)(H:TR X pl y A){K:List AV->Prop}(k: ∀as,CT X pl cs as->K as):BN A K:=by
 obtain⟨as,h1,h2⟩:=OU h H;exact⟨as,h1,k as h2⟩
theorem Ys5{n:Nat}{x y:TV}{ax ay:AV}{K:TV->hZ->Option β}(h:OD n x y X K=U r)(T:TR X pl x ax)(Q:TR X pl y ay)(I:ib Fr H0 X pl H){KA:AV->List jy->Prop}
  (R: ∀v X' va us,K v X'=U r->oW Fr H0 X pl H v X' va us->KA va us):
  (match(generalizing:=false) ax with
   | .ptr a i j=>qW (hf H) a λo=> ∃e,o.el[i]?=U e/\BN ay λcs=>cs.length=n/\j+n<=e.length/\KA .u [.set a (U ⟨o.es,o.el.set i (iK e j cs)⟩)]
   |_=>False):=by
 unfold OD at h;split at h
 .rename_i a i j;cases C:b_ X a with
  |none=>simp_all
  |some o=>
   obtain⟨x,rfl,B,D⟩:=AF C T;have L:=I.obj a o C;rw[C]at h;cases o with
   |sq c l=>
    obtain⟨x',el,h1,h2,h3,M⟩:=L;rw[B]at h1;injection h1 with h1;subst h1
    simp only[lK]at D h;have G:i<el.length:=by rw[M.1];exact D
    split at h
    .rename_i cs q;obtain⟨E,N⟩:=iU h;simp only[iI]at E;split at N
     .rename_i e' O;have w:=M.2 i _ _ (je G) (tH D);refine qH h2 ⟨el[i],je G,Cp q Q (λas p=>⟨by rw[<-p.1];simp_all,?_,?_⟩)⟩
      .rw[w.1,rJ];simp_all
      .refine R .u _ .u _ N ⟨pl,.u _,?_,.inl (km _ _ _)⟩;exact E9 I C B _ (by simp[lK]) (by simp[iz]) (λ_ _ _ _ _ e=>by cases e) (λ_ _ _ _ _ e=>by cases e) (λT=>⟨x,_,B,o_ (iP.1 h2).1,h3,Yn M (yU O ((yT c _ w).tm p j))⟩)
     trivial
    trivial
   |st ds=>
    obtain⟨x',e,h1,h2,h3,M⟩:=L;rw[B]at h1;injection h1 with h1;subst h1
    simp only at h;split at h
    .rename_i cs q;obtain⟨E,N⟩:=iU h;simp only[iI]at E;have:=jr E.1.1;subst this;have F:=jr E.1.2;have a3:j+n<=ds.length:=by simp_all
     refine qH h2 ⟨e,rfl,Cp q Q (λas p=>⟨by rw[<-p.1];exact F,by rw[<-M.1];omega,?_⟩)⟩;refine R .u _ .u _ N ⟨pl,.u _,?_,.inl (km _ _ _)⟩;have aa:(tm ds j cs).length=ds.length:=by simp[tm];omega
     exact E9 I C B _ rfl rfl (λ_ _ _ _ _ e=>by cases e) (λ_ _ _ _ _ e=>by cases e) (λT=>⟨x,iK e j as,B,by grind,by omega,(M.tm p j).ext T⟩)
    trivial
   |sb s=>cases h
   |fm hd c V J l=>
    obtain⟨x',el,h1,h2,h3,M,h6⟩:=L;rw[B]at h1;injection h1 with h1;subst h1
    simp only at h;have e0:=(iU h).1;replace h:=(iU h).2;cases hd with
    |mp o n=>cases e0
    |rw A nn=>
    simp only[lK]at D;have G:i<el.length:=by omega
    have z:=je G;obtain⟨d,r0,q1,q2,q3⟩:=h6 i _ _ z (tH D);have W:d.length=A.width:=by rw[q2.1,rJ]
    have ab:el[i].length=A.width+1:=by rw[q1];simp[W]
    cases Y:(im j A.width&&im n 1)with
    |true=>
     rw[Y,cond_true]at h;simp only[iI]at Y;have hj:=jr Y.1;subst hj;have F:=jr Y.2;subst F;cases y with
     |ref m=>
      simp only at h;cases Z:im m a with
      |true=>rw[Z]at h;cases h
      |false=>
       rw[Z,cond_false]at h;have a4:m≠a:=λe=>by simp_all
       split at h
       .rename_i c' lm hm;split at h
        .rename_i ac a5;obtain⟨ec,a6⟩:=tG a5;subst ec;subst a6;obtain⟨y,k,rfl,a7,F⟩:=py hm Q;simp only[iz]at F;injection F with F;subst F
         have a1:(J=zz\/J=U i)->K .u (hU (hU X m zz) a (U (.fm (.rw A nn) c' (V+1) zz (kV (.rw A nn) c' l i lm))))=U r->
           qW (hf H) x λo=> ∃e,o.el[i]?=U e/\BN (.ref y 0 lm.length) λcs=>cs.length=1/\A.width+1<=e.length/\KA .u [.set x (U ⟨o.es,o.el.set i (iK e A.width cs)⟩)]:=by
          intro hh hK;obtain⟨P,S,k2⟩:=YsZ I C B hm a7 a4 D hh h2 z;exact qH h2 ⟨el[i],z,[.ref y 0 lm.length],rfl,rfl,by omega,R .u _ .u _ hK ⟨P,.u _,⟨S,k2⟩,.inl (by rw[km,km])⟩⟩
         split at h
         .exact a1 (.inl rfl) h
         .obtain⟨e3,e4⟩:=lA h;exact a1 (.inr (by rw[e3])) e4
        trivial
       trivial
     |e cz=>
      simp only at h;cases nn with
      |true=>cases h
      |false=>
      simp only[Hd.nn,cond_false]at h;split at h
      .cases Q;obtain⟨P,S,k2⟩:=Ys0 I C B D h2 z;exact qH h2 ⟨el[i],z,[.emp],rfl,rfl,by omega,R .u _ .u _ h ⟨P,.u _,⟨S,k2⟩,.inl (km _ _ _)⟩⟩
      .cases h
     |_=>cases h
    |false=>
     rw[Y,cond_false]at h;split at h
     .rename_i cs q;have E:=(iU h).1;replace h:=(iU h).2;simp only[iI]at E;have F:=jr E.1;have a3:j+n<=A.width:=l9 E.2;split at h
      .rename_i dv a8;refine qH h2 ⟨el[i],z,Cp q Q (λas p=>⟨by rw[<-p.1];exact F,by omega,?_⟩)⟩;have ad:as.length=n:=by rw[<-p.1];exact F
       have w:=yU a8 ((yT A _ q2).tm p j);have a0:iK el[i] j as=iK d j as++[r0]:=by
        rw[q1];unfold iK;rw[List.take_append_of_le_length (by omega),List.drop_append_of_le_length (by omega),qS,qS,qS]
       obtain⟨S,k2⟩:=Ys2 (d:=dv) (g:=iK d j as) (f:=d) (r0:=r0) I C B D h2 (by rw[z,q1]) w W;rw[<-a0]at S;exact R .u _ .u _ h ⟨pl,.u _,⟨S,k2⟩,.inl (km _ _ _)⟩
      .cases h
     .cases h
 .rename_i a V i k j;split at h
  .rename_i hd c ver' l C;split at h
   .rename_i cs q;obtain⟨E,N⟩:=iU h;simp only[iI]at E;have:=jr E.1.1;subst this;obtain⟨y',rfl,D,a9,B⟩:=KW C T;split at N
    .rename_i e' O;obtain⟨el',g3,g4⟩:=G5 I C D B;have a2:k<el'.length:=by rw[g4.1];omega
     have w:=g4.2 k _ _ (je a2) (tH a9);refine qH g3 ⟨el'[k],je a2,Cp q Q (λas p=>⟨by rw[<-p.1];simp_all,?_,?_⟩)⟩
     .rw[w.1,rJ];simp_all
     .refine R .u _ .u _ N ⟨pl,.u _,?_,.inl (km _ _ _)⟩;exact Ys1 I C D B (by simp) (Yn g4 (yU O ((yT c _ w).tm p j)))
    trivial
   trivial
  trivial
 trivial
theorem Ys6{es:Nat}{x i:TV}{Q R:AV}{K:TV->hZ->Option β}(h:Ca es x i X K=U r)(C:TR X pl x Q)(G:TR X pl i R)(D:ib Fr H0 X pl H){KA:AV->Prop}
  (F: ∀v S,K v X=U r->TR X pl v S->KA S):
  qV R λn=>(match(generalizing:=false) Q with
   | .rd M l=>M=es/\0<=n/\ ∃e,l[n.toNat]?=U e/\KA (.rp e)
   | .ref a O len=>qW (hf H) a λo=>wd o.es=es/\O+len<=o.el.length/\0<=n/\n<len/\KA (.ptr a (O+n.toNat) 0)
   |_=>False):=by
 unfold Ca at h;split at h
 .rename_i k n;cases G;refine⟨k,n,rfl,?_⟩;split at h
  .rename_i c v;obtain⟨q,w⟩:=iU h;obtain⟨E,z⟩:=lA w;have Y:=jr q;have N:n.toNat<v.length:=by omega
   cases C with
   |l _ _ _ Z=>
    rcases wX Z with⟨rfl,hb⟩| ⟨T,rfl,hl,P⟩
    .have:=congrArg List.length hb;grind
    .simp at hl;have B:n.toNat<T.length:=by omega
     refine⟨Y,E.1,T[n.toNat],je B,F _ _ z ?_⟩;have:=yT (X:=X) (pl:=pl) c (lX c v n.toNat) (P _ _ _ (je B) (by rw[jt,tH N];rfl));exact .rp _ _ this.1 this.2
  .rename_i a;split at h
   .rename_i c l d;obtain⟨q,w⟩:=iU h;obtain⟨E,z⟩:=lA w;obtain⟨x,n',rfl,p,g⟩:=py d C;simp only[iz]at g;injection g with g;subst g
    obtain⟨I,el,h1,h2,J,L⟩:=D.obj a _ d;rw[p]at h1;injection h1 with h1;subst h1
    refine qH h2 ⟨(rW J).trans (jr q),by simp[L.1],E.1,E.2,F _ _ z ?_⟩;rw[mD];exact .ptr a _ 0 x _ d (by simp only[lK];omega) p
   .rename_i A nn c V W l d;obtain⟨q,w⟩:=iU h;obtain⟨E,z⟩:=lA w;obtain⟨x,n',rfl,p,g⟩:=py d C;simp only[iz]at g;injection g with g;subst g
    obtain⟨I,el,h1,h2,J,L,_⟩:=D.obj a _ d;rw[p]at h1;injection h1 with h1;subst h1
    refine qH h2 ⟨(jr q).symm,by show 0+l.length<=el.length;omega,E.1,E.2,F _ _ z ?_⟩;rw[mD];exact .ptr a _ 0 x _ d (by simp only[lK];omega) p
   .rename_i s d;obtain⟨q,w⟩:=iU h;obtain⟨E,z⟩:=lA w;obtain⟨x,n',rfl,p,g⟩:=py d C;simp only[iz]at g;injection g with g;subst g
    obtain⟨I,h1,h2⟩:=D.obj a _ d;rw[p]at h1;injection h1 with h1;subst h1
    refine qH h2 ⟨(jr q).symm,by rw[mD,iX];omega,E.1,E.2,F _ _ z ?_⟩;rw[mD];exact .ptr a _ 0 x _ d (by simp only[lK];omega) p
   trivial
  .rename_i a m;split at h
   .rename_i c l d;obtain⟨q,w⟩:=iU h;obtain⟨E,z⟩:=lA w;obtain⟨x,n',rfl,p,g,h0,hm⟩:=E_ d C;simp only[iz]at g;injection g with g;subst g
    obtain⟨I,el,h1,h2,J,L⟩:=D.obj a _ d;rw[p]at h1;injection h1 with h1;subst h1
    refine qH h2 ⟨(rW J).trans (jr q),by rw[L.1,mD];exact hm,E.1,by omega,F _ _ z ?_⟩;rw[mD];exact .ptr a _ 0 x _ d (by simp only[lK];omega) p
   trivial
  .rename_i a V i;split at h
   .rename_i hd c ver' l d;obtain⟨q,w⟩:=iU h;obtain⟨E,z⟩:=lA w;simp only[iI]at q;have:=jr q.2;subst this;rcases Co d C with⟨y,rfl,G,p⟩| ⟨rfl,_,h0⟩
    .obtain⟨I,el,k1,k2,k3,k4,_⟩:=D.obj a _ d;obtain⟨el',g3,g4⟩:=G5 D d G p;refine qH g3 ⟨(rW k3).trans (jr q.1),by simp[g4.1],E.1,E.2,F _ _ z ?_⟩;rw[mD];exact .nq a _ i _ 0 y hd c l d G (by omega) p
    .rw[h0]at E;simp at E;omega
   trivial
  trivial
 trivial
end
end Go.Abs
namespace Go.Abs
open Go Go.RowKit
section
variable{Fr:Nat->Prop}{H0:ic}{X:hZ}{pl:Pl}{H:ic}
theorem KX: ∀{l ds:List TV} {x:TV},E2 l=U (ds,x)->l=ds++[x]
 | [],_,_,h=>by cases h
 | [a],ds,x,h=>by simp only[E2,Option.some.injEq,Prod.mk.injEq]at h;obtain⟨rfl,rfl⟩:=h;rfl
 |a::b::r,ds,x,h=>by
  simp only[E2]at h;split at h
  .rename_i l' X H;injection h with h;injection h with h1 h2;subst h1;subst h2
   rw[KX (l:=b::r) H];rfl
  .cases h
theorem CT.xa{ds:List TV}{x:TV}{f:List AV}(h:CT X pl (ds++[x]) f): ∃d A,f=d++[A]/\CT X pl ds d/\TR X pl x A:=by
 have g:=h.1;rw[nV,qG]at g;refine⟨f.take ds.length,f[ds.length]'(by omega),?_,⟨by simp;omega,λj c a h1 h2=> ?_⟩,?_⟩
 .apply pT;intro k;by_cases p:k<ds.length
  .rw[ld (by simp;omega),oU,if_pos p]
  .rw[nF (by simp;omega)];by_cases H:k=ds.length
   .subst H;simp[Nat.min_eq_left (show ds.length<=f.length by omega)]
   .rw[qb (by omega),qb (by simp;omega)]
 .rw[oU]at h2;split at h2
  .rename_i q;exact h.2 j c a (by rw[ld q];exact h1) h2
  .cases h2
 .exact h.2 ds.length x _ (by simp) (je (by omega))
theorem OY{e:List TV}{d:AV}(h:TR X pl (.lt [e]) d): ∃f,d= .rd e.length [f]/\CT X pl e f:=by
 cases h with
 |lt es _ A g h0 z H k=>
  match A,g with
  | [f],_=>
    have h1:=z e (pM ..);have h2:=H f (pM ..);subst h1;exact⟨f,rfl,h2.symm,λj c a K p=>k 0 j e f c a rfl rfl K p⟩
theorem Yo{a:Nat}{hd:Hd}{c:Cs}{l:List (sn c hd.A).den}{el:List (List AV)}{src:Nat->Option Nat}{H':ic}{e0:List AV}{V:(sn c hd.A).den}(g:el.length=l.length)(w: ∀(i:Nat) (e:List AV) (v:(sn c hd.A).den),el[i]?=U e->l[i]?=U v->wV pl H a hd c zz i e v)
  (A: ∀j,j<l.length->src j=pl (.n a j)) (B: ∀j z,pl (.n a j)=U z->H'[z]?=H[z]?)
  (h0: ∃d r,e0=d++[r]/\CC d (hd.A.enc (da c hd.A V))/\
   ((∃y el',src l.length=U y/\r= .ref y 0 (ow c hd.A V).length/\H'[y]?=U (U ⟨c.width,el'⟩)/\Rows el' c (ow c hd.A V))\/(hd.nn=zj/\src l.length=zz/\ow c hd.A V=[]/\r= .emp)))
  (i:Nat) (e:List AV) (v:(sn c hd.A).den) (K:(el++[e0])[i]?=U e) (k:(l++[V])[i]?=U v): ∃d r,e=d++[r]/\CC d (hd.A.enc (da c hd.A v))/\
   ((∃y el',src i=U y/\r= .ref y 0 (ow c hd.A v).length/\H'[y]?=U (U ⟨c.width,el'⟩)/\Rows el' c (ow c hd.A v))\/(hd.nn=zj/\src i=zz/\ow c hd.A v=[]/\r= .emp)):=by
 by_cases q:i<l.length
 .rw[ld (by omega)]at K;rw[ld q]at k;obtain⟨d,r,Q,C,D⟩:=wY (w i e v K k) (by simp);refine⟨d,r,Q,C,?_⟩;rw[A i q];rcases D with⟨y,el',F,E,G,I⟩|h
  .exact .inl ⟨y,el',F,E,(B i y F).trans G,I⟩
  .exact .inr h
 .have p:i=l.length:=by
   have:=(iP.1 k).1;simp at this;omega
  subst p;rw[nF (by omega),g,Nat.sub_self]at K;rw[nF (by omega),Nat.sub_self]at k;injection K with K;injection k with k;subst K;subst k
  exact h0
theorem Ys7(q:ib Fr H0 X pl H){a x m y:Nat}{A:Cs}{nn:Bool}{c:Cs}{V:Nat}{l:List (sn c A).den}{L:List c.den}{el:List (List AV)}{d:A.den}{F:List AV}
  (N:b_ X a=U (.fm (.rw A nn) c V zz l)) (E:pl (.m a)=U x) (O:b_ X m=U (.sq c L)) (w:pl (.m m)=U y) (I:m≠a) (R:H[x]?=U (U ⟨A.width+1,el⟩)) (J:CC F (A.enc d)):
  ∃P,ib Fr H0 (hU (hU X m zz) a zz++[U (.fm (.rw A nn) c 0 zz (l++[nS c A d L]))]) P (H.set x zz++[U ⟨A.width+1,el++[F++[.ref y 0 L.length]]⟩])/\
   Ext X pl (hU (hU X m zz) a zz++[U (.fm (.rw A nn) c 0 zz (l++[nS c A d L]))]) P/\P (.m X.length)=U H.length:=by
 have S:=ki N;have K:=ki O;have B:(hU (hU X m zz) a zz).length=X.length:=by rw[km,km]
 obtain⟨x',T,h1,h2,W,Q,Y⟩:=q.obj a _ N;rw[E]at h1;injection h1 with h1;subst h1
 rw[R]at h2;injection h2 with h2;injection h2 with h2;injection h2 with _ h2;subst h2
 obtain⟨y',M,G,Z,g3,g4⟩:=q.obj m _ O;rw[w]at G;injection G with G;subst G
 have h: ∀(p:Pos) z,p≠ .m a->pl p=U z->(H.set x zz++[U ⟨A.width+1,el++[F++[AV.ref y 0 L.length]]⟩])[z]?=H[z]?:=λp z h1 h2=>by
  rw[ld (by simp;exact q.bd h2),mR (λe=>h1 (by subst e;exact q.inj _ _ _ h2 E))]
 refine OV q (λb=>b=a\/b=m) (hd:=.rw A nn) (l:=l++[nS c A d L]) (el:=el++[F++[.ref y 0 L.length]]) (src:=λj=>if j<l.length then pl (.n a j)else if j=l.length then U y else zz) (by simp[B]) ?_ (λb hb D=> ?_) (λb hb D=> ?_) W (by simp) ?_ (λp z D g=>h p z (λe=>D (by subst e;exact .inl rfl)) g) (λz g=> ?_) (λj z g=> ?_) (λj k z h1 h2=> ?_) (by simp[Q])
  (Yo (hd:=.rw A nn) Q Y (λj C=>if_pos C) (λj z g=>h _ z (λe=>by cases e) g) ⟨F,.ref y 0 L.length,rfl,by rw[Av];exact J,.inl ⟨y,M,by simp,by rw[ui],(h (.m m) y (λe=>I (by injection e)) w).trans Z,by rw[ui];exact g4⟩⟩)
 .have:=nI (hU (hU X m zz) a zz) (U (.fm (.rw A nn) c 0 zz (l++[nS c A d L])));rw[B]at this;exact this
 .rw[qj (by omega)];by_cases e:b=a
  .subst e;exact oV _ (by rw[km];omega)
  .rw[nt _ (Ne.symm e),D.resolve_left e];exact oV _ K
 .rw[qj (by omega),nt _ (λe=>D (.inl e.symm)),nt _ (λe=>D (.inr e.symm))]
 .have hl:(H.set x zz).length=H.length:=by simp
  rw[<-hl,List.getElem?_concat_length];rfl
 .have:=(q.fr z g).1;have:=q.le;rw[ld (by simp;omega),mR (λe=>q.nU _ _ E (by rw[e];exact g))]
 .split at g
  .rename_i C;exact⟨by simp;omega,.n a j,.inl rfl,g⟩
  .split at g
   .rename_i C;injection g with g;subst g;exact⟨by simp[C],.m m,.inr rfl,w⟩
   .cases g
 .split at h1<;>split at h2
  .have:=q.inj _ _ _ h1 h2;injection this
  .split at h2
   .injection h2 with h2;subst h2;have:=q.inj _ _ _ h1 w;cases this
   .cases h2
  .split at h1
   .injection h1 with h1;subst h1;have:=q.inj _ _ _ h2 w;cases this
   .cases h1
  .split at h1<;>split at h2
   .omega
   .cases h2
   .cases h1
   .cases h1
theorem Ys8(q:ib Fr H0 X pl H){a x:Nat}{A:Cs}{c:Cs}{V:Nat}{l:List (sn c A).den}{el:List (List AV)}{d:A.den}{F:List AV}
  (E:b_ X a=U (.fm (.rw A zj) c V zz l)) (y:pl (.m a)=U x) (J:H[x]?=U (U ⟨A.width+1,el⟩)) (B:CC F (A.enc d)):
  ∃P,ib Fr H0 (hU X a zz++[U (.fm (.rw A zj) c 0 zz (l++[nS c A d []]))]) P (H.set x zz++[U ⟨A.width+1,el++[F++[.emp]]⟩])/\
   Ext X pl (hU X a zz++[U (.fm (.rw A zj) c 0 zz (l++[nS c A d []]))]) P/\P (.m X.length)=U H.length:=by
 have C:=ki E;have w:(hU X a zz).length=X.length:=km _ _ _;obtain⟨Q,K,h1,h2,L,G,M⟩:=q.obj a _ E;rw[y]at h1;injection h1 with h1;subst h1
 rw[J]at h2;injection h2 with h2;injection h2 with h2;injection h2 with _ h2;subst h2
 have h: ∀(p:Pos) z,p≠ .m a->pl p=U z->(H.set x zz++[U ⟨A.width+1,el++[F++[AV.emp]]⟩])[z]?=H[z]?:=λp z h1 h2=>by
  rw[ld (by simp;exact q.bd h2),mR (λe=>h1 (by subst e;exact q.inj _ _ _ h2 y))]
 refine OV q (λb=>b=a) (hd:=.rw A zj) (l:=l++[nS c A d []]) (el:=el++[F++[.emp]]) (src:=λj=>if j<l.length then pl (.n a j)else zz) (by simp[w]) ?_ (λb N D=> ?_) (λb N D=> ?_) L (by simp) ?_ (λp z D g=>h p z (λe=>D (by subst e;rfl)) g) (λz g=> ?_) (λj z g=> ?_) (λj k z h1 h2=> ?_) (by simp[G])
  (Yo (hd:=.rw A zj) G M (λj I=>if_pos I) (λj z g=>h _ z (λe=>by cases e) g) ⟨F,.emp,rfl,by rw[Av];exact B,.inr ⟨rfl,by simp,by rw[ui],rfl⟩⟩)
 .have:=nI (hU X a zz) (U (.fm (.rw A zj) c 0 zz (l++[nS c A d []])));rw[w]at this;exact this
 .rw[qj (by omega),D];exact oV _ C
 .rw[qj (by omega),nt _ (λe=>D e.symm)]
 .have O:(H.set x zz).length=H.length:=by simp
  rw[<-O,List.getElem?_concat_length];rfl
 .have:=(q.fr z g).1;have:=q.le;rw[ld (by simp;omega),mR (λe=>q.nU _ _ y (by rw[e];exact g))]
 .split at g
  .rename_i I;exact⟨by simp;omega,.n a j,rfl,g⟩
  .cases g
 .split at h1<;>split at h2
  .have:=q.inj _ _ _ h1 h2;injection this
  .cases h2
  .cases h1
  .cases h1
theorem Ys9(w:ib Fr H0 X pl H){m y:Nat}{A:Cs}{nn:Bool}{c:Cs}{L:List c.den}{d:A.den}{F:List AV}(J:b_ X m=U (.sq c L))(q:pl (.m m)=U y)(C:CC F (A.enc d)):
  ∃P,ib Fr H0 (hU X m zz++[U (.fm (.rw A nn) c 0 zz [nS c A d L])]) P (H++[U ⟨A.width+1,[F++[.ref y 0 L.length]]⟩])/\
   Ext X pl (hU X m zz++[U (.fm (.rw A nn) c 0 zz [nS c A d L])]) P/\P (.m X.length)=U H.length:=by
 have D:=ki J;have B:(hU X m zz).length=X.length:=km _ _ _;obtain⟨Y,E,G,N,O,Q⟩:=w.obj m _ J;rw[q]at G;injection G with G;subst G
 have h: ∀(p:Pos) z,pl p=U z->(H++[U ⟨A.width+1,[F++[AV.ref y 0 L.length]]⟩])[z]?=H[z]?:=λp z h2=>by
  rw[ld (w.bd h2)]
 refine OV w (λb=>b=m) (hd:=.rw A nn) (l:=[nS c A d L]) (el:=[F++[.ref y 0 L.length]]) (src:=λj=>if j=0 then U y else zz) (by simp[B]) ?_ (λb R I=> ?_) (λb R I=> ?_) O (by simp) (by rw[List.getElem?_concat_length];rfl) (λp z _ g=>h p z g) (λz g=> ?_) (λj z g=> ?_) (λj k z h1 h2=> ?_) rfl (λi e v K M=> ?_)
 .have:=nI (hU X m zz) (U (.fm (.rw A nn) c 0 zz [nS c A d L]));rw[B]at this;exact this
 .rw[qj (by omega),I];exact oV _ D
 .rw[qj (by omega),nt _ (λe=>I e.symm)]
 .have:=(w.fr z g).1;have:=w.le;rw[ld (by omega)]
 .split at g
  .rename_i S;injection g with g;subst g;exact⟨by simp[S],.m m,rfl,q⟩
  .cases g
 .split at h1<;>split at h2
  .omega
  .cases h2
  .cases h1
  .cases h1
 .cases i with
  |succ i=>simp at K
  |zero=>
   simp only[List.getElem?_cons_zero,Option.some.injEq]at K M;subst K;subst M;exact⟨F,.ref y 0 L.length,rfl,by rw[Av];exact C,.inl ⟨y,E,rfl,by rw[ui],(h (.m m) y q).trans N,by rw[ui];exact Q⟩⟩
variable{β:Type}{r:β}
theorem Yp{c:Cs}{x:TV}{A:AV}{m:List c.den}(h:oG c x=U m)(H:TR X pl x A):(A= .emp/\m=[])\/ ∃l,A= .rd c.width l/\Rows l c m:=by
 unfold oG at h;split at h
 .rename_i c' v;obtain⟨rfl,rfl⟩:=tG h;cases H with
  |l _ _ _ d=>
   rcases wX d with⟨rfl,D⟩| ⟨L,rfl,p,g⟩
   .simp_all
   .exact .inr ⟨L,rfl,by simp_all,λi e w h1 h2=>g i e _ h1 (by simp_all)⟩
 .injection h with h;subst h;cases H;simp
 .rename_i E;cases H with
  |lt es _ as p h0 z q d=>
   have k:CE X pl E as:=⟨p,λi e f h1 h2=>⟨by grind,λj c a B C=>d i j e f c a h1 h2 B C⟩⟩;have F:=G3 h k;have G:es=c.width:=by
    cases E with
    |nil=>trivial
    |cons e E=>
     simp only[xT]at h;split at h
     .rename_i x y H I;rw[<-Yb H,z e (pM ..)]
     trivial
   simp_all
 trivial
theorem G6{c:Cs}{x:TV}{A s:AV}{m:List c.den}{es:Nat}(H:c.width=es)(h:oG c x=U m)(w:TR X pl x A){d:HF}{nid:Nat}{KA:AV->List jy->Prop}
  (p: ∀l,Rows l c m->(∀e∈l,e.length=es)->mu es s l d nid KA):
  (match(generalizing:=false) A with| .rd E l=>E=es/\mu es s l d nid KA| .emp=>mu es s [] d nid KA|_=>False):=by
 rcases Yp h w with⟨rfl,rfl⟩| ⟨l,rfl,g⟩
 .exact p [] ⟨rfl,λi e v h=>by simp⟩ (λe h=>by grind)
 .refine⟨H,p l g (λe y=> ?_)⟩;obtain⟨i,q⟩:=mE.1 y;have z:=(iP.1 q).1;have k:i<m.length:=by rw[<-g.1];omega
  rw[(g.2 i e m[i] q (je k)).1,rJ,H]
theorem yW{a b:List (List AV)}{c:Cs}{l m:List c.den}(h:Rows a c l)(k:Rows b c m):Rows (a++b) c (l++m):=by
 refine⟨by simp[h.1,k.1],λi e v h1 h2=> ?_⟩;by_cases H:i<l.length
 .rw[ld (by rw[h.1];exact H)]at h1;rw[ld H]at h2;exact h.2 i e v h1 h2
 .rw[nF (by rw[h.1];omega),h.1]at h1;rw[nF (by omega)]at h2;exact k.2 _ e v h1 h2
theorem Yta{c:Cs}{w:Nat}{s x:TV}{as ax:AV}{K:TV->hZ->Option β}(h:Cb c w s x X K=U r)(hs:TR X pl s as)(hx:TR X pl x ax)(N:ib Fr H0 X pl H){KA:AV->List jy->Prop}
  (hk: ∀v X' va us,K v X'=U r->oW Fr H0 X pl H v X' va us->KA va us):
  (match(generalizing:=false) ax with| .rd a7 l=>a7=c.width/\mu c.width as l (hf H) H.length KA| .emp=>mu c.width as [] (hf H) H.length KA|_=>False):=by
 have a0: ∀{c':Cs} {m:List c'.den} {l:List (List AV)},0<c'.width->Rows l c' m->K (.ref X.length) (X++[U (.sq c' m)])=U r->KA (.ref H.length 0 l.length) [.push (U ⟨c'.width,l⟩)]:=by
  intro c' m l h0 hl hK;have O:=nI X (U (.sq c' m));obtain⟨W,Y⟩:=pw N (.sq c' m) ⟨c'.width,l⟩ (λ_=>⟨H.length,l,by unfold iF;simp,by simp,h0,hl⟩);exact hk _ _ _ _ hK ⟨_,.ref X.length H.length _ _ O (by simp[iz,hl.1]) (by unfold iF;simp),⟨W,Y⟩,.inr ⟨by simp,by unfold iF;simp⟩⟩
 unfold Cb at h;split at h
 .rename_i a;split at h
  .rename_i c' l E;split at h
   .rename_i m G;obtain⟨Z,e2⟩:=iU h;obtain⟨I,J⟩:=lA e2;have g:=jr Z;obtain⟨x,n,rfl,P,O⟩:=py E hs;simp only[iz]at O;injection O with O;subst O
    obtain⟨x',el,h1,h2,h3,M⟩:=N.obj a _ E;rw[P]at h1;injection h1 with h1;subst h1
    refine G6 g.symm G hx (λL D p=>qH h2 ⟨rfl,M.1.symm,g.symm,by rw[M.1,D.1];exact I,p,?_⟩);obtain⟨W,Y⟩:=Cn N E P;have k:(hU X a zz).length=X.length:=km _ _ _;have a1:(H.set x zz).length=H.length:=by simp
    obtain⟨F,k4⟩:=pw W (.sq c' (l++m)) ⟨c'.width,el++L⟩ (λ_=>⟨H.length,el++L,by unfold iF;simp,by simp,h3,yW M D⟩);rw[k,a1]at F k4;rw[g];refine hk _ _ _ _ J ⟨_,?_,⟨F,Y.trans k4⟩,.inr ⟨by simp_all,by unfold iF;simp⟩⟩;refine .ref X.length H.length (.sq c' (l++m)) _ ?_ (by simp[iz,M.1,D.1]) (by unfold iF;simp);have:=nI (hU X a zz) (U (.sq c' (l++m)));simp_all
   trivial
  .rename_i hd c' a2 l E;split at h
   .rename_i es;have Z:=(iU h).1;replace h:=(iU h).2;simp only[iI]at Z;cases hd with
    |mp o n=>cases Z.1
    |rw A nn=>
    have g:c.width=A.width+1:=jr Z.2;obtain⟨x,n,rfl,P,O⟩:=py E hs;simp only[iz]at O;injection O with O;subst O
    obtain⟨x',el,h1,h2,h3,M,h6⟩:=N.obj a _ E;rw[P]at h1;injection h1 with h1;subst h1
    have ab: ∀e∈el,e.length=A.width+1:=λe he=>by
     obtain⟨i,hi⟩:=mE.1 he;have a8:i<l.length:=by rw[<-M];exact(iP.1 hi).1
     obtain⟨d,r0,q1,q2,_⟩:=h6 i e _ hi (tH a8);rw[q1];simp[q2.1,rJ]
    split at h
    .rename_i ds m hu;have Q:=KX hu;subst Q;obtain⟨f,rfl,hf⟩:=OY hx;obtain⟨fd,av,rfl,R,S⟩:=hf.xa;cases hb:im m a with
     |true=>rw[hb]at h;cases h
     |false=>
     rw[hb,cond_false]at h;have a9:m≠a:=λe=>by simp_all
     split at h
     .rename_i c2 lm d G hd;split at h
      .rename_i aa a3;obtain⟨ec,a4⟩:=tG a3;subst ec;subst a4;obtain⟨I,J⟩:=lA h;obtain⟨y,n',rfl,a5,q⟩:=py G S;simp only[iz]at q;injection q with q;subst q
       have B:=yU hd R;have C:(fd++[AV.ref y 0 lm.length]).length=A.width+1:=by simp[B.1,rJ]
       have T:(ds++[TV.ref m]).length=A.width+1:=by rw[hf.1];exact C
       refine⟨by rw[T,g],qH h2 ⟨rfl,M.symm,by rw[g];rfl,by simp only[qG,E'];rw[M];exact I,λe he=> ?_,?_⟩⟩
       .simp only[uV]at he;subst he;rw[g];exact C
       .obtain⟨V,W,Y,F⟩:=Ys7 N E P G a5 a9 h2 B;rw[g];refine hk _ _ _ _ J ⟨V,?_,⟨W,Y⟩,.inr ⟨by simp[km],F⟩⟩;have k:(hU (hU X m zz) a zz).length=X.length:=by rw[km,km]
        refine .ref X.length H.length (.fm (.rw A nn) c2 0 zz (l++[nS c2 A d lm])) _ ?_ (by simp[iz,E',M]) F;have:=nI (hU (hU X m zz) a zz) (U (.fm (.rw A nn) c2 0 zz (l++[nS c2 A d lm])));rw[k]at this;exact this
      .cases h
     .cases h
    .rename_i ds cz hu;have Q:=KX hu;subst Q;obtain⟨f,rfl,hf⟩:=OY hx;obtain⟨fd,av,rfl,R,S⟩:=hf.xa;cases nn with
     |true=>cases h
     |false=>
     simp only[Hd.nn,cond_false]at h;split at h
     .rename_i d hd;obtain⟨I,J⟩:=lA h;cases S;have B:=yU hd R;have C:(fd++[AV.emp]).length=A.width+1:=by simp[B.1,rJ]
      have T:(ds++[TV.e cz]).length=A.width+1:=by rw[hf.1];exact C
      refine⟨by rw[T,g],qH h2 ⟨rfl,M.symm,by rw[g];rfl,by simp only[qG,E'];rw[M];exact I,λe he=> ?_,?_⟩⟩
      .simp only[uV]at he;subst he;rw[g];exact C
      .obtain⟨V,W,Y,F⟩:=Ys8 N E P h2 B;rw[g];refine hk _ _ _ _ J ⟨V,?_,⟨W,Y⟩,.inr ⟨by simp[km],F⟩⟩;have k:(hU X a zz).length=X.length:=km _ _ _;refine .ref X.length H.length (.fm (.rw A zj) c' 0 zz (l++[nS c' A d []])) _ ?_ (by simp[iz,E',M]) F;have:=nI (hU X a zz) (U (.fm (.rw A zj) c' 0 zz (l++[nS c' A d []])));rw[k]at this;exact this
     .cases h
    .cases h
   .cases h
  .cases h
 .rename_i c0;cases hs;split at h
  .obtain⟨Z,e2⟩:=iU h;split at e2
   .rename_i m G;obtain⟨I,J⟩:=lA e2;refine G6 rfl G hx (λL D p=>⟨by rw[D.1];exact I,p,λh0=>absurd (show 0<c.width by simp_all) (by omega),a0 (by simp_all) D J⟩)
   trivial
  .cases h
  .split at h
   .rename_i A c' es ac;split at h
    .rename_i ds m hu;have Q:=KX hu;subst Q;obtain⟨f,rfl,hf⟩:=OY hx;obtain⟨fd,av,rfl,R,S⟩:=hf.xa;split at h
     .rename_i c2 lm d G hd;split at h
      .rename_i aa a3;obtain⟨ec,a4⟩:=tG a3;subst ec;subst a4;have g:c.width=A.width+1:=jr (iU h).1;replace h:=(iU h).2;obtain⟨y,n',rfl,a5,q⟩:=py G S;simp only[iz]at q;injection q with q;subst q
       have B:=yU hd R;have C:(fd++[AV.ref y 0 lm.length]).length=A.width+1:=by simp[B.1,rJ]
       have T:(ds++[TV.ref m]).length=A.width+1:=by rw[hf.1];exact C
       refine⟨by rw[T,g],by simp[c_],λe he=>by simp only[uV]at he;subst he;rw[g];exact C,λh0=>by simp,?_⟩;obtain⟨V,W,Y,F⟩:=Ys9 (nn:=zZ) N G a5 B;rw[g];refine hk _ _ _ _ h ⟨V,?_,⟨W,Y⟩,.inr ⟨by simp[km],F⟩⟩;have k:(hU X m zz).length=X.length:=km _ _ _;refine .ref X.length H.length (.fm (.rw A zZ) c2 0 zz [nS c2 A d lm]) _ ?_ rfl F;have:=nI (hU X m zz) (U (.fm (.rw A zZ) c2 0 zz [nS c2 A d lm]));rw[k]at this;exact this
      .cases h
     .cases h
    .cases h
   .cases h
 .rename_i a a2 i;split at h
  .rename_i hd c' ver' l E;split at h
   .rename_i m G;obtain⟨Z,e2⟩:=iU h;obtain⟨I,J⟩:=lA e2;simp only[iI]at Z;have:=jr Z.2;subst this;have g:=jr Z.1;obtain⟨x',el,W,Y,F,k4,k6⟩:=N.obj a _ E;have k:(hU X a (U (.fm hd c' a2 (U i) l))).length=X.length:=km _ _ _;have a6:=λo=>nI (hU X a (U (.fm hd c' a2 (U i) l))) o;rw[k]at a6;cases hb:(hd.wO||js i l.length)with
    |true=>
     rw[hb,cond_true]at J;rcases Co E hs with⟨y,rfl,hi,P⟩| ⟨rfl,P,h0⟩
     .obtain⟨el',g3,g4⟩:=G5 N E hi P;refine G6 g.symm G hx (λL D p=>qH g3 ⟨rfl,g4.1.symm,g.symm,by rw[g4.1,D.1];exact I,p,?_⟩);have a1:(H.set y zz).length=H.length:=by simp
      obtain⟨q1,q2⟩:=Yk N (i:=i) E a1 (λz hz=>mR (λe=>hz (by grind)));obtain⟨q3,q4⟩:=pw q1 (.sq c' (kG hd c' l i++m)) ⟨c'.width,el'++L⟩ (λ_=>⟨H.length,el'++L,by unfold iF;simp,by simp,F,yW g4 D⟩);rw[k,a1]at q3 q4;rw[g];exact hk _ _ _ _ J ⟨_,.ref X.length H.length (.sq c' (kG hd c' l i++m)) _ (a6 _) (by simp[iz,g4.1,D.1]) (by unfold iF;simp),⟨q3,q2.trans q4⟩,.inr ⟨by simp_all,by unfold iF;simp⟩⟩
     .refine G6 g.symm G hx (λL D p=>⟨by rw[h0]at I;simpa[D.1]using I,p,λh0=>absurd h0 (by omega),?_⟩);obtain⟨q1,q2⟩:=Yk N (i:=i) E rfl (λz _=>rfl);obtain⟨q3,q4⟩:=pw q1 (.sq c' (kG hd c' l i++m)) ⟨c'.width,L⟩ (λ_=>⟨H.length,L,by unfold iF;simp,by simp,F,by simp_all⟩);rw[k]at q3 q4;rw[g];exact hk _ _ _ _ J ⟨_,.ref X.length H.length (.sq c' (kG hd c' l i++m)) _ (a6 _) (by simp only[iz,h0];simp[D.1]) (by unfold iF;simp),⟨q3,q2.trans q4⟩,.inr ⟨by simp_all,by unfold iF;simp⟩⟩
    |false=>
     rw[hb,cond_false]at J;simp only[Bool.or_eq_false_iff]at hb;have ad:l.length<=i:=by
      have:=hb.2;apply Classical.byContradiction;intro hc;rw[show js i l.length=zZ from by simp[Nat.blt_eq];omega]at this;cases this
     rcases Co E hs with⟨y,rfl,hi,P⟩| ⟨rfl,P,h0⟩
     .omega
     .refine G6 g.symm G hx (λL D p=>⟨by rw[h0]at I;simpa[D.1]using I,p,λh0=>absurd h0 (by omega),?_⟩);rw[g];exact a0 F D J
   .cases h
  .cases h
 .cases h
end
end Go.Abs
namespace Go.Abs
open Go Go.RowKit
section
variable{Fr:Nat->Prop}{H0:ic}{X:hZ}{pl:Pl}{H:ic}{β:Type}{r:β}{env:jO}{ae:Env}
def kJ(l:List (List AV))(v:List Int):Prop:=l.length=v.length/\ ∀(i:Nat) (e:List AV) (n:Int),l[i]?=U e->v[i]?=U n->e=[.v (.int .u8 n)]
theorem kJ.rows{l:List (List AV)}{v:List Int}(h:kJ l v):Rows l U8 v:=by
 refine⟨h.1,λi e n h1 h2=> ?_⟩;have:=h.2 i e n h1 h2;subst this;exact⟨rfl,λj x X h1 h2=>by
  match j,h1,h2 with
  |0,h1,h2=>simp[Cs.enc,Ty.enc,kU]at h1 h2;subst h1;subst h2;exact .refl _
  |j+1,h1,h2=>trivial⟩
theorem kJ.of{l:List (List AV)}{v:List Int}(h:Rows l U8 v):kJ l v:=by
 refine⟨h.1,λi e n h1 h2=> ?_⟩;have h0:=h.2 i e n h1 h2;have H:e.length=1:=h0.1
 match e,H with
 | [a],_=>
   have d:=h0.2 0 a _ rfl rfl;have:a= .v (.int .u8 n):=um d;grind
theorem kJ.app{a b:List (List AV)}{l m:List Int}(h:kJ a l)(k:kJ b m):kJ (a++b) (l++m):=kJ.of (yW h.rows k.rows)
theorem we(s:ByteArray):kJ (iM s) (od s):=by
 refine⟨by simp[iM,od],λi e v h1 h2=> ?_⟩;unfold iM at h1;unfold od at h2;grind
theorem OZ: ∀{l:List (List AV)} {v:List Int},kJ l v->vR l=U (v.map λn=>UInt8.ofNat n.toNat)
 | [],v,h=>by
   have:v=[]:=mC.1 h.1.symm;subst this;rfl
 |e::l,[],h=>by have:=h.1;trivial
 |e::l,n::v,h=>by
  have h0:=h.2 0 e n rfl rfl;subst h0;have I:=OZ (l:=l) (v:=v) ⟨by have:=h.1;simp_all,λi e w h1 h2=>h.2 (i+1) e w (by trivial) (by trivial)⟩;simp only[vR,JZ,I,kn]
theorem Yq{m:List Int}(h:sT m=zZ){l:List (List AV)}(g:kJ l m):l=iM (nT m):=by
 unfold iM nT;have hd:(⟨(m.map λn=>UInt8.ofNat n.toNat).toArray⟩:ByteArray).toList=m.map λn=>UInt8.ofNat n.toNat:=by
  simp
 rw[hd];refine pT λi=> ?_;rw[jt,jt];cases d:l[i]? with
 |none=>
  have:m[i]?=none:=by rw[List.getElem?_eq_none_iff]at d⊢;rw[<-g.1];exact d
  simp_all
 |some e=>
  have k:=(iP.1 d).1;have H:i<m.length:=by rw[<-g.1];exact k
  rw[je H];rw[g.2 i e m[i] d (je H)];have:=ly.1 h m[i] (List.getElem_mem H);simp at this;simp only[l_,Option.some.injEq,List.cons.injEq,and_true,AV.v.injEq,Value.int.injEq,true_and];rw[UInt8.toNat_ofNat'];omega
theorem Ytb(s:ByteArray):vR (iM s)=U s.toList:=by
 unfold iM;induction s.toList with
 |nil=>rfl
 |cons b l h=>
  simp only[kn,vR,h,JZ];simp
theorem Ytc(s t:ByteArray):iM (s++t)=iM s++iM t:=by
 unfold iM;rw[xV,xV,xV,<-List.map_append];simp
theorem Cq{l:List (List AV)}{c:Cs}{v:List c.den}(h:Rows l c v): ∀e∈l,e.length=c.width:=λe g=>by
 obtain⟨i,d⟩:=mE.1 g;have k:=(iP.1 d).1;have H:i<v.length:=by rw[<-h.1];omega
 rw[(h.2 i e v[i] d (je H)).1,rJ]
theorem G7{l:List (List AV)}{n:Nat}(h: ∀e∈l,e.length=n):(l.all λe=>im e.length n)=true:=by
 simp_all
theorem xb{n:Nat}:im n n=true:=Nat.beq_refl n
theorem uX{n m:Nat}(h:n<=m):iS n m=true:=qi h
theorem O0{os es:Nat}{l:List (List AV)}{h:HF}{nid:Nat}(h1: ∀e∈l,e.length=es)(h2:l.length<=c_)(H:0<os\/0<l.length):pc os es .emp l h nid=U (⟨os,l⟩,[]):=by
 unfold pc;rw[G7 h1,cond_true];have:(js 0 os|| !l.isEmpty)=true:=by
  rcases H with H|H
  .simp_all
  grind
 rw[uX h2,this,uW,cond_true]
theorem O1{os es a:Nat}{l:List (List AV)}{o:iu}{nid:Nat}(h1: ∀e∈l,e.length=es)(d:H[a]?=U (U o))(h:o.es=os)(h2:o.el.length+l.length<=c_):pc os es (.ref a 0 o.el.length) l (hf H) nid=U (⟨os,o.el++l⟩,[.set a zz]):=by
 unfold pc;rw[G7 h1,cond_true];simp only[hf,d,h,xb,uX h2,uW,cond_true]
theorem O2: ∀{cs:List TV} {as:List AV} {E:List (List TV)},B_ X cs=U E->CT X pl cs as-> ∃l,jJ as=U l/\CE X pl E l
 | [],as,E,h,H=>by
   injection h with h;subst h
   have:as=[]:=mC.1 H.1.symm;subst this;exact⟨[],rfl,rfl,λi e f h=>by simp⟩
 |c::cs,as,E,h,H=>by
  simp only[B_]at h;split at h
  .rename_i x xs k d;injection h with h;subst h
   obtain⟨a,r,rfl,h1,h2⟩:=H.inv;obtain⟨l,p,g⟩:=O2 d h2;obtain⟨b,q,w⟩:=OU k h1;refine⟨b::l,by simp only[jJ,q,p],by simp[g.1],λi e f G y=> ?_⟩;cases i with
   |zero=>simp_all
   |succ i=>exact g.2 i e f (by trivial) (by trivial)
  trivial
theorem kD{es:Nat}{L:List (List AV)}{c:Cs}{l:List c.den}(h:Rows L c l):Coe (.rd es L) (.rd es (l.map c.enc)):=by
 refine .rd es L _ (by simpa using h.1) (λi e e' h1 h2=> ?_) (λi e e' j x X h1 h2 d g=> ?_)
 .rw[jt,lS]at h2;obtain⟨v,H,rfl⟩:=h2;exact(h.2 i e v h1 H).1
 .rw[jt,lS]at h2;obtain⟨v,H,rfl⟩:=h2;exact(h.2 i e v h1 H).2 j x X d g
theorem G8(h:ib Fr H0 X pl H):ib Fr H0 X pl (H++[zz]):=by
 refine⟨λa o d=> ?_,h.inj,h.own,λx g=> ?_,h.nU,by have:=h.le;grind⟩
 .refine(h.obj a o d).keep (Ext.refl _ _) (λ_ _=>rfl) (λp x _ k=> ?_);rw[ld (h.bd k)]
 .have h1:=h.fr x g;grind
theorem Yr(k:ib Fr H0 X pl H){a:Nat}{c:Cs}{l:List c.den}(d:b_ X a=U (.sq c l)){s:AV}(q:TR X pl (.ref a) s):
  ∃x el,pl (.m a)=U x/\H[x]?=U (U ⟨c.width,el⟩)/\0<c.width/\Rows el c l/\s= .ref x 0 el.length:=by
 obtain⟨x,n,rfl,p,h⟩:=py d q;injection h with h;subst h
 obtain⟨y,el,h1,h2,w,g⟩:=k.obj a _ d;rw[p]at h1;injection h1 with h1;subst h1
 exact⟨x,el,p,h2,w,g,by rw[g.1]⟩
theorem G9{c:Cs}{x:TV}{A:AV}{m:List c.den}(h:oG c x=U m)(H:TR X pl x A): ∃l,pZ A=U l/\uG c.width A=zZ/\Rows l c m:=by
 rcases Yp h H with⟨rfl,rfl⟩| ⟨l,rfl,d⟩
 .exact⟨[],rfl,rfl,rfl,λi e v h=>by simp⟩
 .exact⟨l,rfl,xb,d⟩
theorem Ytd{c:Cs}{s x:TV}{as B:AV}{K:TV->hZ->Option β}(d:0<c.width)(h:OE c s x X K=U r)(C:TR X pl s as)(D:TR X pl x B)(g:ib Fr H0 X pl H){KA:AV->List jy->Prop}
  (E: ∀v X' V us,K v X'=U r->oW Fr H0 X pl H v X' V us->KA V us): ∃v us,xF (.appD c.width) [as,B] (hf H) H.length=U (v,us)/\KA v us:=by
 unfold OE at h;split at h
 .split at h
  .rename_i m p;obtain⟨h1,h2⟩:=lA h;obtain⟨l,q,z,k⟩:=G9 p D;cases C with
   |e=>
   refine⟨.rd c.width l,[.push zz],?_,E _ _ _ _ h2 ⟨pl,.l c m _ (kD k),⟨?_,Ext.refl _ _⟩,.inl rfl⟩⟩
   .simp only[xF,q,z,cond_true,O0 (Cq k) (by rw[k.1];exact h1) (.inl d),qt,show js 0 c.width=zZ by simp_all,uW]
   .exact G8 g
  trivial
 .rename_i a;split at h
  .rename_i c' l F;split at h
   .rename_i m p;obtain⟨G,I⟩:=iU h;obtain⟨h1,h2⟩:=lA I;have J:=jr G;obtain⟨L,q,z,k⟩:=G9 p D;obtain⟨y,el,M,N,h0,w,rfl⟩:=Yr g F C;have A:=O1 (nid:=H.length) (Cq k) N rfl (by rw[w.1,k.1];exact h1);obtain⟨O,P⟩:=Cn g F M;refine⟨.rd c'.width (el++L),[.set y zz,.push zz],?_,E _ _ _ _ h2 ⟨_,.l c' (l++m) _ (kD (yW w k)),⟨?_,P⟩,.inl (km _ _ _)⟩⟩
    .rw[J]at d⊢;simp only[xF,q,z,cond_true,A,rV,qt,show js 0 c'.width=zZ by simp_all,uW]
    .exact G8 O
   trivial
  trivial
 trivial
theorem KY(g:ib Fr H0 X pl H){a:Nat}{b:ByteArray}(d:b_ X a=U (.sb b)){s:AV}(k:TR X pl (.ref a) s):
  ∃x,pl (.m a)=U x/\H[x]?=U (U ⟨0,iM b⟩)/\s= .ref x 0 (iM b).length:=by
 obtain⟨x,n,rfl,p,h⟩:=py d k;injection h with h;subst h
 obtain⟨q,h1,h2⟩:=g.obj a _ d;rw[p]at h1;injection h1 with h1;subst h1
 exact⟨x,p,h2,by rw[iX]⟩
theorem Ys(h:ib Fr H0 X pl H)(b:ByteArray):oW Fr H0 X pl H (.ref X.length) (X++[U (.sb b)]) (.ref H.length 0 (iM b).length) [.push (U ⟨0,iM b⟩)]:=by
 obtain⟨k,K⟩:=pw h (.sb b) ⟨0,iM b⟩ (λ_=>⟨H.length,by unfold iF;simp,by simp⟩);exact⟨_,.ref X.length H.length _ _ (nI X _) (by simp only[iz];rw[iX]) (by unfold iF;simp),⟨k,K⟩,.inr ⟨by simp,by unfold iF;simp⟩⟩
theorem Yte(g:ib Fr H0 X pl H){a y:Nat}{s:il}(b:ByteArray)(p:b_ X a=U s)(q:pl (.m a)=U y)(z:pt s=zj):
  oW Fr H0 X pl H (.ref X.length) (hU X a zz++[U (.sb b)]) (.ref H.length 0 (iM b).length) [.set y zz,.push (U ⟨0,iM b⟩)]:=by
 obtain⟨G,w⟩:=Cn g p q;have h:(hU X a zz).length=X.length:=km _ _ _;have d:(H.set y zz).length=H.length:=by simp
 obtain⟨k,K⟩:=pw G (.sb b) ⟨0,iM b⟩ (λ_=>⟨H.length,by unfold iF;simp,by simp⟩);rw[h,d]at k K;refine⟨_,?_,⟨k,w.trans K⟩,.inr ⟨by simp_all,by unfold iF;simp⟩⟩;refine .ref X.length H.length (.sb b) _ ?_ (by simp only[iz];rw[iX]) (by unfold iF;simp);have:=nI (hU X a zz) (U (.sb b));simp_all
theorem Yt{s:TV}{b:ByteArray}{as:AV}{L:List (List AV)}{K:TV->hZ->Option β}(q:L=iM b)
  (h:(match s with
   | .e _=>e_ (0<b.size/\b.size<=c_) (K (.ref X.length) (X++[U (.sb b)]))
   | .ref a=>match b_ X a with
     |some (.sb s)=>e_ (s.size+b.size<=c_) (K (.ref X.length) (hU X a zz++[U (.sb (s++b))]))
     |_=>zz
   |_=>zz)=U r) (k:TR X pl s as) (g:ib Fr H0 X pl H) {KA:AV->List jy->Prop}
  (w: ∀v X' V us,K v X'=U r->oW Fr H0 X pl H v X' V us->KA V us):
  ∃o us,pc 0 1 as L (hf H) H.length=U (o,us)/\KA (.ref H.length 0 o.el.length) (us++[.push (U o)]):=by
 subst q;have d: ∀e∈iM b,e.length=1:=Cq (we b).rows;split at h
 .obtain⟨h1,h2⟩:=lA h;cases k with
  |e=>exact⟨_,_,O0 d (by rw[iX];omega) (.inr (by rw[iX];omega)),w _ _ _ _ h2 (Ys g b)⟩
 .rename_i a;split at h
  .rename_i S p;obtain⟨h1,h2⟩:=lA h;obtain⟨y,z,A,rfl⟩:=KY g p k;refine⟨_,_,O1 (o:=⟨0,iM S⟩) d A rfl (by rw[iX,iX];exact h1),?_⟩;have:=Yte g (S++b) p z rfl;rw[Ytc]at this;grind
  trivial
 trivial
theorem Ytf{s:TV}{b:ByteArray}{as:AV}{K:TV->hZ->Option β}(h:XX s b X K=U r)(d:TR X pl s as)(g:ib Fr H0 X pl H){KA:AV->List jy->Prop}
  (k: ∀v X' V us,K v X'=U r->oW Fr H0 X pl H v X' V us->KA V us): ∃v us,xF .apps [as,.v (.string b)] (hf H) H.length=U (v,us)/\KA v us:=by
 obtain⟨o,us,h1,h2⟩:=Yt (b:=b) rfl h d g k;exact⟨_,_,by simp only[xF,h1],h2⟩
theorem Ytg(m:List Int):(nT m).size=m.length:=by simp[nT,ByteArray.size]
theorem Yth{s x:TV}{as A:AV}{K:TV->hZ->Option β}(h:OF s x X K=U r)(d:TR X pl s as)(g:TR X pl x A)(p:ib Fr H0 X pl H){KA:AV->List jy->Prop}
  (q: ∀v X' V us,K v X'=U r->oW Fr H0 X pl H v X' V us->KA V us): ∃v us,xF .appb [as,A] (hf H) H.length=U (v,us)/\KA v us:=by
 unfold OF at h;split at h
 .rename_i m w;obtain⟨y,h⟩:=iU h;obtain⟨l,z,B,C⟩:=G9 w g;have D:=Yq y (kJ.of C);obtain⟨o,us,h1,h2⟩:=Yt (b:=nT m) D (by rw[Ytg];exact h) d p q;have k:uG 1 A=true:=B;exact⟨_,_,by simp only[xF,z,k,cond_true,h1],h2⟩
 trivial
theorem Yti{s x:TV}{as A:AV}{K:TV->hZ->Option β}(h:OG s x X K=U r)(w:TR X pl s as)(D:TR X pl x A)(p:ib Fr H0 X pl H){KA:AV->List jy->Prop}
  (z: ∀v X' V us,K v X'=U r->oW Fr H0 X pl H v X' V us->KA V us): ∃v us,xF .appDb [as,A] (hf H) H.length=U (v,us)/\KA v us:=by
 unfold OG at h;split at h
 .rename_i m E;obtain⟨l,B,F,k⟩:=G9 E D;have d:uG 1 A=true:=F;have g: ∀e∈l,e.length=1:=Cq k;split at h
  .obtain⟨h1,h2⟩:=lA h;cases w with
   |e=>
   refine⟨.rd 1 l,[.push zz],?_,z _ _ _ _ h2 ⟨pl,.l U8 m _ (kD k),⟨G8 p,Ext.refl _ _⟩,.inl rfl⟩⟩;simp only[xF,B,d,cond_true,O0 (os:=0) g (by rw[k.1];exact h1.2) (.inr (by rw[k.1];exact h1.1)),qt]
  .rename_i a;split at h
   .rename_i S C;obtain⟨h1,h2⟩:=lA h;obtain⟨y,G,I,rfl⟩:=KY p C w;obtain⟨J,L⟩:=Cn p C G;have q:=O1 (os:=0) (nid:=H.length) (o:=⟨0,iM S⟩) g I rfl (by rw[iX,k.1];exact h1);refine⟨.rd 1 (iM S++l),[.set y zz,.push zz],?_,z _ _ _ _ h2 ⟨_,.l U8 (od S++m) _ (kD ((we S).app (kJ.of k)).rows),⟨G8 J,L⟩,.inl (km _ _ _)⟩⟩;simp only[xF,B,d,cond_true,q,rV,qt]
   trivial
  trivial
 trivial
theorem Ytj{cs:List TV}{as:List AV}{e:List TV}{E:List (List TV)}{l:List Int}(p:B_ X cs=U (e::E))(q:xT U8 (e::E)=U l)(g:sT l=zZ)(z:E.length+1<=1000000)(k:CT X pl cs as)(w:ib Fr H0 X pl H):
  ∃V us,xF .litb as (hf H) H.length=U (V,us)/\oW Fr H0 X pl H (.ref X.length) (X++[U (.sb (nT l))]) V us:=by
 obtain⟨L,h1,h2⟩:=O2 p k;have h:Rows L U8 l:=G3 (c:=U8) q h2;have y:=h2.1;have g:=Yq g (kJ.of h);cases L with
 |nil=>trivial
 |cons f fs=>
  have d:(f::fs).length<=c_:=by rw[<-y];simp only[pL,c_];omega
  refine⟨_,_,?_,g▸Ys w (nT l)⟩;simp only[xF,h1,G7 (n:=1) (Cq h),uX d,uW,cond_true]
theorem Ytk{x:TV}{C:AV}{K:TV->hZ->Option β}(h:OH x X K=U r)(k:TR X pl x C)(D:ib Fr H0 X pl H){KA:AV->List jy->Prop}
  (S: ∀v V,K v X=U r->TR X pl v V->KA V []): ∃v us,xF .bstr [C] (hf H) H.length=U (v,us)/\KA v us:=by
 unfold OH at h;split at h
 .cases k with
  |e=>exact⟨_,[],rfl,S _ _ h (.s _)⟩
 .rename_i c v;split at h
  .rename_i l p;obtain⟨rfl,rfl⟩:=tG p;cases k with
   |l _ _ _ E=>
    rcases wX E with⟨rfl,I⟩| ⟨L,rfl,p,q⟩
    .have F:v=[]:=by simp_all
     subst F;exact⟨_,[],rfl,S _ _ h (.s _)⟩
    .have d:Rows L U8 v:=⟨by simp_all,λi e w h1 h2=>q i e _ h1 (by simp_all)⟩;refine⟨.v (.string (nT v)),[],?_,S _ _ h (.s _)⟩;simp only[xF,show U8.width=1 from rfl,xb,cond_true,OZ (kJ.of d)];rfl
  trivial
 .rename_i a;split at h
  .rename_i c' l z;split at h
   .rename_i l' p;obtain⟨rfl,g⟩:=tG p;have g:=g.symm;subst g;obtain⟨y,el,G,A,h0,d,rfl⟩:=Yr D z k;refine⟨.v (.string (nT l')),[],?_,S _ _ h (.s _)⟩;simp only[xF,hf,A,show wd U8.width=1 from rfl,xb,uX (jG _),uW,cond_true,rN,OZ (kJ.of d)];rfl
   trivial
  .rename_i B z;obtain⟨y,G,A,rfl⟩:=KY D z k;refine⟨.v (.string B),[],?_,S _ _ h (.s _)⟩;simp only[xF,hf,A,show wd 0=1 from rfl,xb,uX (jG _),uW,cond_true,rN,Ytb];have:(⟨B.toList.toArray⟩:ByteArray)=B:=by rw[xV]
   grind
  trivial
 trivial
theorem Ytl{c:Cs}{cs:List TV}{as:List AV}{e:List TV}{E:List (List TV)}{l:List c.den}(p:B_ X cs=U (e::E))(q:xT c (e::E)=U l)(h0:0<c.width)(A:E.length+1<=1000000)(k:CT X pl cs as)(w:ib Fr H0 X pl H):
  ∃V us,xF (.lit c.width) as (hf H) H.length=U (V,us)/\oW Fr H0 X pl H (.ref X.length) (X++[U (.sq c l)]) V us:=by
 obtain⟨L,h1,h2⟩:=O2 p k;have h:=G3 q h2;have y:=h2.1;cases L with
 |nil=>trivial
 |cons f fs=>
  obtain⟨K,z⟩:=pw w (.sq c l) ⟨c.width,f::fs⟩ (λ_=>⟨H.length,f::fs,by unfold iF;simp,by simp,h0,h⟩);refine⟨.ref H.length 0 (f::fs).length,[.push (U ⟨c.width,f::fs⟩)],?_,_,.ref X.length H.length _ _ (nI X _) (by simp[iz,<-h.1]) (by unfold iF;simp),⟨K,z⟩,.inr ⟨by simp,by unfold iF;simp⟩⟩;have d:(f::fs).length<=c_:=by rw[<-y];simp only[pL,c_];omega
  have g:js 0 c.width=true:=by simp_all
  simp only[xF,h1,g,G7 (Cq h),uX d,uW,cond_true]
theorem Ytm(h:ib Fr H0 X pl H):oW Fr H0 X pl H (.ptr X.length 0 0) (X++[U (.st [.np X.length,.v (.slice zz 0 0)])]) (.ptr H.length 0 0) [.push (U ⟨2,[[.np H.length,.v (.slice zz 0 0)]]⟩)]:=by
 obtain⟨k,K⟩:=pw h (.st [.np X.length,.v (.slice zz 0 0)]) ⟨2,[[.np H.length,.v (.slice zz 0 0)]]⟩ (λd=>⟨H.length,[.np H.length,.v (.slice zz 0 0)],by unfold iF;simp,by simp,Nat.zero_lt_succ _,
  .cons (.np X.length H.length _ (nI X _) (by unfold iF;simp)) (.cons (.v _) .nil)⟩)
 exact⟨_,.ptr X.length 0 0 H.length _ (nI X _) (by simp[lK]) (by unfold iF;simp),⟨k,K⟩,.inr ⟨by simp,by unfold iF;simp⟩⟩
theorem tI{a:Nat}{A:AV}{o:il}(H:b_ X a=U o)(h:TR X pl (.np a) A): ∃x,A= .np x/\pl (.m a)=U x:=by
 cases h with
 |np a x o h p=>simp_all
 |wc a d h g=>simp_all
theorem Yu{b:ByteArray}{a:AV}(h:TR X pl (.s b) a):a= .v (.string b):=by cases h;rfl
theorem Yv{l:List TV}{as:List AV}{x y c:Int}(h:l=[.i .u64 x,.i .u64 y,.i .u64 c])(H:CT X pl l as):as=[.v (.int .u64 x),.v (.int .u64 y),.v (.int .u64 c)]:=by
 subst h;obtain⟨a,r,rfl,h1,h2⟩:=H.inv;obtain⟨b,r,rfl,g,k⟩:=h2.inv;obtain⟨d,r,rfl,p,q⟩:=k.inv;have:r=[]:=mC.1 q.1.symm;subst this;cases h1;cases g;cases p;rfl
end
end Go.Abs
namespace Go.Abs
open Go Go.RowKit
section
variable{Fr:Nat->Prop}{H0:ic}{X:hZ}{pl:Pl}{H:ic}{β:Type}{r:β}{env:jO}{ae:Env}
def jg:(o:Option IntKind)->(mV o).den->Value
 |none,s=>.string s
 |some k,n=>.int k n
theorem Yw{o:Option IntKind}(a b:(mV o).den):Gd (mf o) (jg o a) (jg o b)=U (jV o a b):=by
 cases o with
 |none=>
  have: ∀a b:ByteArray,U (a==b)=U (decide (a=b)):=λa b=>by
   congr 1;by_cases e:a=b
   .rw[(MapKept.bytes_beq a b).2 e,decide_eq_true e]
   .rw[decide_eq_false e];cases h:(a==b)with
    |false=>rfl
    |true=>exact absurd ((MapKept.bytes_beq a b).1 h) e
  exact this a b
 |some k=>
  have: ∀a b:Int,(if k=k then U (a==b)else zz)=U (decide (a=b)):=λa b=>by
   grind
  exact this a b
theorem Cr(o:Option IntKind)(k:(mV o).den):mL (mf o) (jg o k)=true:=by cases o<;>rfl
theorem Fa{o:Option IntKind}{tv:TV}{a:AV}{k:(mV o).den}(h:Aw (mV o) tv=U k)(H:TR X pl tv a):a= .v (jg o k):=by
 have:=OT h H;cases o with
 |none=>exact um this
 |some q=>exact um this
theorem Yx(o:Option IntKind)(t:Ty)(V:Cs)(x:(iE o t V).den):(iE o t V).enc x= .v (.int .i64 x.1):: .v (jg o x.2.1)::(Cs.cons t V).enc x.2.2:=by
 have:(mV o).enc x.2.1= .v (jg o x.2.1):=by cases o<;>(rfl)
 rw[<-this];rfl
theorem Yy{o:Option IntKind}{t:Ty}{V:Cs}{e:List AV}{x:(iE o t V).den}(h:CC e ((iE o t V).enc x)): ∃r,e= .v (.int .i64 x.1):: .v (jg o x.2.1)::r/\CC r ((Cs.cons t V).enc x.2.2):=by
 rw[Yx]at h;have H:=h.1
 match e,H with
 | [],H=>trivial
 | [_],H=>grind
 |b::k::r,H=>
  have d:b= .v (.int .i64 x.1):=um (h.2 0 b _ rfl rfl);have g:k= .v (jg o x.2.1):=um (h.2 1 k _ rfl rfl);subst d;subst g;exact⟨r,rfl,by simp_all,λj y Y h1 h2=>h.2 (j+2) y Y (by trivial) (by trivial)⟩
theorem Yz{o:Option IntKind}{t:Ty}{V:Cs}{r:List AV}(b:Int)(k:(mV o).den){v:(Cs.cons t V).den}(h:CC r ((Cs.cons t V).enc v)):CC (.v (.int .i64 b):: .v (jg o k)::r) ((iE o t V).enc (b,(k,v))):=by
 have K:CC (.v (.int .i64 b):: .v (jg o k)::r) (.v (.int .i64 b):: .v (jg o k)::(Cs.cons t V).enc v):=by
  refine⟨by simp[h.1],λj y Y h1 h2=> ?_⟩
  match j,h1,h2 with
  |0,h1,h2=>simp at h1 h2;subst h1;subst h2;exact .refl _
  |1,h1,h2=>simp at h1 h2;subst h1;subst h2;exact .refl _
  |j+2,h1,h2=>exact h.2 j y Y (by trivial) (by trivial)
 exact Eq.mpr (congrArg (CC _) (Yx o t V _)) K
theorem Rows.tl{el:List (List AV)}{c:Cs}{e:List AV}{x:c.den}{l:List c.den}(h:Rows (e::el) c (x::l)):CC e (c.enc x)/\Rows el c l:=
 ⟨h.2 0 e x rfl rfl,by simpa using h.1,λi e v h1 h2=>h.2 (i+1) e v (by trivial) (by trivial)⟩
theorem Rows.cons{el:List (List AV)}{c:Cs}{e:List AV}{x:c.den}{l:List c.den}(h:CC e (c.enc x))(k:Rows el c l):Rows (e::el) c (x::l):=by
 refine⟨by simp[k.1],λi e' v h1 h2=> ?_⟩;cases i with
 |zero=>simp_all
 |succ i=>exact k.2 i e' v (by trivial) (by trivial)
theorem Rows.none(c:Cs):Rows [] c []:=⟨rfl,λi e v h=>by simp⟩
theorem KZ{o:Option IntKind}{t:Ty}{V:Cs}(k:(mV o).den): ∀(el:List (List AV)) (l:List (iE o t V).den) (i:Nat),Rows el (iE o t V) l->
  (tn (jV o) k l=zz/\nJ (mf o) (jg o k) el i=U zz/\ (∀(c:Int) (d:(Cs.cons t V).den),oc (jV o) c k d l=List.append l [(c,(k,d))])/\rK (jV o) k l=l)\/
  (∃p r v,tn (jV o) k l=U v/\nJ (mf o) (jg o k) el i=U (U (i+p,r))/\CC r ((Cs.cons t V).enc v)/\
   (∀c d R,CC R ((Cs.cons t V).enc d)->Rows (el.modify p (tc (.v (jg o k)) R)) (iE o t V) (oc (jV o) c k d l))/\Rows (el.eraseIdx p) (iE o t V) (rK (jV o) k l))
 | [],[],i,_=>.inl ⟨rfl,rfl,λ_ _=>rfl,rfl⟩
 | [],_::_,i,h=>by have:=h.1;trivial
 |_::_,[],i,h=>by have:=h.1;trivial
 |e::el,x::l,i,h=>by
  obtain⟨h1,h2⟩:=h.tl;obtain⟨r,rfl,z⟩:=Yy h1;simp only[nJ,Yw];cases q:jV o k x.2.1 with
  |true=>
   refine .inr ⟨0,r,x.2.2,by simp only[tn,q,cond_true],rfl,z,λc d R H=> ?_,?_⟩
   .simp only[oc,q,cond_true];exact Rows.cons (Yz x.1 k H) h2
   .simp only[rK,q];exact h2
  |false=>
   rcases KZ k el l (i+1) h2 with⟨g,w,G,y⟩| ⟨p,A,v,g,w,G,y,B⟩
   .refine .inl ⟨by simp only[tn,q,cond_false];exact g,w,λc d=> ?_,?_⟩
    .simp only[oc,q,cond_false,G];rfl
    .show(bif jV o k x.2.1 then l else x::rK (jV o) k l)=x::l;simp_all
   .refine .inr ⟨p+1,A,v,by simp only[tn,q,cond_false];exact g,by grind,G,λc d R H=> ?_,?_⟩
    .simp only[oc,q,cond_false,List.modify_succ_cons];exact Rows.cons h1 (y c d R H)
    .simp only[rK,q,List.eraseIdx_cons_succ];exact Rows.cons h1 B
theorem YA{d g:Type}(n:Int)(e:Int× (d×g))(l:List (Int× (d×g))):Ax n (e::l)=if e.1=n then U e.2 else Ax n l:=by
 show(bif decide (e.1=n)then U e.2 else Ax n l)=_;simp
theorem YB(n b:Int)(r:List AV)(el:List (List AV)):wF n ((.v (.int .i64 b)::r)::el)=if b=n then U (.v (.int .i64 b)::r)else wF n el:=by
 simp only[wF,yw];simp
theorem YC{o:Option IntKind}{t:Ty}{V:Cs}(n:Int): ∀(el:List (List AV)) (l:List (iE o t V).den),Rows el (iE o t V) l-> ∀e,Ax n l=U e->
  ∃b r,wF n el=U (b:: .v (jg o e.1)::r)/\CC r ((Cs.cons t V).enc e.2)
 | [],[],_,e,h=>by cases h
 | [],_::_,h,_,_=>by have:=h.1;trivial
 |_::_,[],h,_,_=>by trivial
 |e0::el,x::l,h,e,g=>by
  obtain⟨h1,h2⟩:=h.tl;obtain⟨r,rfl,k⟩:=Yy h1;have H:=(@YA (mV o).den (Cs.cons t V).den n x l).symm.trans g;have E:=YB n x.1 (.v (jg o x.2.1)::r) el;split at H
  .rename_i d;injection H with H;subst H
   exact⟨_,r,by rw[E,if_pos d],k⟩
  .rename_i d;rw[E,if_neg d];exact YC n el l h2 e H
theorem K0(h:ib Fr H0 X pl H){a x:Nat}{cs:List TV}(d:b_ X a=U (.st cs))(p:pl (.m a)=U x): ∃e,H[x]?=U (U ⟨cs.length,[e]⟩)/\0<cs.length/\CT X pl cs e:=by
 obtain⟨g,e,h1,h2,k,q⟩:=h.obj a _ d;simp_all
theorem K2{c:Cs}{l:List c.den}{R:AV}(h:TR X pl (.l c l) R): ∃el,Al R=U el/\Rows el c l:=by
 cases h with
 |l _ _ _ h=>
  rcases wX h with⟨rfl,h1⟩| ⟨L,rfl,h2,H⟩
  .have:l=[]:=by simp_all
   subst this;exact⟨[],rfl,Rows.none c⟩
  .refine⟨L,rfl,by simp_all,λi e v k K=> ?_⟩;grind
theorem K3{a x:Nat}{n:Int}{c:Cs}{l:List c.den}{T:List TV}(g:ib Fr H0 X pl H)(k:b_ X a=U (.st (.i .i64 n:: .l c l::T)))(p:pl (.m a)=U x)(q:T.length=1\/T.length=2):
  ∃el A R,H[x]?=U (U ⟨T.length+2,[.v (.int .i64 n)::R::A]⟩)/\ka ⟨T.length+2,[.v (.int .i64 n)::R::A]⟩=U (n,el,A)/\Rows el c l/\CT X pl T A:=by
 obtain⟨e,h1,h2,w⟩:=K0 g k p;obtain⟨c0,E,rfl,K,y⟩:=w.inv;obtain⟨R,d,rfl,z,B⟩:=y.inv;cases K;obtain⟨el,C,D⟩:=K2 z;refine⟨el,d,R,by trivial,?_,D,B⟩;unfold ka;simp only[C];rcases q with h|h<;>rw[h]<;>rfl
theorem K4{o:Option IntKind}{t:Ty}{V:Cs}{x:TV}{g:AV}{a:Nat}{n:Int}{l:List (iE o t V).den}{T:List TV}(h:uP o t V X x=U (a,n,l,T))(q:TR X pl x g)(w:ib Fr H0 X pl H):
  ∃y el A R,x= .np a/\g= .np y/\pl (.m a)=U y/\b_ X a=U (.st (.i .i64 n:: .l (iE o t V) l::T))/\ (T.length=1\/T.length=2)/\
   H[y]?=U (U ⟨T.length+2,[.v (.int .i64 n)::R::A]⟩)/\ka ⟨T.length+2,[.v (.int .i64 n)::R::A]⟩=U (n,el,A)/\Rows el (iE o t V) l/\CT X pl T A:=by
 unfold uP at h;split at h
 .rename_i F;split at h
  .rename_i n' c l' d k;split at h
   .rename_i L z;obtain⟨p,E⟩:=iU h;injection E with E;injection E with e3 E;injection E with e4 E;injection E with e5 e6
    subst e3;subst e4;subst e5;subst e6;obtain⟨B,el⟩:=tG z;subst B;subst el;simp at p;obtain⟨y,rfl,C⟩:=tI k q;obtain⟨el,D,R,K,G,I,J⟩:=K3 w k C p;grind
   trivial
  trivial
 trivial
theorem Ytn{o o':Option IntKind}(h:mV o=mV o'):o=o':=by
 cases o<;>cases o'<;>simp[mV]at h<;>first|rfl|simp[h]
def qI(o:Option IntKind)(c:Cs)(el:List (List AV))(l:List (iE o (.l c) .nil).den):Prop:=
 el.length=l.length/\ ∀(i:Nat) (e:List AV) (x:(iE o (.l c) .nil).den),el[i]?=U e->l[i]?=U x-> ∃r,e=[.v (.int .i64 x.1),.v (jg o x.2.1),r]
theorem qI.tl{o:Option IntKind}{c:Cs}{e:List AV}{el:List (List AV)}{x:(iE o (.l c) .nil).den}{l:List (iE o (.l c) .nil).den}(h:qI o c (e::el) (x::l)):(∃r,e=[.v (.int .i64 x.1),.v (jg o x.2.1),r])/\qI o c el l:=
 ⟨h.2 0 e x rfl rfl,by simpa using h.1,λi e v h1 h2=>h.2 (i+1) e v h1 h2⟩
theorem K5{o:Option IntKind}{c:Cs}(k:(mV o).den): ∀(el:List (List AV)) (l:List (iE o (.l c) .nil).den) (i:Nat),qI o c el l->
  (tn (jV o) k l=zz/\wQ (jV o) k l=l.length/\nJ (mf o) (jg o k) el i=U zz/\ (∀(n:Int) (d:List c.den),oc (jV o) n k d l=List.append l [(n,(k,d))])/\rK (jV o) k l=l)\/
  (∃p x r,l[p]?=U x/\el[p]?=U [.v (.int .i64 x.1),.v (jg o x.2.1),r]/\wQ (jV o) k l=p/\tn (jV o) k l=U x.2.2/\nJ (mf o) (jg o k) el i=U (U (i+p,[r]))/\
   (∀(n:Int) (d:List c.den),oc (jV o) n k d l=l.set p (x.1,(k,d)))/\rK (jV o) k l=l.eraseIdx p)
 | [],[],i,_=>.inl ⟨rfl,rfl,rfl,λ_ _=>rfl,rfl⟩
 | [],_::_,i,h=>by have:=h.1;simp at this
 |_::_,[],i,h=>by have:=h.1;simp at this
 |e::el,x::l,i,h=>by
  obtain⟨⟨r,rfl⟩,h2⟩:=h.tl;simp only[nJ,Yw];cases q:jV o k x.2.1 with
  |true=>
   refine .inr ⟨0,x,r,rfl,rfl,?_,?_,rfl,λn d=> ?_,?_⟩
   .show(bif jV o k x.2.1 then 0 else wQ (jV o) k l+1)=0;rw[q];rfl
   .simp only[tn,q,cond_true]
   .simp only[oc,q,cond_true];rfl
   .simp only[rK,q,cond_true];rfl
  |false=>
   have H:wQ (jV o) k (x::l)=wQ (jV o) k l+1:=by
    show(bif jV o k x.2.1 then 0 else wQ (jV o) k l+1)=_;rw[q];rfl
   have B:tn (jV o) k (x::l)=tn (jV o) k l:=by simp only[tn,q,cond_false]
   have hd:rK (jV o) k (x::l)=x::rK (jV o) k l:=by
    show(bif jV o k x.2.1 then l else x::rK (jV o) k l)=_;rw[q];rfl
   have C: ∀(n:Int) (d:List c.den),oc (jV o) n k d (x::l)=x::oc (jV o) n k d l:=λn d=>by
    show(bif jV o k x.2.1 then(x.1,(k,d))::l else x::oc (jV o) n k d l)=_;rw[q];rfl
   rcases K5 k el l (i+1) h2 with⟨g,G,w,z,A⟩| ⟨p,y,R,g,G,w,z,A,D,E⟩
   .exact .inl ⟨B.trans g,H.trans (congrArg (· +1) G),w,λn d=>(C n d).trans (congrArg (List.cons x) (z n d)),hd.trans (congrArg (List.cons x) A)⟩
   .refine .inr ⟨p+1,y,R,g,G,H.trans (congrArg (· +1) w),B.trans z,?_,λn d=>(C n d).trans (congrArg (List.cons x) (D n d)),hd.trans (congrArg (List.cons x) E)⟩;have:nJ (mf o) (jg o k) el (i+1)=U (U (i+(p+1),[R])):=by rw[A];congr 3;omega
    exact this
theorem O3{a:Nat}{o:Option IntKind}{n:Int}{c:Cs}{g:Option Nat}{i:Nat}{e:List AV}{x:(iE o (.l c) .nil).den}(h:wV pl H a (.mp o n) c g i e x):
  ∃r,e=[.v (.int .i64 x.1),.v (jg o x.2.1),r]/\ (g≠U i-> ∃y el',pl (.n a i)=U y/\r= .ref y 0 (List.length x.2.2)/\H[y]?=U (U ⟨c.width,el'⟩)/\Rows el' c x.2.2):=by
 obtain⟨d,r,rfl,h2,p⟩:=h;have hd:d=[.v (.int .i64 x.1),.v (jg o x.2.1)]:=by
  have E:(Hd.mp o n).A.enc (da c (Hd.mp o n).A x)=[.v (.int .i64 x.1),.v (jg o x.2.1)]:=by
   have:(mV o).enc x.2.1= .v (jg o x.2.1):=by cases o<;>rfl
   rw[<-this];rfl
  rw[E]at h2
  match d,h2.1 with
  | [k,V],_=>
    rw[show k=_ from um (h2.2 0 k _ rfl rfl),show V=_ from um (h2.2 1 V _ rfl rfl)]
 subst hd;refine⟨r,rfl,λq=> ?_⟩;rcases p q with h| ⟨h,_⟩
 .exact h
 .cases h
theorem Yto{o:Option IntKind}{n:Int}{c:Cs}(b:Int)(k:(mV o).den)(L:List c.den)(r:AV): ∃d,[.v (.int .i64 b),.v (jg o k),r]=d++[r]/\CC d ((Hd.mp o n).A.enc (da c (Hd.mp o n).A (show(sn c (Hd.mp o n).A).den from(b,(k,L))))):=by
 refine⟨[.v (.int .i64 b),.v (jg o k)],rfl,?_⟩;have E:(Hd.mp o n).A.enc (da c (Hd.mp o n).A (show(sn c (Hd.mp o n).A).den from(b,(k,L))))=[.v (.int .i64 b),.v (jg o k)]:=by
  have:(mV o).enc k= .v (jg o k):=by cases o<;>rfl
  rw[<-this];rfl
 rw[E];exact⟨rfl,λj x X h1 h2=>by rw[h1]at h2;injection h2 with h2;subst h2;exact .refl _⟩
theorem K6{o:Option IntKind}{x:TV}{A:AV}{f:uO o}(h:yK o X x=U f)(q:TR X pl x A)(w:ib Fr H0 X pl H):
  ∃y el,x= .np f.a/\A= .np y/\pl (.m f.a)=U y/\b_ X f.a=U (.fm (.mp o f.n) f.c f.lV f.hole f.l)/\H[y]?=U (U ⟨3,[[.v (.int .i64 f.n),.rd 3 el,.v (.bool zj)]]⟩)/\0<f.c.width/\
   (∀(i:Nat) (e:List AV) (v:(iE o (.l f.c) .nil).den),el[i]?=U e->f.l[i]?=U v->wV pl H f.a (.mp o f.n) f.c f.hole i e v)/\qI o f.c el f.l/\
   ka ⟨3,[[.v (.int .i64 f.n),.rd 3 el,.v (.bool zj)]]⟩=U (f.n,el,[.v (.bool zj)]):=by
 unfold yK at h;split at h
 .rename_i a;split at h
  .rename_i o' n c V g l d;split at h
   .rename_i L z;injection h with h;subst h
    obtain⟨E,el⟩:=tG z;have B:o'=o:=by
     injection E with _ E;injection E with E _
     exact Ytn E
    subst B;have el:l=L:=el;subst el;obtain⟨y,rfl,p⟩:=tI d q;obtain⟨Y,el,h1,h2,C,D,k⟩:=w.obj a _ d;rw[p]at h1;injection h1 with h1;subst h1
    refine⟨y,el,rfl,rfl,p,d,h2,C,k,⟨D,λi e x K F=> ?_⟩,rfl⟩;obtain⟨r,h,_⟩:=O3 (k i e x K F);exact⟨r,h⟩
   .cases h
  .cases h
 .cases h
theorem YD(A:ib Fr H0 X pl H){o:Option IntKind}{f:uO o}{el:List (List AV)}(d:b_ X f.a=U (.fm (.mp o f.n) f.c f.lV f.hole f.l))(g:f.hole=zz)
  (k: ∀(i:Nat) (e:List AV) (v:(iE o (.l f.c) .nil).den),el[i]?=U e->f.l[i]?=U v->wV pl H f.a (.mp o f.n) f.c f.hole i e v) {p:Nat} {x:(iE o (.l f.c) .nil).den} {r:AV} (h1:f.l[p]?=U x) (h2:el[p]?=U [.v (.int .i64 x.1),.v (jg o x.2.1),r]):
  TR X pl (.sub f.a f.lV p) r:=by
 obtain⟨R,e,q⟩:=O3 (k p _ x h2 h1);simp only[List.cons.injEq,and_true,true_and]at e;subst e;obtain⟨y,el',G,w,B,C⟩:=q (by rw[g];simp);rw[g]at d;have h:=(iP.1 h1).1;have z:lX (sn f.c (Hd.mp o f.n).A) f.l p=x:=by
  have:=tH (c:=iE o (.l f.c) .nil) h;rw[h1]at this;injection this with this;exact this.symm
 have:=TR.sub (X:=X) (pl:=pl) f.a f.lV p y (.mp o f.n) f.c f.l d h G;unfold kG at this;rw[z]at this;rw[w];exact this
theorem YE{o:Option IntKind}(k:(mV o).den)(d:Nat)(h:d=1):(im 3 (d+2)&&mL (mf o) (jg o k))=true:=by rw[h,Cr];rfl
theorem Ytp{o:Option IntKind}{t:Ty}{V:Cs}{g ok:Bool}{m:TV}{P:AV}{k:(mV o).den}{f:uO o}{K:TV->hZ->Option β}(D:yK o X m=U f)(Q:f.hole=zz)(R:(im (nH g) 1&& (Ty.l f.c).eqb t&&Ay g V)=zZ)(h:wR ok (.sub f.a f.lV (wQ (jV o) k f.l)) (B' (jV o) k f.l) X K=U r)(T:TR X pl m P)(E:ib Fr H0 X pl H)
  {KA:AV->List jy->Prop} (S: ∀v d,K v X=U r->TR X pl v d->KA d []):
  ∃v us,xF (.mget (mf o) (nH g) ok) [P,.v (jg o k),G4 g (.cons t V)] (hf H) H.length=U (v,us)/\KA v us:=by
 obtain⟨y,el,rfl,rfl,hp,C,W,h0,Y,w,q⟩:=K6 D T E;simp only[iI]at R;obtain⟨⟨G,I⟩,J⟩:=R;have z:=jr G;have L:g=false:=by cases g with|true=>cases z|false=>rfl
 subst L;have Z:=Ty.jd I;subst Z;have hV:V= .nil:=by
  cases V with
  |nil=>rfl
  |cons _ _=>have:=jr J;cases this
 subst hV;have A:hf H y=U (U ⟨3,[[.v (.int .i64 f.n),.rd 3 el,.v (.bool zj)]]⟩):=W;have B:=YE k (nH zj) z;have F: ∀(v:TV) (d:AV) (is:Bool),TR X pl v d->wR ok v is X K=U r->KA (n_ ok d is) []:=by
  intro v d is hv h;cases ok with
  |true=>exact S _ _ h (.tp _ _ rfl (λj c a h1 h2=>by
   match j,h1,h2 with
   |0,h1,h2=>simp_all
   |1,h1,h2=>simp at h1 h2;subst h1;subst h2;exact .b _
   |j+2,h1,h2=>simp at h1))
  |false=>exact S _ _ h hv
 rcases K5 k el f.l 0 w with⟨M,N,O,_⟩| ⟨p,x,r0,M,N,O,g4,g5,_⟩
 .refine⟨n_ ok (G4 zj (.cons (.l f.c) .nil)) zj,[],by simp only[xF,A,q,B,cond_true,O],?_⟩;refine F _ _ _ ?_ (by simpa only[B',M]using h);rw[N];rw[Q]at C;exact TR.tD f.a f.lV f.l.length (.mp o f.n) f.c f.l C (YsU E C (.inl (jG _))) (YsW (hd:=.mp o f.n) (jG _))
 .refine⟨n_ ok r0 zZ,[],by simp only[xF,A,q,B,cond_true,g5];rfl,?_⟩;refine F _ _ _ ?_ (by simpa only[B',g4]using h);rw[O];exact YD E C Q Y M N
theorem Ytq{c:Cs}{v:TV}{C:AV}{b:Nat}{p:List c.den}(h:uN c X v=U (b,p))(D:TR X pl v C)(E:ib Fr H0 X pl H): ∃y el,C= .ref y 0 p.length/\pl (.m b)=U y/\b_ X b=U (.sq c p)/\H[y]?=U (U ⟨c.width,el⟩)/\Rows el c p:=by
 have K: ∀{c':Cs} {L:List c'.den} {p:List c.den} {b:Nat},b_ X b=U (.sq c' L)->m_ c' c L=U p->b_ X b=U (.sq c p):=by
  intro c' L p b h1 h2;obtain⟨F,I⟩:=tG h2;subst F;subst I;exact h1
 unfold uN at h;split at h
 .rename_i J;split at h
  .rename_i c' L d;split at h
   .rename_i z A;injection h with h;injection h with h1 h2;subst h1;subst h2
    have d:=K d A;obtain⟨y,n,rfl,q,w⟩:=py d D;simp only[iz]at w;injection w with w;subst w
    obtain⟨Y,el,g,G,M,B⟩:=E.obj _ _ d;rw[q]at g;injection g with g;subst g
    exact⟨y,el,rfl,q,d,G,B⟩
   .cases h
  .cases h
 .rename_i J n;split at h
  .rename_i c' L d;split at h
   .rename_i z A;obtain⟨e0,h⟩:=lA h;injection h with h;injection h with h1 h2;subst h1;subst h2
    have d:=K d A;obtain⟨y,k,rfl,q,w,_,_⟩:=E_ d D;obtain⟨Y,el,g,G,M,B⟩:=E.obj _ _ d;rw[q]at g;injection g with g;subst g
    exact⟨y,el,by rw[e0];rfl,q,d,G,B⟩
   .cases h
  .cases h
 .cases h
theorem Ytr{c:Cs}{v:TV}{K:Nat->List c.den->Option β}(h:yJ c X v K=U r): ∃b L,uN c X v=U (b,L)/\K b L=U r:=by
 cases v with
 |ref b=>
  simp only[yJ,uN]at h⊢;cases g:b_ X b with
  |none=>rw[g]at h;cases h
  |some o=>
   cases o with
   |sq c' L=>
    simp only[g]at h⊢;cases H:m_ c' c L with
    |none=>rw[H]at h;cases h
    |some d=>simp only[H]at h⊢;exact⟨_,_,rfl,h⟩
   |_=>simp only[g]at h;cases h
 |pre b n=>
  simp only[yJ,uN]at h⊢;cases g:b_ X b with
  |none=>rw[g]at h;cases h
  |some o=>
   cases o with
   |sq c' L=>
    simp only[g]at h⊢;cases H:m_ c' c L with
    |none=>rw[H]at h;cases h
    |some d=>
     simp only[H]at h⊢;obtain⟨e0,h⟩:=lA h;exact⟨_,_,by rw[e0];simp[e_],h⟩
   |_=>simp only[g]at h;cases h
 |_=>cases h
theorem YF{o:Option IntKind}{t:Ty}{V:Cs}{O:Bool}{m v:TV}{am av:AV}{k:(mV o).den}{f:uO o}{b:Nat}{L:List f.c.den}{K:TV->hZ->Option β}(a2:yK o X m=U f)(hb:(im (nH O) 1&& (Ty.l f.c).eqb t&&Ay O V)=zZ)(hs:uN f.c X v=U (b,L))(hh:f.hole=zz\/f.hole=U (wQ (jV o) k f.l))
  (h:K .u (hU (hU X b zz) f.a (U (.fm (.mp o (tq (jV o) f.n k f.l)) f.c (f.lV+1) zz (oc (jV o) f.n k L f.l))))=U r) (hm:TR X pl m am) (hv:TR X pl v av) (G:ib Fr H0 X pl H)
  {KA:AV->List jy->Prop} (hK: ∀v X' va us,K v X'=U r->oW Fr H0 X pl H v X' va us->KA va us):
  ∃w us,xF (.mput (mf o) (nH O) (iE o t V).width) [am,.v (jg o k),av] (hf H) H.length=U (w,us)/\KA w us:=by
 obtain⟨y,el,rfl,rfl,hp,ho,hy,h0,h6,g,P⟩:=K6 a2 hm G;simp only[iI]at hb;obtain⟨⟨a3,a4⟩,a5⟩:=hb;have Q:=jr a3;have a6:O=false:=by cases O with|true=>cases Q|false=>rfl
 subst a6;have ht:=Ty.jd a4;subst ht;have hV:V= .nil:=by
  cases V with
  |nil=>rfl
  |cons _ _=>have:=jr a5;cases this
 subst hV;obtain⟨Y,a7,rfl,I,D,a8,a9⟩:=Ytq hs hv G;have R:hf H y=U (U ⟨3,[[.v (.int .i64 f.n),.rd 3 el,.v (.bool zj)]]⟩):=hy;have S:=YE k (nH zj) Q;have T:b≠f.a:=λe=>by rw[e,ho]at D;cases D
 have aj:=ki ho;have aa:=ki D;have C:yu (nH zj) (.ref Y 0 L.length)=U [.ref Y 0 L.length]:=rfl;have J: ∀j z,pl (.n f.a j)=U z->j<f.l.length/\f.hole≠U j:=λj z E=>by
  rcases yV G ho E rfl with e| ⟨j',e,h1,h2⟩
  .cases e
  .injection e with _ e;subst e;exact⟨h1,h2⟩
 have go: ∀{n':Int} {l':List (iE o (.l f.c) .nil).den} {el':List (List AV)} (q:Nat),q<l'.length->f.l.length<=l'.length->(∀j,f.hole=U j->j=q)->tq (jV o) f.n k f.l=n'->oc (jV o) f.n k L f.l=l'->el'.length=l'.length->
   (∀(i:Nat) (e:List AV) (x:(iE o (.l f.c) .nil).den),i≠q->el'[i]?=U e->l'[i]?=U x-> ∃e0,el[i]?=U e0/\e=e0/\f.l[i]?=U x)->(∃W,el'[q]?=U [.v (.int .i64 W),.v (jg o k),.ref Y 0 L.length]/\l'[q]?=U (W,(k,L)))->
   KA .u [.set y (U ⟨3,[[.v (.int .i64 n'),.rd 3 el',.v (.bool zj)]]⟩)]:=by
  intro n' l' el' q hq ab M hn hl ac Z ⟨W,ad,ae⟩;have h':K .u (hU (hU X b zz) f.a (U (.fm (.mp o n') f.c (f.lV+1) zz l')))=U r:=by subst hn;subst hl;exact h
  obtain⟨af,k1,k2,_⟩:=KU G (m:=b) (hd':=.mp o n') (ver':=f.lV+1) (l':=l') (el:=el') (X':=hU (hU X b zz) f.a (U (.fm (.mp o n') f.c (f.lV+1) zz l'))) (src:=λj=>if j=q then U Y else pl (.n f.a j))
   ho hp (.inr ⟨by rw[nt _ (Ne.symm T)];exact oV _ aa,L,D⟩) (by rw[km,km]) (oV _ (by rw[km];omega)) (λb' h1 h2=>by rw[nt _ (Ne.symm h1),nt _ (Ne.symm h2)]) (by omega) rfl rfl h0
   (λj z E=>by
    by_cases e:j=q
    .rw[if_pos e]at E;injection E with E;subst E;exact⟨e▸hq,.inr ⟨T,I⟩⟩
    .rw[if_neg e]at E;exact⟨mS (J j z E).1 ab,.inl ⟨j,E⟩⟩)
   (λi j z h1 h2=>by
    by_cases F:i=q<;>by_cases e2:j=q
    .rw[F,e2]
    .rw[if_pos F]at h1;rw[if_neg e2]at h2;injection h1 with h1;subst h1;have:=G.inj _ _ _ h2 I;cases this
    .rw[if_neg F]at h1;rw[if_pos e2]at h2;injection h2 with h2;subst h2;have:=G.inj _ _ _ h1 I;cases this
    .rw[if_neg F]at h1;rw[if_neg e2]at h2;have:=G.inj _ _ _ h1 h2;injection this) ac (by
    intro i e x h1 h2;by_cases F:i=q
    .subst F;rw[ad]at h1;injection h1 with h1;subst h1
     have N:U (W,(k,L))=U x:=ae.symm.trans h2;injection N with N;subst N
     obtain⟨d,d1,d2⟩:=Yto (o:=o) (n:=n') (c:=f.c) W k L (.ref Y 0 L.length);exact⟨d,_,d1,d2,.inl ⟨Y,a7,if_pos rfl,rfl,a8,a9⟩⟩
    .obtain⟨e0,h3,rfl,h4⟩:=Z i e x F h1 h2;obtain⟨d,r0,q1,q2,q3⟩:=wY (h6 i e x h3 h4) (λhc=>F (M i hc));refine⟨d,r0,q1,q2,?_⟩;rw[if_neg F];exact q3)
  exact hK _ _ .u _ h' ⟨af,.u _,⟨k1,k2⟩,.inl (by rw[km,km])⟩
 rcases K5 k el f.l 0 g with⟨g1,g2,g3,g4,_⟩| ⟨p,x,r0,g1,g2,g3,g4,g5,g6,_⟩
 .have ah:=g4 f.n L;refine⟨.u,_,by simp only[xF,R,P,S,cond_true,C,g3];rfl,?_⟩;let x0:(iE o (.l f.c) .nil).den:=(f.n,(k,L));have A:(f.l++[x0]).length=f.l.length+1:=by rw[nV];rfl
  refine go (n':=f.n+1) (l':=f.l++[x0]) f.l.length (by rw[A];omega) (by rw[A];omega) (λj B=> ?_) (by simp only[tq,g1]) ah (by rw[A,nV,g.1];rfl) (λi e x hi h1 h2=> ?_) ⟨f.n,?_,?_⟩
  .rcases hh with e|e
   .rw[e]at B;cases B
   .rw[e]at B;injection B with B;rw[<-B,g2]
  .have a0:i<f.l.length:=by
    have:=(iP.1 h2).1;rw[A]at this;omega
   rw[ld (by rw[g.1];exact a0)]at h1;rw[ld a0]at h2;exact⟨e,h1,rfl,h2⟩
  .rw[<-g.1,List.getElem?_concat_length]
  .exact List.getElem?_concat_length
 .have ai:=g6 f.n L;have a1:=(iP.1 g1).1;refine⟨.u,_,by simp only[xF,R,P,S,cond_true,C,g5];rfl,?_⟩;let x0:(iE o (.l f.c) .nil).den:=(x.1,(k,L));have A:(f.l.set p x0).length=f.l.length:=List.length_set;refine go (n':=f.n) (l':=f.l.set p x0) p (by rw[A];exact a1) (by rw[A];omega) (λj B=> ?_) (by simp only[tq,g4]) ai (by rw[A,List.length_modify];exact g.1) (λi e x' hi h1 h2=> ?_) ⟨x.1,?_,o_ a1⟩
  .rcases hh with e|e
   .rw[e]at B;cases B
   .rw[e]at B;injection B with B;rw[<-B,g3]
  .rw[mD,List.getElem?_modify_ne _ _ (Ne.symm hi)]at h1;rw[mR (Ne.symm hi)]at h2;exact⟨e,h1,rfl,h2⟩
  .rw[mD,List.getElem?_modify_eq,g2];rfl
theorem Yts{o:Option IntKind}{t:Ty}{V:Cs}{m:TV}{L:AV}{k:(mV o).den}{f:uO o}{K:TV->hZ->Option β}(E:yK o X m=U f)(T:f.hole=zz)(W:Cs.eqb (iE o t V) (iE o (.l f.c) .nil)=zZ)
  (h:K .u (hU X f.a (U (.fm (.mp o f.n) f.c (f.lV+1) zz (rK (jV o) k f.l))))=U r) (Y:TR X pl m L) (F:ib Fr H0 X pl H)
  {KA:AV->List jy->Prop} (Z: ∀v X' M us,K v X'=U r->oW Fr H0 X pl H v X' M us->KA M us):
  ∃w us,xF (.mdel (mf o) (iE o t V).width) [L,.v (jg o k)] (hf H) H.length=U (w,us)/\KA w us:=by
 obtain⟨y,el,rfl,rfl,hp,N,hy,h0,h6,q,A⟩:=K6 E Y F;rw[Cs.jd W];have B:hf H y=U (U ⟨3,[[.v (.int .i64 f.n),.rd 3 el,.v (.bool zj)]]⟩):=hy;have G:=ki N;have O: ∀{l':List (iE o (.l f.c) .nil).den} {el':List (List AV)} (g:Nat->Nat),(∀i j,g i=g j->i=j)->rK (jV o) k f.l=l'->el'.length=l'.length->(∀i,i<l'.length->l'[i]?=f.l[g i]?/\el'[i]?=el[g i]?)->
   KA .u [.set y (U ⟨3,[[.v (.int .i64 f.n),.rd 3 el',.v (.bool zj)]]⟩)]:=by
  intro l' el' g hg hl I C;have h':K .u (hU X f.a (U (.fm (.mp o f.n) f.c (f.lV+1) zz l')))=U r:=by subst hl;exact h
  obtain⟨P,k1,k2,_⟩:=KU F (m:=f.a) (hd':=.mp o f.n) (ver':=f.lV+1) (l':=l') (el:=el') (X':=hU X f.a (U (.fm (.mp o f.n) f.c (f.lV+1) zz l'))) (src:=λj=>if j<l'.length then pl (.n f.a (g j))else zz)
   N hp (.inl rfl) (km _ _ _) (oV _ G) (λb' h1 _=>by rw[nt _ (Ne.symm h1)]) (by omega) rfl rfl h0
   (λj z J=>by
    split at J
    .rename_i hj;exact⟨hj,.inl ⟨_,J⟩⟩
    .cases J)
   (λi j z h1 h2=>by
    split at h1<;>split at h2
    .have:=F.inj _ _ _ h1 h2;injection this with _ this;exact hg _ _ this
    .cases h2
    .cases h1
    .cases h1) I (by
    intro i e x h1 h2;have D:i<l'.length:=(iP.1 h2).1;obtain⟨q1,q2⟩:=C i D;obtain⟨d,r0,p1,p2,p3⟩:=wY (h6 (g i) e x (q2.symm.trans h1) (q1.symm.trans h2)) (by rw[T];simp);refine⟨d,r0,p1,p2,?_⟩;rw[if_pos D];exact p3)
  exact Z _ _ .u _ h' ⟨P,.u _,⟨k1,k2⟩,.inl (km _ _ _)⟩
 rcases K5 k el f.l 0 q with⟨Q,g2,R,_,S⟩| ⟨p,x,r0,Q,g2,R,S,g5,_,g7⟩
 .refine⟨.u,_,by simp only[xF,B,A,Cr,cond_true,R];rfl,?_⟩;exact O id (λi j h=>h) S q.1 (λi D=>⟨rfl,rfl⟩)
 .have a0:=(iP.1 Q).1;refine⟨.u,_,by simp only[xF,B,A,Cr,cond_true,g5];rfl,?_⟩;refine O (λi=>if i<p then i else i+1) (λi j h=> ?_) g7 (by rw[mD,List.length_eraseIdx,List.length_eraseIdx,q.1]) (λi D=> ?_)
  .by_cases e1:i<p<;>by_cases e2:j<p<;>simp[e1,e2]at h<;>omega
  .rw[mD,List.getElem?_eraseIdx,List.getElem?_eraseIdx];by_cases e:i<p<;>simp[e]
theorem Ytt(o:Option IntKind)(c:Cs)(h0:0<c.width)(d:ib Fr H0 X pl H):
  oW Fr H0 X pl H (.np X.length) (X++[U (.fm (.mp o 0) c 0 zz [])]) (.np H.length) [.push (U ⟨3,[[.v (.int .i64 0),.rd 3 [],.v (.bool zj)]]⟩)]:=by
 obtain⟨k,K⟩:=pw d (.fm (.mp o 0) c 0 zz []) ⟨3,[[.v (.int .i64 0),.rd 3 [],.v (.bool zj)]]⟩
  (λ_=>⟨H.length,[],by unfold iF;simp,by simp[Hd.obj],h0,rfl,λi e v h=>by simp at h⟩)
 exact⟨_,.np X.length H.length _ (nI X _) (by unfold iF;simp),⟨k,K⟩,.inr ⟨by simp,by unfold iF;simp⟩⟩
theorem YG{o:Option IntKind}{c:Cs}(n:Int): ∀(el:List (List AV)) (l:List (iE o (.l c) .nil).den),qI o c el l-> ∀e,Ax n l=U e->
  ∃q x r,E1 n l=q/\l[q]?=U x/\el[q]?=U [.v (.int .i64 x.1),.v (jg o x.2.1),r]/\x.2=e/\wF n el=U [.v (.int .i64 x.1),.v (jg o x.2.1),r]
 | [],[],_,e,h=>by cases h
 | [],_::_,h,_,_=>by have:=h.1;simp at this
 |_::_,[],h,_,_=>by have:=h.1;simp at this
 |e0::el,x::l,h,e,k=>by
  obtain⟨⟨r,rfl⟩,h2⟩:=h.tl;have H:=(YA n x l).symm.trans k;have E:=YB n x.1 [.v (jg o x.2.1),r] el;have d: ∀(x:Int× ((mV o).den×List c.den)) (l:List (Int× ((mV o).den×List c.den))),E1 n (x::l)=if x.1=n then 0 else E1 n l+1:=λx l=>by
   show(bif decide (x.1=n)then 0 else E1 n l+1)=_;simp
  replace d:=d x l;split at H
  .rename_i g;injection H with H
   rw[if_pos g]at d;exact⟨0,x,r,d,rfl,rfl,H,by rw[E,if_pos g]⟩
  .rename_i g;rw[if_neg g]at d;obtain⟨q,X,R,Q,p,w,y,z⟩:=YG n el l h2 e H;exact⟨q+1,X,R,d.trans (congrArg (· +1) Q),p,w,y,by rw[E,if_neg g];exact z⟩
theorem O4{g:Bool}{t:Ty}{V:Cs}{v:(Cs.cons t V).den}{R:List AV}(k:Ay g V=zZ)(h:CC R ((Cs.cons t V).enc v)): ∃y,pe (nH g) R=U y/\TR X pl (KJ g (.cons t V) v) y:=by
 have H:=yT (X:=X) (pl:=pl) (Cs.cons t V) v h;cases g with
 |true=>exact⟨.agg R,rfl,.ag _ _ H.1 H.2⟩
 |false=>
  cases V with
  |cons _ _=>trivial
  |nil=>
   have d:=h.1
   match R,d with
   | [a],_=>
     refine⟨a,rfl,?_⟩;obtain⟨A,h1,h2⟩:=H.get (j:=0) (c:=nx t (kU .nil v)) rfl;simp at h1;subst h1;exact h2
theorem Ytu{o:Option IntKind}{t:Ty}{V:Cs}{g ok:Bool}{m k:TV}{S W:AV}{K:TV->hZ->Option β}(h:OI o t V g ok m k X K=U r)(Y:TR X pl m S)(Z:TR X pl k W)(hr:ib Fr H0 X pl H)
  (hz:CC ((Cs.cons t V).kS.map zc) ((Cs.cons t V).enc (Cs.cons t V).qC)) {KA:AV->List jy->Prop} (I: ∀v w,K v X=U r->TR X pl v w->KA w []):
  ∃v us,xF (.mget (mf o) (nH g) ok) [S,W,G4 g (.cons t V)] (hf H) H.length=U (v,us)/\KA v us:=by
 unfold OI at h;split at h
 .rename_i a n l T J D d;obtain⟨y,el,L,R,rfl,rfl,hp,ho,hl,hy,A,B,a0⟩:=K4 D Y hr;obtain⟨E,G⟩:=iU h;simp at E;obtain⟨E,e3⟩:=E;have q:=Fa d Z;subst q;have C:hf H y=U (U ⟨T.length+2,[.v (.int .i64 n)::R::L]⟩):=hy;have hb:(im (T.length+2) (nH g+2)&&mL (mf o) (jg o J))=true:=by rw[E,Nat.beq_refl,Cr];rfl
  have mz: ∃z,TR X pl (KJ g (.cons t V) (Cs.cons t V).qC) z/\G4 g (.cons t V)=z:=by
   obtain⟨z,h1,h2⟩:=O4 (X:=X) (pl:=pl) e3 hz;refine⟨z,h2,?_⟩;cases g with
   |true=>injection h1
   |false=>
    cases V with
    |cons _ _=>trivial
    |nil=>injection h1
  have F: ∀(v:TV) (w:AV) (is:Bool),TR X pl v w->wR ok v is X K=U r->KA (n_ ok w is) []:=by
   intro v w is D h;cases ok with
   |true=>exact I _ _ h (.tp _ _ rfl (λj c a h1 h2=>by
    match j,h1,h2 with
    |0,h1,h2=>simp_all
    |1,h1,h2=>simp at h1 h2;subst h1;subst h2;exact .b _
    |j+2,h1,h2=>trivial))
   |false=>exact I _ _ h D
  rcases KZ J el l 0 B with⟨M,N,_,_⟩| ⟨p,rr,v,M,N,g3,_,_⟩
  .obtain⟨z,O,P⟩:=mz;refine⟨n_ ok z zj,[],?_,F _ _ _ O ?_⟩
   .simp only[xF,C,A,hb,cond_true,N,P]
   .simpa only[B9,B',M]using G
  .obtain⟨yv,q1,q2⟩:=O4 (X:=X) (pl:=pl) e3 g3;refine⟨n_ ok yv zZ,[],?_,F _ _ _ q2 ?_⟩
   .simp only[xF,C,A,hb,cond_true,N,q1]
   .simpa only[B9,B',M]using G
 .rename_i J D d;have q:=Fa d Z;subst q;split at h
  .rename_i f Q;split at h
   .rename_i hh;obtain⟨E,G⟩:=iU h;exact Ytp Q hh E G Y hr I
   .cases h
  .cases h
 .cases h
theorem K7(d:ib Fr H0 X pl H){a y:Nat}{cs ds:List TV}{e':List AV}(g:b_ X a=U (.st cs))(p:pl (.m a)=U y){e:List AV}(q:H[y]?=U (U ⟨cs.length,[e]⟩))(w:ds.length=cs.length)(h0:0<ds.length)(h:CT X pl ds e'):
  oW Fr H0 X pl H .u (hU X a (U (.st ds))) .u [.set y (U ⟨cs.length,[e']⟩)]:=by
 refine⟨pl,.u _,?_,.inl (km _ _ _)⟩;exact E9 d g p _ rfl rfl (λ_ _ _ _ _ e=>by cases e) (λ_ _ _ _ _ e=>by cases e) (λk=>⟨y,e',p,by grind,h0,h.ext k⟩)
theorem AG{c:Cs}{l:List c.den}{el:List (List AV)}(h:Rows el c l):TR X pl (.l c l) (.rd c.width el):=.l c l _ (kD h)
theorem Ytv{a x:AV}(H: ∀ds,a≠ .agg ds)(h:cellsOf a=U [x]):yu 1 a=U [x]:=by
 cases a<;>first|exact absurd rfl (H _)| (simp only[yu,h])
theorem Ytw{o:Option IntKind}{t:Ty}{V:Cs}{ag:Bool}{m k v:TV}{am ak W:AV}{K:TV->hZ->Option β}(h:OJ o t V ag m k v X K=U r)(Z:TR X pl m am)(hk:TR X pl k ak)(J:TR X pl v W)(L:ib Fr H0 X pl H)
  {KA:AV->List jy->Prop} (Y: ∀v X' va us,K v X'=U r->oW Fr H0 X pl H v X' va us->KA va us):
  ∃w us,xF (.mput (mf o) (nH ag) (iE o t V).width) [am,ak,W] (hf H) H.length=U (w,us)/\KA w us:=by
 unfold OJ at h;split at h
 .rename_i a n l T z M D;obtain⟨y,el,F,R,rfl,rfl,hp,ho,hl,hy,N,B,C⟩:=K4 M Z L;obtain⟨G,E⟩:=iU h;simp at G;obtain⟨G,e3,e4⟩:=G;have I:=Fa D hk;subst I;split at E
  .rename_i cs A;split at E
   .rename_i d hd;obtain⟨as,a0,a1⟩:=OU A J;have O:=yU hd a1;have q:yu (nH ag) W=U as:=by
     cases ag with
     |true=>
      cases v<;>simp[GN]at e3;cases J;trivial
     |false=>
      have hV:V.width=0:=jr e4;have g:as.length=1:=by rw[O.1,rJ];simp[Cs.width,hV]
      match as,g with
      | [x],_=>
        have a2: ∀ds,W≠ .agg ds:=by
         intro ds e;subst e;cases J with
         |l c w _ a3=>trivial
         |u=>trivial
         |nA a'=>rename_i P _;simp[qe,P]at A
         |su=>trivial
         |nM a' i j=>rename_i P _;simp[qe,P]at A
         |tE=>trivial
         |wc a'=>rename_i P _;simp[qe,P]at A
         |ag=>trivial
        exact Ytv a2 a0
    have Q:hf H y=U (U ⟨T.length+2,[.v (.int .i64 n)::R::F]⟩):=hy;have hb:(im (T.length+2) (nH ag+2)&&mL (mf o) (jg o z))=true:=by rw[G,Nat.beq_refl,Cr];rfl
    have g:(.i .i64 n:: .l (iE o t V) l::T:List TV).length=T.length+2:=by simp
    rcases KZ z el l 0 B with⟨g1,g2,g3,_⟩| ⟨p,rr,v0,g1,g2,g3,g4,_⟩
    .refine⟨.u,_,by simp only[xF,Q,N,hb,cond_true,q,g2];rfl,Y _ _ _ _ E ?_⟩;have:=K7 (ds:=.i .i64 (tq (jV o) n z l):: .l (iE o t V) (oc (jV o) n z d l)::T) (e':=.v (.int .i64 (n+1)):: .rd (iE o t V).width (el++[.v (.int .i64 n):: .v (jg o z)::as])::F) L ho hp (by rw[g];exact hy) (by simp) (by simp)
      (by
       simp only[tq,g1];refine CT.cons (.i _ _) (CT.cons (AG ?_) C);rw[g3];exact yW B (Rows.cons (Yz n z O) (Rows.none _)))
     trivial
    .refine⟨.u,_,by simp only[xF,Q,N,hb,cond_true,q,g2];rfl,Y _ _ _ _ E ?_⟩;have:=K7 (ds:=.i .i64 (tq (jV o) n z l):: .l (iE o t V) (oc (jV o) n z d l)::T) (e':=.v (.int .i64 n):: .rd (iE o t V).width (el.modify (0+p) (tc (.v (jg o z)) as))::F) L ho hp (by rw[g];exact hy) (by simp) (by simp)
      (by
       simp only[tq,g1];refine CT.cons (.i _ _) (CT.cons (AG ?_) C);simp_all)
     trivial
   trivial
  trivial
 .rename_i z M D;have I:=Fa D hk;subst I;split at h
  .rename_i f S;obtain⟨G,E⟩:=iU h;obtain⟨b,lm,hs,E⟩:=Ytr E;split at E
   .rename_i hh;exact YF S G hs (.inl hh) E Z J L Y
   .rename_i hh;obtain⟨e3,e4⟩:=lA E;exact YF S G hs (.inr (by rw[hh,e3])) e4 Z J L Y
  .cases h
 .cases h
theorem Ytx{o:Option IntKind}{t:Ty}{V:Cs}{m k:TV}{M N:AV}{K:TV->hZ->Option β}(h:OK o t V m k X K=U r)(O:TR X pl m M)(P:TR X pl k N)(E:ib Fr H0 X pl H)
  {KA:AV->List jy->Prop} (G: ∀v X' Q us,K v X'=U r->oW Fr H0 X pl H v X' Q us->KA Q us):
  ∃w us,xF (.mdel (mf o) (iE o t V).width) [M,N] (hf H) H.length=U (w,us)/\KA w us:=by
 unfold OK at h;split at h
 .rename_i a n l T F B q;obtain⟨y,el,A,R,rfl,rfl,S,W,hl,I,C,d,g⟩:=K4 B O E;have z:=Fa q P;subst z;have D:hf H y=U (U ⟨T.length+2,[.v (.int .i64 n)::R::A]⟩):=I;rcases KZ F el l 0 d with⟨Z,J,_,Y⟩| ⟨p,rr,v0,Z,J,Y,_,g4⟩
  .refine⟨.u,_,by simp only[xF,D,C,Cr,cond_true,J];rfl,G _ _ _ _ h ?_⟩;have:=K7 (ds:=.i .i64 n:: .l (iE o t V) (rK (jV o) F l)::T) (e':=.v (.int .i64 n):: .rd (iE o t V).width el::A) E W S (by exact I) (by simp) (by simp)
    (by rw[Y];exact CT.cons (.i _ _) (CT.cons (AG d) g))
   trivial
  .refine⟨.u,_,by simp only[xF,D,C,Cr,cond_true,J];rfl,G _ _ _ _ h ?_⟩;have:=K7 (ds:=.i .i64 n:: .l (iE o t V) (rK (jV o) F l)::T) (e':=.v (.int .i64 n):: .rd (iE o t V).width (el.eraseIdx (0+p))::A) E W S (by exact I) (by simp) (by simp)
    (by rw[mD];exact CT.cons (.i _ _) (CT.cons (AG g4) g))
   trivial
 .rename_i F B q;have z:=Fa q P;subst z;split at h
  .rename_i f L;split at h
   .rename_i hh;obtain⟨e1,e2⟩:=iU h;exact Yts L hh e1 e2 O E G
   .cases h
  .cases h
 .cases h
theorem Yty(o:Option IntKind)(t:Ty)(V:Cs)(g:Bool)(h:ib Fr H0 X pl H):
  oW Fr H0 X pl H (.np X.length) (X++[U (.st (.i .i64 0:: .l (iE o t V) []::List.replicate (nH g) (.b zj)))]) (.np H.length) [.push (U ⟨nH g+2,[.v (.int .i64 0):: .rd (iE o t V).width []::List.replicate (nH g) (.v (.bool zj))]⟩)]:=by
 obtain⟨k,K⟩:=pw h (.st (.i .i64 0:: .l (iE o t V) []::List.replicate (nH g) (.b zj))) ⟨nH g+2,[.v (.int .i64 0):: .rd (iE o t V).width []::List.replicate (nH g) (.v (.bool zj))]⟩
  (λ_=>⟨H.length,.v (.int .i64 0):: .rd (iE o t V).width []::List.replicate (nH g) (.v (.bool zj)),by unfold iF;simp,by simp,by simp,CT.cons (.i _ _) (CT.cons (AG (Rows.none _)) ⟨by simp,λj c a h1 h2=>by
   rw[vN]at h1 h2;split at h1
   .rename_i d;rw[if_pos d]at h2;injection h1 with h1;injection h2 with h2;subst h1;subst h2;exact .b _
   trivial⟩)⟩)
 exact⟨_,.np X.length H.length _ (nI X _) (by unfold iF;simp),⟨k,K⟩,.inr ⟨by simp,by unfold iF;simp⟩⟩
theorem Ytz{a y:Nat}{n:Int}{c:Cs}{l:List c.den}{T:List TV}(g:ib Fr H0 X pl H)(k:b_ X a=U (.st (.i .i64 n:: .l c l::T)))(p:pl (.m a)=U y)(z:T.length=1\/T.length=2):
  ∃V us,xF .mrng [.np y] (hf H) H.length=U (V,us)/\oW Fr H0 X pl H (.np X.length) (X++[U (.st [.np a,.i .i64 n,.i .i64 n,.l qf [],.b zj])]) V us:=by
 obtain⟨el,A,R,B,h,w,q⟩:=K3 g k p z;have d:hf H y=U (U ⟨T.length+2,[.v (.int .i64 n)::R::A]⟩):=B;refine⟨.np H.length,_,by simp only[xF,d,h];rfl,?_⟩;obtain⟨K,C⟩:=pw g (.st [.np a,.i .i64 n,.i .i64 n,.l qf [],.b zj]) ⟨5,[[.np y,.v (.int .i64 n),.v (.int .i64 n),.rd 1 [],.v (.bool zj)]]⟩
  (λD=>⟨H.length,[.np y,.v (.int .i64 n),.v (.int .i64 n),.rd 1 [],.v (.bool zj)],by unfold iF;simp,by simp,by simp,CT.cons ((TR.np a y _ k p).ext D) (CT.cons (.i _ _) (CT.cons (.i _ _) (CT.cons (show TR _ _ (.l qf []) (.rd 1 [])from AG (c:=qf) (Rows.none _)) (CT.cons (.b _) CT.nil))))⟩)
 exact⟨_,.np X.length H.length _ (nI X _) (by unfold iF;simp),⟨K,C⟩,.inr ⟨by simp,by unfold iF;simp⟩⟩
theorem YtA{o:Option IntKind}{t:Ty}{V:Cs}{ag:Bool}{it:TV}{ai:AV}{K:TV->hZ->Option β}(h:OL o t V ag it X K=U r)(hi:TR X pl it ai)(W:ib Fr H0 X pl H)
  {KA:AV->List jy->Prop} (hK: ∀v va,K v X=U r->TR X pl v va->KA va []):
  ∃w us,xF .ment [ai] (hf H) H.length=U (w,us)/\KA w us:=by
 unfold OL at h;split at h
 .rename_i i;split at h
  .rename_i a s F c S tg C;split at h
   .rename_i a' n l T G Y hs;obtain⟨ec,es⟩:=tG hs;subst ec;subst es;obtain⟨e1,e2⟩:=iU h;simp at e1;obtain⟨e1,e3⟩:=e1;obtain⟨rfl,E⟩:=lA e2;obtain⟨yi,rfl,I⟩:=tI C hi;obtain⟨e,h1,_,d⟩:=K0 W C I;obtain⟨a0,r1,rfl,q0,d⟩:=d.inv;obtain⟨a1,r2,rfl,q1,d⟩:=d.inv;obtain⟨a2,r3,rfl,q2,d⟩:=d.inv;obtain⟨Z,r4,rfl,q3,d⟩:=d.inv;obtain⟨a4,r5,rfl,q4,d⟩:=d.inv;have:r5=[]:=mC.1 d.1.symm;subst this;obtain⟨y,el,a5,R,e5,rfl,hp,ho,hl,hy,J,p,a7⟩:=K4 Y q0 W;cases q1;cases q2;obtain⟨D,g1,g2⟩:=K2 q3;split at E
    .rename_i b L;split at E
     .rename_i en M;obtain⟨bb,rr,f1,f2⟩:=YC b el l p en M;obtain⟨yv,f3,f4⟩:=O4 (X:=X) (pl:=pl) e3 f2;have N:hf H yi=U (U ⟨5,[[.np y,.v (.int .i64 s),.v (.int .i64 F),Z,a4]]⟩):=h1;have O:hf H y=U (U ⟨T.length+2,[.v (.int .i64 F)::R::a5]⟩):=hy;have P:vS ⟨5,[[.np y,.v (.int .i64 s),.v (.int .i64 F),Z,a4]]⟩=U (y,s,F,D):=by
       unfold vS;simp_all
      have k:D.getLast?=U [.v (.int .i64 b)]:=by
       rw[List.getLast?_eq_getElem?]at L⊢;have g:D.length=S.length:=g2.1;rw[g];obtain⟨e',A⟩:=lQ (l:=D) (l':=S) g L;rw[A];have B:=g2.2 _ e' b A L;have Q:=B.1
       match e',Q with
       | [z],_=>
         have:=B.2 0 z _ rfl rfl;rw[show z= .v (.int .i64 b)from um this]
      refine⟨_,[],by simp only[xF,N,P,O,k,J,decide_true,cond_true,f1,show T.length+2-2=nH ag by omega,f3];rfl,hK _ _ E ?_⟩;refine .tp _ _ rfl (λj c a h1 h2=> ?_)
      match j,h1,h2 with
      |0,h1,h2=>
       simp at h1 h2;subst h1;subst h2;cases o with
       |none=>exact .s _
       |some q=>exact .i _ _
      |1,h1,h2=>simp_all
      |j+2,h1,h2=>trivial
     trivial
    trivial
   .rename_i G Y hs;obtain⟨ec,es⟩:=tG hs;subst ec;subst es;obtain⟨yi,rfl,I⟩:=tI C hi;obtain⟨e,h1,_,d⟩:=K0 W C I;obtain⟨a0,r1,rfl,q0,d⟩:=d.inv;obtain⟨a1,r2,rfl,q1,d⟩:=d.inv;obtain⟨a2,r3,rfl,q2,d⟩:=d.inv;obtain⟨Z,r4,rfl,q3,d⟩:=d.inv;obtain⟨a4,r5,rfl,q4,d⟩:=d.inv;have:r5=[]:=mC.1 d.1.symm;subst this;split at h
    .rename_i f a6;split at h
     .rename_i hh;obtain⟨e5,E⟩:=lA h;obtain⟨y,el,e6,rfl,hp,ho,hy,h0,h6,p,J⟩:=K6 a6 q0 W;cases q1;cases q2;obtain⟨D,g1,g2⟩:=K2 q3;split at E
      .rename_i b L;split at E
       .rename_i en M;obtain⟨q,x,rr,f0,f1,f2,f3,f4⟩:=YG b el f.l p en M;rw[f0]at E;have N:hf H yi=U (U ⟨5,[[.np y,.v (.int .i64 s),.v (.int .i64 F),Z,a4]]⟩):=h1;have O:hf H y=U (U ⟨3,[[.v (.int .i64 f.n),.rd 3 el,.v (.bool zj)]]⟩):=hy;have P:vS ⟨5,[[.np y,.v (.int .i64 s),.v (.int .i64 F),Z,a4]]⟩=U (y,s,F,D):=by
         unfold vS;simp_all
        have k:D.getLast?=U [.v (.int .i64 b)]:=by
         rw[List.getLast?_eq_getElem?]at L⊢;have g:D.length=S.length:=g2.1;rw[g];obtain⟨e',A⟩:=lQ (l:=D) (l':=S) g L;rw[A];have B:=g2.2 _ e' b A L;have Q:=B.1
         match e',Q with
         | [z],_=>
           have:=B.2 0 z _ rfl rfl;rw[show z= .v (.int .i64 b)from um this]
        refine⟨.iZ [.v (jg o x.2.1),rr],[],by simp only[xF,N,P,O,k,J,decide_eq_true e5,cond_true,f4,pe],hK _ _ E ?_⟩;refine .tp _ _ rfl (λj c a h1 h2=> ?_)
        match j,h1,h2 with
        |0,h1,h2=>
         simp at h1 h2;subst h1;subst h2;subst f3;cases o with
         |none=>exact .s _
         |some q=>exact .i _ _
        |1,h1,h2=>
         simp at h1 h2;subst h1;subst h2;exact YD W ho hh h6 f1 f2
        |j+2,h1,h2=>simp at h1
       .cases E
      .cases E
     .cases h
    .cases h
   .cases h
  .cases h
 .cases h
theorem YtB{a:Nat}{c c':Cs}{l:List c'.den}{M:List c.den}{m:List c'.den}{x:TV}{w A:AV}(z:ib Fr H0 X pl H)(d:b_ X a=U (.sq c' l))(hd:TR X pl (.ref a) w)(D:oG c x=U M)(B:TR X pl x A)(E:m_ c c' M=U m)(h0:0<c.width):
  ∃V us,xF (.cpy c.width) [w,A] (hf H) H.length=U (V,us)/\oW Fr H0 X pl H (.i .i64 ((min m.length l.length:Nat):Int)) (hU X a (U (.sq c' (m.take (min m.length l.length)++l.drop (min m.length l.length))))) V us:=by
 obtain⟨F,I⟩:=tG E;subst F;subst I;obtain⟨y,n,rfl,p,g⟩:=py d hd;injection g with g;subst g
 obtain⟨Y,el,h1,h2,J,C⟩:=z.obj a _ d;rw[p]at h1;injection h1 with h1;subst h1
 obtain⟨S,L,N,G⟩:=G9 D B;have q:hf H y=U (U ⟨c.width,el⟩):=h2;have O:((uG c.width A&& (im 0 0&&im l.length el.length))&& (im c.width c.width&& ((S.all λe=>im e.length c.width)&&js 0 c.width)))=true:=by
  rw[N,C.1,Nat.beq_refl,Nat.beq_refl,G7 (Cq G)];simp_all
 refine⟨.v (.int .i64 ((min S.length l.length:Nat):Int)),[.set y (U ⟨c.width,S.take (min S.length l.length)++el.drop (min S.length l.length)⟩)],by simp only[xF,q,L,O,cond_true],?_⟩;have h:S.length=M.length:=G.1;refine⟨pl,by rw[h];exact .i _ _,?_,.inl (km _ _ _)⟩;refine E9 z d p _ (by simp[lK];omega) (by simp[iz];omega) (λ_ _ _ _ _ e=>by cases e) (λ_ _ _ _ _ e=>by cases e) (λB=>⟨y,_,p,o_ (iP.1 h2).1,J,?_⟩);rw[h];refine yW ⟨by simp_all,λi e v k K=> ?_⟩ ⟨by simp_all,λi e v k K=> ?_⟩
 .rw[oU]at k K;split at k
  .rename_i P;rw[if_pos P]at K;exact G.2 i e v k K
  trivial
 .rw[rU]at k K;exact C.2 _ e v k K
end
end Go.Abs
namespace Go.Abs
open Go Go.RowKit
section
variable{Fr:Nat->Prop}{H0:ic}{X:hZ}{pl:Pl}{H:ic}{β:Type}{r:β}{env:jO}{ae:Env}
theorem YH(q:jB X pl env ae){K:List AV->Prop}: ∀{p:List (Nat×Nat×iq)} {l l':List TV} {as:List AV},KG X l env p=U l'->CT X pl l as->(∀A,CT X pl l' A->K A)->Ah as ae (Yl p) K
 | [],l,l',as,h,d,k=>by injection h with h;subst h;exact k _ d
 | (O,n,x)::p,l,l',as,h,d,k=>by
   simp only[KG]at h;split at h
   .rename_i cs g;obtain⟨w,E⟩:=iU h;refine Cp g (rO q x) (λB H=>⟨by rw[<-H.1];simp_all,by rw[<-d.1];simp_all,?_⟩);exact YH q E (d.tm H O) k
   trivial
theorem K8(w:jB X pl env ae){es:Nat}{K:List (List AV)->Prop}: ∀{p:List (Nat×iq)} {l l':List (List TV)} {as:List (List AV)},GJ X es l env p=U l'->CE X pl l as->(∀e∈l,e.length=es)->
  (∀A,CE X pl l' A->(∀e∈l',e.length=es)->K A)->s_ es as ae (OX p) K
 | [],l,l',as,h,H,z,d=>by injection h with h;subst h;exact d _ H z
 | (i,x)::p,l,l',as,h,H,z,d=>by
   simp only[GJ]at h;split at h
   .rename_i cs g;obtain⟨E,y⟩:=iU h;simp only[iI]at E;have B:=jr E.1;have C:i<l.length:=by simp_all
    refine Cp g (rO w x) (λF q=>⟨by rw[<-q.1];omega,by rw[<-H.1];exact C,?_⟩);refine K8 w y ⟨by simp[H.1],λk e f h1 h2=> ?_⟩ (λe D=> ?_) d
    .by_cases d:k=i
     .grind
     .rw[mR (Ne.symm d)]at h1 h2;exact H.2 k e f h1 h2
    grind
   trivial
theorem G': ∀(c:Cs),CT X pl c.kh (c.kS.map zc)/\c.kh.length=c.width/\CC (c.kS.map zc) (c.enc c.qC)
 | .nil=>⟨.nil,rfl,rfl,λj x d h=>by trivial⟩
 | .cons t r=>by
   obtain⟨h1,h2,H⟩:=G' r;have y: ∀{t:Ty} {z:TV},TR X pl z (zc t.zero)->Coe (zc t.zero) (t.enc t.qC)->(Cs.kh (.cons t r)=z::r.kh)->CT X pl (Cs.kh (.cons t r)) ((Cs.kS (.cons t r)).map zc)/\ (Cs.kh (.cons t r)).length=(Cs.cons t r).width/\CC ((Cs.kS (.cons t r)).map zc) ((Cs.cons t r).enc (Cs.cons t r).qC):=by
    intro t z g p G;rw[G];refine⟨.cons g h1,by simp[Cs.width,h2],?_⟩;simp only[Cs.kS,kn,Cs.enc,Cs.qC,xS,vX];refine⟨by simp[H.1],λj x d q K=> ?_⟩;cases j with
    |zero=>simp_all
    |succ j=>exact H.2 j x d (by simp_all) K
   cases t with
   |i k=>exact y (.i _ _) (.refl _) rfl
   |b=>exact y (.b _) (.refl _) rfl
   |s=>exact y (.s _) (.refl _) rfl
   |l c=>exact y (.e _) (.j_ _) rfl
theorem Fb{es:Nat}{L:List (List AV)}{c:Cs}{l:List c.den}(h:Rows L c l):Coe (.rd es L) (.rd es (l.map c.enc)):=by
 refine .rd es _ _ (by simp[h.1]) (λi e e' h1 h2=> ?_) (λi e e' j x X h1 h2 H d=> ?_)
 all_goals
  rw[jt,lS]at h2;obtain⟨v,h2,rfl⟩:=h2
 .exact(h.2 i e v h1 h2).1
 .exact(h.2 i e v h1 h2).2 j x X H d
theorem uY(H:jB X pl env ae){o:Option iq}{d:Int}{dA:Nat}(hd:d=(dA:Nat)){n:Int}(h:vZ env o d=U n)(h0:0<=n){K:Nat->Prop}(g:K n.toNat):pY ae (o.map iq.er) dA K:=by
 cases o with
 |none=>
  injection h with h;subst h;subst hd
  trivial
 |some x=>
  simp only[vZ]at h;split at h
  .rename_i k m p;injection h with h;subst h
   have:=rO H x;rw[p]at this;simp only[l_,pY,jh];generalize iC ae x.er=A at this⊢;cases this;exact⟨_,_,rfl,h0,g⟩
  trivial
theorem wg(h:jB X pl env ae)(xs:List iq):CT X pl (xs.map (vo env)) ((xs.map iq.er).map (iC ae)):=by
 induction xs with
 |nil=>exact .nil
 |cons x xs I=>exact .cons (rO h x) I
theorem YI{g:Bool}{n:Nat}{cs:List TV}{as:List AV}{K:TV->hZ->Option β}(h:(match wP g n cs with|some a=>K a X|none=>zz)=U r)(H:CT X pl cs as){KA:AV->Prop}(k: ∀v V,K v X=U r->TR X pl v V->KA V):sQ g n as KA:=by
 split at h
 .rename_i v d;exact Yc d H (λa p=>k v a h p)
 trivial
theorem YtC{op:qE}{K:TV->hZ->Option β}(h:vG op env X K=U r)(P:jB X pl env ae)(M:ib Fr H0 X pl H){KA:AV->List jy->Prop}
  (Y: ∀v X' va us,K v X'=U r->oW Fr H0 X pl H v X' va us->KA va us):kA op.w_ ae (hf H) H.length KA:=by
 have S: ∀v va,K v X=U r->TR X pl v va->KA va []:=λv va h1 h2=>Y _ _ _ _ h1 (.same M h2);have B:=λx=>rO P x;have hn:=λo=>nI X o;cases op<;>simp only[vG]at h<;>simp only[qE.w_,kA,jh]
 case mm mx xs=>
  have hm:=wg P xs;generalize aI:xs.map (vo env)=l at h hm;generalize(xs.map iq.er).map (iC ae)=as at hm;split at h
  .rename_i k m l';obtain⟨a,aJ,rfl,h1,h2⟩:=hm.inv;cases h1;split at h
   .rename_i v hv;obtain⟨a,h3,h4⟩:=Yg hv h2;exact⟨a,by trivial,S _ _ h h4⟩
   trivial
  trivial
 case emz x lo Q mx=>
  have h1:=B x;have h2:=B lo;have h3:=B Q;have h4:=B mx;simp only[kn,mq];generalize iC ae x.er=W at h1⊢;generalize iC ae lo.er=al at h2⊢;generalize iC ae Q.er=ah at h3⊢;generalize iC ae mx.er=am at h4⊢;split at h
  .rename_i F Z e4;rw[F]at h2;rw[Z]at h3;rw[e4]at h4;cases h2;cases h3;cases h4;obtain⟨⟨rfl,rfl,rfl⟩,L⟩:=lA h;have hz:yr (.v (.int ‹_› 0))=true:=rfl;refine⟨.emp,?_,?_⟩
   .simp only[lG,yr,decide_true,and_self,if_true];split at L
    .rename_i E;rw[E]at h1;cases h1 with
     |l _ _ _ T=>rcases wX T with⟨rfl,_⟩| ⟨l0,rfl,_⟩<;>rfl
    .rename_i E;rw[E]at h1;cases h1;rfl
    trivial
   .split at L
    .exact S _ _ L (.e _)
    .exact S _ _ L (.e _)
    trivial
  trivial
 case sl3 es x lo Q mx=>
  have h1:=B x;have h2:=B lo;have h3:=B Q;have h4:=B mx;simp only[kn,mq];generalize iC ae x.er=W at h1⊢;generalize iC ae lo.er=al at h2⊢;generalize iC ae Q.er=ah at h3⊢;generalize iC ae mx.er=am at h4⊢;split at h
  .rename_i c v _ l _ hh _ m E F Z e4;rw[E]at h1;rw[F]at h2;rw[Z]at h3;rw[e4]at h4;cases h2;cases h3;cases h4;obtain⟨N,L⟩:=iU h;obtain⟨⟨q1,q2,q3,q4⟩,g3⟩:=lA L;cases h1 with
   |l _ _ _ T=>
    rcases wX T with⟨rfl,hb⟩| ⟨l0,rfl,a0,az⟩
    .have hv:v=[]:=by simp_all
     subst hv;simp only[uU]at q4;have z1:l=0:=by omega
     have z2:hh=0:=by omega
     have z3:m=0:=by omega
     refine⟨.emp,by simp[lG,z1,z2,z3],S _ _ g3 ?_⟩;refine .l c _ _ ?_;simp_all
    .simp only[pQ]at a0;have av:=jr N;refine⟨.rd es ((l0.take hh.toNat).drop l.toNat),?_,S _ _ g3 ?_⟩
     .simp only[lG];rw[if_pos ⟨av,q1,q2,q3,by rw[a0];exact q4⟩]
     .rw[<-av];refine .l c _ _ (Fb ⟨by grind,λi e w k1 k2=> ?_⟩);grind
  trivial
 case mv x=>grind
 case pick c a b=>
  have h1:=B c;generalize iC ae c.er=ac at h1⊢;split at h
  .rename_i t E;rw[E]at h1;cases h1;refine⟨t,rfl,λht=> ?_,λht=> ?_⟩
   .grind
   grind
  trivial
 case box x=>
  split at h
  .rename_i c cs ao;obtain⟨E,F⟩:=iU h;have J:cs.length+1<=1000:=by simp_all
   refine Cp ao (B x) (λas G=>⟨by rw[<-G.1];simp,by rw[<-G.1];simp[c_];omega,?_⟩);obtain⟨k1,k2⟩:=pw M (.st (c::cs)) ⟨as.length,[as]⟩ (λhx=>⟨H.length,as,by unfold iF;simp,by rw[G.1];simp,by simp,G.ext hx⟩);exact Y _ _ _ _ F ⟨_,.ptr X.length 0 0 H.length _ (hn _) (by simp[lK]) (by unfold iF;simp),⟨k1,k2⟩,.inr ⟨by simp,by unfold iF;simp⟩⟩
  trivial
 case alloc z=>
  obtain⟨E,F⟩:=iU h;simp only[iI,ly]at E;have hz:(z.map K1.val).map zc=z.map K1.av:=by
   rw[List.map_map];exact List.map_congr_left (λk Y=>X9 (E.1 k Y))
  have hm:=CT.yS (X:=X) (pl:=pl) z;obtain⟨k1,k2⟩:=pw M (.st (z.map K1.tv)) ⟨(z.map K1.val).length,[(z.map K1.val).map zc]⟩ (λhx=>⟨H.length,z.map K1.av,by unfold iF;simp,by simp_all,by simp_all,hm.ext hx⟩);exact Y _ _ _ _ F ⟨_,.ptr X.length 0 0 H.length _ (hn _) (by simp[lK]) (by unfold iF;simp),⟨k1,k2⟩,.inr ⟨by simp,by unfold iF;simp⟩⟩
 case build z ps=>
  obtain⟨E,F⟩:=iU h;simp only[ly]at E;have hz:(z.map K1.val).map zc=z.map K1.av:=by
   rw[List.map_map];exact List.map_congr_left (λk Y=>X9 (E k Y))
  split at F
  .rename_i cs ao;rw[hz];exact YH P ao (CT.yS z) (λas G=>S _ _ F (.ag _ _ G.1 G.2))
  trivial
 case bsl c n ps=>
  obtain⟨E,F⟩:=iU h;obtain⟨z1,z2,z3⟩:=G' (X:=X) (pl:=pl) c;have af:CE X pl (List.replicate n c.kh) (List.replicate n (c.kS.map zc)):=⟨by simp,λi e f h1 h2=>by
   grind⟩
  have aj: ∀e∈List.replicate n c.kh,e.length=c.width:=λe P=>by simp_all
  split at F
  .rename_i hf;refine K8 P hf af aj (λas G _=> ?_);have J:=G.1;cases as with
   |nil=>exact S _ _ F (.e _)
   |cons _ _=>trivial
  .rename_i e a4 hf;refine K8 P hf af aj (λas G hz=> ?_);have J:=G.1;cases as with
   |nil=>trivial
   |cons f fs=>
    split at F
    .rename_i l I;exact S _ _ F (.l c l _ (Fb (G3 I G)))
    .refine S _ _ F (.lt c.width _ _ J (by simp) hz (λf' ap=> ?_) (λi j e f c a h1 h2 h3 h4=>(G.2 i e f h1 h2).2 j c a h3 h4));obtain⟨i,Q⟩:=mE.1 ap;have aA:=(iP.1 Q).1;have a3:i< (e::a4).length:=by omega
     have:=G.2 i _ _ (je a3) Q;rw[<-this.1];grind
  trivial
 case bslT c n ps=>
  obtain⟨E,F⟩:=iU h;obtain⟨z1,z2,z3⟩:=G' (X:=X) (pl:=pl) c;have af:CE X pl (List.replicate n c.kh) (List.replicate n (c.kS.map zc)):=⟨by simp,λi e f h1 h2=>by
   grind⟩
  have aj: ∀e∈List.replicate n c.kh,e.length=c.width:=λe P=>by simp_all
  split at F
  .rename_i e a4 hf;refine K8 P hf af aj (λas G hz=> ?_);have J:=G.1;cases as with
   |nil=>trivial
   |cons f fs=>
    refine S _ _ F (.lt c.width _ _ J (by simp) hz (λf' ap=> ?_) (λi j e f c a h1 h2 h3 h4=>(G.2 i e f h1 h2).2 j c a h3 h4));obtain⟨i,Q⟩:=mE.1 ap;have aA:=(iP.1 Q).1;have a3:i< (e::a4).length:=by omega
    have:=G.2 i _ _ (je a3) Q;rw[<-this.1];grind
  trivial
 case load g n x=>exact Ym h (B x) M (λv va h1 h2=>S v va h1 h2)
 case loadR g n x=>
  have h1:=B x;generalize iC ae x.er=W at h1⊢;split at h
  .rename_i cs E;rw[E]at h1;cases h1 with
   |rp _ as J T=>exact YI h ⟨J,T⟩ (λv va h1 h2=>S v va h1 h2)
  trivial
 case store n x y=>exact Ys5 h (B x) (B y) M Y
 case nilc x=>
  have h1:=B x;generalize iC ae x.er=W at h1⊢;split at h
  .rename_i E;rw[E]at h1;have h2:=h1;cases h2;grind
  .rename_i a i j E;rw[E]at h1;obtain⟨N,L⟩:=iU h;obtain⟨o,D⟩:=pU.1 N;obtain⟨x',rfl,I,Q⟩:=AF D h1;grind
  .rename_i a a5 i k j E;rw[E]at h1;split at h
   .rename_i c ver' l D;obtain⟨N,L⟩:=iU h;have:=jr N;subst this;obtain⟨y,rfl,_⟩:=KW D h1;grind
   trivial
  .rename_i E;rw[E]at h1;have h2:=h1;cases h2;grind
  trivial
 case bin op x y=>exact YsT h (B x) (B y) (λw z h1 h2=>S _ _ h1 h2)
 case beq ng x y=>
  have h1:=B x;have h2:=B y;generalize iC ae x.er=W at h1⊢;generalize iC ae y.er=ay at h2⊢;split at h
  .rename_i E F;rw[E]at h1;rw[F]at h2;cases h1;cases h2;refine⟨_,rfl,_,rfl,?_⟩;cases ng<;>exact S _ _ h (.b _)
  trivial
 case eqa ng ks x y=>
  have h1:=B x;have h2:=B y;generalize iC ae x.er=W at h1⊢;generalize iC ae y.er=ay at h2⊢;split at h
  .rename_i cs ds E F;rw[E]at h1;rw[F]at h2;cases h1 with
   |ag _ as J T=>
    cases h2 with
    |ag _ bs aB aC=>
     split at h
     .rename_i b hb;refine⟨as,bs,b,rfl,rfl,Yf hb ⟨J,T⟩ ⟨aB,aC⟩,?_⟩;cases ng<;>exact S _ _ h (.b _)
     trivial
  trivial
 case not x=>
  have h1:=B x;generalize iC ae x.er=W at h1⊢;split at h
  .rename_i E;rw[E]at h1;cases h1;exact⟨_,rfl,S _ _ h (.b _)⟩
  trivial
 case neg x=>
  have h1:=B x;generalize iC ae x.er=W at h1⊢;split at h
  .rename_i E;rw[E]at h1;cases h1;exact⟨_,_,rfl,S _ _ h (.i _ _)⟩
  trivial
 case conv k x=>
  have h1:=B x;generalize iC ae x.er=W at h1⊢;split at h
  .rename_i E;rw[E]at h1;cases h1;exact⟨_,_,rfl,S _ _ h (.i _ _)⟩
  trivial
 case cvs x=>
  have h1:=B x;generalize iC ae x.er=W at h1⊢;split at h
  .rename_i E;rw[E]at h1;cases h1;exact⟨_,rfl,S _ _ h (.s _)⟩
  trivial
 case fad ak x=>
  have h1:=B x;generalize iC ae x.er=W at h1⊢;split at h
  .rename_i E;rw[E]at h1;cases h1 with
   |rp cs as J T=>exact S _ _ h (.rp _ _ (CT.drop ⟨J,T⟩ ak).1 (CT.drop ⟨J,T⟩ ak).2)
  .rename_i a i j E;rw[E]at h1;obtain⟨N,L⟩:=iU h;obtain⟨o,D⟩:=pU.1 N;obtain⟨x',rfl,I,Q⟩:=AF D h1;exact S _ _ L (.ptr a i _ x' o D Q I)
  .rename_i a a5 i k j E;rw[E]at h1;split at h
   .rename_i hd c ver' l D;obtain⟨N,L⟩:=iU h;have:=jr N;subst this;obtain⟨y,rfl,Q,aD,I⟩:=KW D h1;exact S _ _ L (.nq a a5 i k _ y hd c l D Q aD I)
   trivial
  trivial
 case fld g ak n x=>
  have h1:=B x;generalize iC ae x.er=W at h1⊢;split at h
  .rename_i E;rw[E]at h1;cases h1 with
   |ag cs as J T=>
    obtain⟨N,L⟩:=iU h;exact⟨as,rfl,by simp_all,YI L (CT.drop ⟨J,T⟩ ak) (λv va h1 h2=>S v va h1 h2)⟩
  trivial
 case iad es x i=>exact Ys6 h (B x) (B i) M (λv va h1 h2=>S v va h1 h2)
 case iada=>cases h
 case idx x i=>
  have h1:=B x;have h2:=B i;generalize iC ae x.er=W at h1⊢;generalize iC ae i.er=ai at h2⊢;split at h
  .rename_i s k n E F;rw[E]at h1;rw[F]at h2;cases h1;cases h2;obtain⟨N,L⟩:=lA h;have a6:n.toNat<s.size:=by omega
   refine⟨s,rfl,k,n,rfl,N.1,s[n.toNat],getElem?_pos s n.toNat a6,?_⟩;have hb:ig s n=((s[n.toNat]).toNat:Int):=by
    have ar:n.toNat<s.data.size:=a6;simp only[ig,mI,rH ar,qu];rfl
   rw[hb]at L;exact S _ _ L (.i _ _)
  trivial
 case slcS x lo Q=>
  have h1:=B x;generalize iC ae x.er=W at h1⊢;split at h
  .rename_i s E;rw[E]at h1;cases h1;split at h
   .rename_i l u J hu;obtain⟨⟨N,L,g3⟩,g4⟩:=lA h;exact⟨s,rfl,uY P rfl J N (uY P rfl hu (by omega) ⟨by omega,by omega,S _ _ g4 (.s _)⟩)⟩
   trivial
  trivial
 case slcR es x lo Q=>
  have h1:=B x;generalize iC ae x.er=W at h1⊢;split at h
  .rename_i c v E;rw[E]at h1;obtain⟨N,L⟩:=iU h;split at L
   .rename_i l u J hu;obtain⟨⟨q1,q2,q3⟩,q4⟩:=lA L;cases h1 with
    |l _ _ _ T=>
     rcases wX T with⟨rfl,hb⟩| ⟨l0,rfl,a0,az⟩
     .have hv:v=[]:=by simp_all
      subst hv;simp only[uU]at q3 hu;refine uY P rfl J q1 (uY P rfl hu (by omega) ⟨by omega,by omega,S _ _ q4 ?_⟩);refine .l c _ _ ?_;simp_all
     .simp only[pQ]at a0;refine⟨jr N,uY P rfl J q1 (uY P (dA:=l0.length) (by rw[a0]) hu (by omega) ⟨by omega,by omega,S _ _ q4 ?_⟩)⟩;refine .l c _ _ (Fb ⟨by grind,λi e w k1 k2=> ?_⟩);grind
   trivial
  .rename_i c E;rw[E]at h1;cases h1;split at h
   .rename_i l u J hu;obtain⟨⟨rfl,rfl⟩,q4⟩:=lA h;exact uY P rfl J (by omega) (uY P rfl hu (by omega) ⟨rfl,rfl,S _ _ q4 (.e _)⟩)
   trivial
  .rename_i a E;rw[E]at h1;split at h
   .rename_i c l D;obtain⟨x',n,rfl,I,C⟩:=py D h1;have O:=C;simp only[iz]at O;injection O with O;subst O
    split at h
    .rename_i aq J;obtain⟨rfl,q4⟩:=lA h;exact uY P rfl J (by omega) ⟨rfl,jG _,S _ _ q4 (.ref a x' _ _ D C I)⟩
    .rename_i aq a7 J;split at h
     .rename_i k u hu;obtain⟨⟨rfl,q2,q3⟩,q4⟩:=lA h;have h2:=B a7;rw[hu]at h2;refine uY P rfl J (by omega) ?_;simp only[l_,pY,jh];generalize iC ae a7.er=ah at h2⊢;cases h2;exact⟨k,u,rfl,q2,rfl,by omega,S _ _ q4 (.pre a x' u _ _ D C I q2 (by omega))⟩
     trivial
    trivial
   .rename_i A nn c a5 aa l D;obtain⟨x',n,rfl,I,C⟩:=py D h1;have O:=C;simp only[iz]at O;injection O with O;subst O
    split at h
    .rename_i aq a7 J;split at h
     .rename_i k u hu;obtain⟨⟨rfl,q2,q3⟩,q4⟩:=lA h;have h2:=B a7;rw[hu]at h2;refine uY P rfl J (by omega) ?_;simp only[l_,pY,jh];generalize iC ae a7.er=ah at h2⊢;cases h2;exact⟨k,u,rfl,q2,rfl,by omega,S _ _ q4 (.pre a x' u _ _ D C I q2 (by omega))⟩
     .cases h
    .cases h
   trivial
  .rename_i a m E;rw[E]at h1;split at h
   .rename_i c l D;obtain⟨x',n,rfl,I,C,h0,hm⟩:=E_ D h1;split at h
    .rename_i aq u J hu;obtain⟨⟨rfl,q2,q3⟩,q4⟩:=lA h;exact uY P rfl J (by omega) (uY P (dA:=m.toNat) (by omega) hu q2 ⟨rfl,by omega,S _ _ q4 (.pre a x' u _ _ D C I q2 (by omega))⟩)
    trivial
   trivial
  trivial
 case ext x i=>
  have h1:=B x;generalize iC ae x.er=W at h1⊢;split at h
  .rename_i cs E;rw[E]at h1;cases h1 with
   |tp _ as J T=>
    grind
  trivial
 case len x=>
  have h1:=B x;generalize iC ae x.er=W at h1⊢;unfold GL at h;split at h
  .rename_i c v E;rw[E]at h1;cases h1 with
   |l _ _ _ T=>
    rcases wX T with⟨rfl,hb⟩| ⟨l0,rfl,a0,_⟩
    .have hv:v=[]:=by simp_all
     subst hv;exact S _ _ h (.i _ _)
    .simp only[pQ]at a0;rw[<-a0]at h;exact S _ _ h (.i _ _)
  .rename_i E;rw[E]at h1;cases h1;exact S _ _ h (.i _ _)
  .rename_i a4 E;rw[E]at h1;cases h1 with
   |lt es _ as J=>rw[J]at h;exact S _ _ h (.i _ _)
  .rename_i a E;rw[E]at h1;split at h
   .rename_i D;obtain⟨x',n,rfl,I,C⟩:=py D h1;simp only[iz]at C;injection C with C;subst C
    exact S _ _ h (.i _ _)
   .rename_i D;obtain⟨x',n,rfl,I,C⟩:=py D h1;simp only[iz]at C;injection C with C;subst C
    exact S _ _ h (.i _ _)
   .rename_i D;obtain⟨x',n,rfl,I,C⟩:=py D h1;simp only[iz]at C;injection C with C;subst C
    exact S _ _ h (.i _ _)
   trivial
  .rename_i a m E;rw[E]at h1;have I: ∃x,W= .ref x 0 m.toNat/\0<=m:=by
    cases h1 with
    |pre _ x _ o n _ _ _ h0 _=>exact⟨x,rfl,h0⟩
    |og _ x _ _ _ h0=>exact⟨x,rfl,h0⟩
   obtain⟨x,rfl,h0⟩:=I;have:m=((m.toNat:Nat):Int):=by omega
   rw[this]at h;exact S _ _ h (.i _ _)
  .rename_i a a5 i E;rw[E]at h1;split at h
   .rename_i hd c ver' l D;obtain⟨N,L⟩:=iU h;have:=jr N;subst this;rcases Co D h1 with⟨y,rfl,Q,I⟩| ⟨rfl,I,h0⟩
    .exact S _ _ L (.i _ _)
    .rw[h0]at L;exact S _ _ L (.i _ _)
   trivial
  trivial
 case lenS x=>
  have h1:=B x;generalize iC ae x.er=W at h1⊢;split at h
  .rename_i E;rw[E]at h1;cases h1;exact⟨_,rfl,S _ _ h (.i _ _)⟩
  trivial
 case app c w s x=>exact Yta h (B s) (B x) M Y
 case mksl c w n cp=>
  have h1:=B n;have h2:=B cp;generalize iC ae n.er=an at h1⊢;generalize iC ae cp.er=ac at h2⊢;split at h
  .rename_i k n k' m E F;rw[E]at h1;rw[F]at h2;cases h1;cases h2;obtain⟨⟨N,L,g3⟩,g4⟩:=lA h;refine⟨_,_,rfl,_,_,rfl,N,L,g3,?_⟩;split at g4
   .rename_i c';obtain⟨q1,q2⟩:=iU g4;let z0:(sn c' (Hd.rw .nil zj).A).den:=([]:List c'.den);have aE:ow c' (Hd.rw .nil zj).A z0=[]:=rfl;have aw:(List.replicate n.toNat z0).length=n.toNat:=List.length_replicate;obtain⟨k1,k2⟩:=pw M (.fm (.rw .nil zj) c' 0 zz (List.replicate n.toNat z0)) ⟨1,List.replicate n.toNat [.emp]⟩ (λhx=>⟨H.length,List.replicate n.toNat [.emp],by unfold iF;simp,by simp[E',Cs.width],by simp_all,by rw[aw];simp,λi e v a1 a2=>by
      rw[vN]at a1 a2;split at a1
      .rename_i Q;rw[if_pos Q]at a2;injection a1 with a1;injection a2 with a2
       refine⟨[],.emp,a1.symm,⟨rfl,λj x x' h1=>by simp at h1⟩,λ_=>.inr ⟨rfl,?_,by rw[<-a2];exact aE,rfl⟩⟩;unfold iF;rw[if_neg (λe=>by cases e)];exact M.dead (rl (jG _))
      trivial⟩)
    exact Y _ _ _ _ q2 ⟨_,.ref X.length H.length _ _ (hn _) (congrArg U aw) (by unfold iF;simp),⟨k1,k2⟩,.inr ⟨by simp,by unfold iF;simp⟩⟩
   .obtain⟨q1,q2⟩:=iU g4;obtain⟨z1,z2,z3⟩:=G' (X:=X) (pl:=pl) c;obtain⟨k1,k2⟩:=pw M (.sq c (List.replicate n.toNat c.qC)) ⟨c.width,List.replicate n.toNat (c.kS.map zc)⟩ (λhx=>⟨H.length,List.replicate n.toNat (c.kS.map zc),by unfold iF;simp,by simp,by simp_all,by simp,λi e v a1 a2=>by
      grind⟩)
    exact Y _ _ _ _ q2 ⟨_,.ref X.length H.length _ _ (hn _) (by simp[iz]) (by unfold iF;simp),⟨k1,k2⟩,.inr ⟨by simp,by unfold iF;simp⟩⟩
   trivial
  trivial
 case mkf f ab=>exact S _ _ h (.clo f _ _ (wg P ab).1 (wg P ab).2)
 case call=>cases h
 case dyn=>cases h
 case dynP=>cases h
 case callN=>cases h
 case callF=>cases h
 case mvp x=>
  have h1:=B x;generalize iC ae x.er=W at h1⊢;split at h
  .rename_i a E;rw[E]at h1;split at h
   .rename_i c l D;obtain⟨y,n,rfl,I,hn⟩:=py D h1;have O:=hn;simp only[iz]at O;injection O with O;subst O
    exact S _ _ h (.pre a y _ _ _ D hn I (by omega) (by simp))
   .cases h
  .cases h
 case mkmF o c=>
  obtain⟨E,F⟩:=iU h;exact⟨_,_,rfl,Y _ _ _ _ F (Ytt o c (show 1<=c.width by simpa[js]using E) M)⟩
 case lit c xs=>
  split at h
  .rename_i e a4 T;obtain⟨E,F⟩:=iU h;simp only[iI,Nat.ble_eq]at E;split at F
   .rename_i l I;obtain⟨va,us,k1,k2⟩:=Ytl T I (l9 E.1) E.2 (wg P xs) M;grind
   trivial
  trivial
 case appD c s x=>
  obtain⟨E,F⟩:=iU h;exact Ytd (l9 E) F (B s) (B x) M Y
 case apps s x=>
  have h2:=B x;split at h
  .rename_i b E;rw[E]at h2;have:iC ae x.er= .v (.string b):=Yu h2;simp only[kn,mq,this];exact Ytf h (B s) M Y
  trivial
 case appb s x=>exact Yth h (B s) (B x) M Y
 case appDb s x=>exact Yti h (B s) (B x) M Y
 case litb xs=>
  split at h
  .rename_i e a4 T;obtain⟨E,F⟩:=iU h;simp only[Nat.ble_eq]at E;split at F
   .rename_i l I;obtain⟨Z,e4⟩:=iU F;obtain⟨va,us,k1,k2⟩:=Ytj T I Z E (wg P xs) M;grind
   trivial
  trivial
 case bstr x=>exact Ytk h (B x) M S
 case bld=>exact⟨_,_,rfl,Y _ _ _ _ h (Ytm M)⟩
 case isp ng x=>
  have h2:=B x;simp only[kn,mq];generalize iC ae x.er=W at h2⊢;split at h
  .rename_i E;rw[E]at h2;cases h2;refine⟨.v (.bool !ng),by rfl,S _ _ h (.b _)⟩
  .rename_i a p q E;rw[E]at h2;obtain⟨F,Z⟩:=iU h;cases h2 with
   |ptr _ _ _ y o h Q I=>exact⟨.v (.bool ng),rfl,S _ _ Z (.b _)⟩
   |nM _ _ _ _ h _=>simp_all
  trivial
 case isi ng x=>
  have h2:=B x;simp only[kn,mq];generalize iC ae x.er=W at h2⊢;split at h
  .rename_i q E;rw[E]at h2;cases h2 with
   |uT=>exact⟨.v (.bool ng),by rfl,S _ _ (by cases ng<;>exact h) (.b _)⟩
   |mK=>exact⟨.v (.bool !ng),by rfl,S _ _ (by cases ng<;>exact h) (.b _)⟩
  trivial
 case sbyt x=>
  have h2:=B x;split at h
  .rename_i b E;rw[E]at h2;have:iC ae x.er= .v (.string b):=Yu h2;refine⟨.rd 1 (iM b),by simp only[kn,mq,this,lG];rfl,S _ _ h (.l U8 (od b) _ (kD (we b).rows))⟩
  trivial
 case add64 xs=>
  have h2:=wg P xs;split at h
  .rename_i x y c E;obtain⟨F,Z⟩:=lA h;rw[Yv E h2];refine⟨.iZ [.v (.int .u64 (Aj x y c).1),.v (.int .u64 (Aj x y c).2)],by simp only[lG,if_pos F],S _ _ Z (.tp _ _ rfl (λj c a h1 h2=> ?_))⟩
   match j,h1,h2 with
   |0,h1,h2=>simp at h1 h2;subst h1;subst h2;exact .i _ _
   |1,h1,h2=>simp at h1 h2;subst h1;subst h2;exact .i _ _
   |j+2,h1,h2=>trivial
  trivial
 case ixa t n x i=>
  have h1:=B x;have h2:=B i;split at h
  .rename_i cs k m E F;rw[E]at h1;rw[F]at h2;split at h
   .rename_i l J;obtain⟨h3,h⟩:=iU h;obtain⟨h4,h⟩:=lA h;obtain⟨k1,k2⟩:=Ya J;have h3:=jr h3;generalize hx:iC ae x.er=W at h1;generalize Q:iC ae i.er=ai at h2;cases h1 with
    |ag _ as aK aF=>
    cases h2;have a6:m.toNat<l.length:=by omega
    obtain⟨c,T,hd⟩:=k2 m.toNat l[m.toNat] (je a6);have aG:m.toNat<as.length:=by omega
    have ha:as[m.toNat]?=U as[m.toNat]:=je aG;have hg:l.getD m.toNat t.qC=l[m.toNat]:=by rw[vW,je a6];rfl
    rw[hg]at h;have hb:(decide (0<=m)&&js m.toNat n)=true:=by simp[Nat.blt_eq];omega
    refine⟨as[m.toNat],[],?_,S _ _ h (X_ (OT hd (aF _ _ _ T ha)))⟩;simp only[kn,mq,hx,Q,xF,hb,ha,cond_true]
   .cases h
  .cases h
 case mkm o t V ag=>
  refine⟨_,_,?_,Y _ _ _ _ h (Yty o t V ag M)⟩;cases ag<;>rfl
 case mget o t V ag ok m k=>
  obtain⟨v,us,h1,h2⟩:=Ytu h (B m) (B k) M (G' (X:=X) (pl:=pl) (.cons t V)).2.2 S;exact⟨v,us,h1,h2⟩
 case mput o t V ag m k v=>
  obtain⟨w,us,h1,h2⟩:=Ytw h (B m) (B k) (B v) M Y;grind
 case mdel o t V m k=>
  obtain⟨w,us,h1,h2⟩:=Ytx h (B m) (B k) M Y;grind
 case mlen m=>
  have h2:=B m;split at h
  .rename_i a E;rw[E]at h2;split at h
   .rename_i o n c a5 aa l D;obtain⟨y,e5,I⟩:=tI D h2;obtain⟨y',el,N,L,g3,g4,_⟩:=M.obj a _ D;rw[I]at N;injection N with N;subst N
    have a8:hf H y=U (U ⟨3,[[.v (.int .i64 n),.rd 3 el,.v (.bool zj)]]⟩):=L;have a9:ka ⟨3,[[.v (.int .i64 n),.rd 3 el,.v (.bool zj)]]⟩=U (n,el,[.v (.bool zj)]):=rfl;refine⟨.v (.int .i64 (el.length:Nat)),[],by simp only[kn,mq,e5,xF,a8,a9],S _ _ h ?_⟩;rw[g4];exact .i _ _
   .rename_i n c l ad D;obtain⟨Z,e4⟩:=iU h;simp only[rG,Nat.beq_eq]at Z;obtain⟨y,e5,I⟩:=tI D h2;obtain⟨el,aH,R,hy,a9,au,_⟩:=K3 M D I Z;have a8:hf H y=U (U ⟨ad.length+2,[.v (.int .i64 n)::R::aH]⟩):=hy;refine⟨.v (.int .i64 (el.length:Nat)),[],by simp only[kn,mq,e5,xF,a8,a9],S _ _ e4 ?_⟩;rw[au.1];exact .i _ _
   trivial
  trivial
 case mrng m=>
  have h2:=B m;split at h
  .rename_i a E;rw[E]at h2;split at h
   .rename_i o n c a5 aa l D;obtain⟨y,e5,I⟩:=tI D h2;obtain⟨y',el,N,L,g3,g4,_⟩:=M.obj a _ D;rw[I]at N;injection N with N;subst N
    have a8:hf H y=U (U ⟨3,[[.v (.int .i64 n),.rd 3 el,.v (.bool zj)]]⟩):=L;have a9:ka ⟨3,[[.v (.int .i64 n),.rd 3 el,.v (.bool zj)]]⟩=U (n,el,[.v (.bool zj)]):=rfl;obtain⟨k1,k2⟩:=pw M (.st [.np a,.i .i64 n,.i .i64 n,.l qf [],.b zj]) ⟨5,[[.np y,.v (.int .i64 n),.v (.int .i64 n),.rd 1 [],.v (.bool zj)]]⟩
     (λhx=>⟨H.length,[.np y,.v (.int .i64 n),.v (.int .i64 n),.rd 1 [],.v (.bool zj)],by unfold iF;simp,by simp,by simp,CT.cons ((TR.np a y _ D I).ext hx) (CT.cons (.i _ _) (CT.cons (.i _ _) (CT.cons (show TR _ _ (.l qf []) (.rd 1 [])from AG (c:=qf) (Rows.none _)) (CT.cons (.b _) CT.nil))))⟩)
    exact⟨.np H.length,_,by simp only[kn,mq,e5,xF,a8,a9];rfl,Y _ _ _ _ h ⟨_,.np X.length H.length _ (nI X _) (by unfold iF;simp),⟨k1,k2⟩,.inr ⟨by simp,by unfold iF;simp⟩⟩⟩
   .rename_i n c l ad D;obtain⟨Z,e4⟩:=iU h;simp only[rG,Nat.beq_eq]at Z;obtain⟨y,e5,I⟩:=tI D h2;obtain⟨va,us,k1,k2⟩:=Ytz M D I Z;grind
   trivial
  trivial
 case ment o t V ag it=>
  obtain⟨w,us,h1,h2⟩:=YtA h (B it) M S;grind
 case mnxt it=>cases h
 case cpy c d s=>
  have h2:=B d;split at h
  .rename_i a E;rw[E]at h2;split at h
   .rename_i c' l D;split at h
    .rename_i m0 hs;split at h
     .rename_i m hm;obtain⟨Z,e4⟩:=iU h;obtain⟨va,us,k1,k2⟩:=YtB M D h2 hs (B s) hm (show 1<=c.width by simpa[js]using Z);grind
     trivial
    trivial
   trivial
  trivial
 case sub64 xs=>
  have h2:=wg P xs;split at h
  .rename_i x y c E;obtain⟨F,Z⟩:=lA h;rw[Yv E h2];refine⟨.iZ [.v (.int .u64 (Ak x y c).1),.v (.int .u64 (Ak x y c).2)],by simp only[lG,if_pos F],S _ _ Z (.tp _ _ rfl (λj c a h1 h2=> ?_))⟩
   match j,h1,h2 with
   |0,h1,h2=>simp at h1 h2;subst h1;subst h2;exact .i _ _
   |1,h1,h2=>simp at h1 h2;subst h1;subst h2;exact .i _ _
   |j+2,h1,h2=>trivial
  trivial
end
end Go.Abs
namespace Go.Abs
open Go Go.RowKit
mutual
theorem SV.jd: ∀{x y:SV},x.eqb y=zZ->x=y
 | .i k,y,h=>by
   cases y<;>first| (simp[SV.eqb]at h;done)|skip
   simp only[SV.eqb,decide_eq_true_eq]at h;rw[h]
 | .b,y,h=>by cases y<;>first| (simp[SV.eqb]at h;done)|rfl
 | .s,y,h=>by cases y<;>first| (simp[SV.eqb]at h;done)|rfl
 | .u,y,h=>by cases y<;>first| (simp[SV.eqb]at h;done)|rfl
 | .nl,y,h=>by cases y<;>first| (simp[SV.eqb]at h;done)|rfl
 | .ef,y,h=>by cases y<;>first| (simp[SV.eqb]at h;done)|rfl
 | .l c,y,h=>by
   cases y<;>first| (simp[SV.eqb]at h;done)|skip
   rw[Cs.jd (show Cs.eqb c _=zZ from h)]
 | .e c,y,h=>by
   cases y<;>first| (simp[SV.eqb]at h;done)|skip
   rw[Cs.jd (show Cs.eqb c _=zZ from h)]
 | .np a,y,h=>by
   cases y<;>first| (simp[SV.eqb]at h;done)|skip
   rw[jr (show im a _=zZ from h)]
 | .ref a,y,h=>by
   cases y<;>first| (simp[SV.eqb]at h;done)|skip
   rw[jr (show im a _=zZ from h)]
 | .pre a,y,h=>by
   cases y<;>first| (simp[SV.eqb]at h;done)|skip
   rw[jr (show im a _=zZ from h)]
 | .ptr a p q,y,h=>by
   cases y<;>first| (simp[SV.eqb]at h;done)|skip
   simp only[SV.eqb,iI]at h;rw[jr h.1.1,jr h.1.2,jr h.2]
 | .ag x,y,h=>by
   cases y<;>first| (simp[SV.eqb]at h;done)|skip
   rw[SV.jv (show SV.jW x _=zZ from h)]
 | .tp x,y,h=>by
   cases y<;>first| (simp[SV.eqb]at h;done)|skip
   rw[SV.jv (show SV.jW x _=zZ from h)]
 | .clo g x,y,h=>by
   cases y<;>first| (simp[SV.eqb]at h;done)|skip
   simp only[SV.eqb,iI]at h;rw[jr h.1,SV.jv h.2]
theorem SV.jv: ∀{x y:List SV},SV.jW x y=zZ->x=y
 | [],[],_=>rfl
 |a::r,a'::r',h=>by
  simp only[SV.jW,iI]at h;rw[SV.jd h.1,SV.jv h.2]
 | [],_::_,h|_::_,[],h=>by simp[SV.jW]at h
end
theorem SO.jd{x y:SO}(h:x.eqb y=zZ):x=y:=by
 cases x<;>cases y<;>first| (simp[SO.eqb]at h;done)|skip
 .rw[Cs.jd (show _=zZ from h)]
 .simp only[SO.eqb,iI,beq_iff_eq]at h;rw[Cs.jd h.1,h.2.1,Cs.jd h.2.2]
 .simp only[SO.eqb,iI,decide_eq_true_eq]at h;rw[h.1,Cs.jd h.2]
 .rw[SV.jv (show _=zZ from h)]
 .rfl
 .rfl
theorem SO.jv: ∀{x y:List SO},SO.jW x y=zZ->x=y
 | [],[],_=>rfl
 |a::r,A::R,h=>by
  simp only[SO.jW,iI]at h;rw[SO.jd h.1,SO.jv h.2]
 | [],_::_,h|_::_,[],h=>by trivial
theorem wh(c:Cs)(v:List c.den):m_ c c v=U v:=by
 unfold m_ Ty.cast;rw[dif_pos (by simpa[Ty.eqb]using Cs.jS c)];rfl
mutual
theorem O5: ∀{tv:TV} {sv:SV} (r:List Lf),tv.sh=U sv->kH sv (tv.lv++r)=U (tv,r)
 | .i k n,sv,r,h=>by simp only[TV.sh]at h;injection h with h;subst h;simp[TV.lv,kH]
 | .b x,sv,r,h=>by simp only[TV.sh]at h;injection h with h;subst h;simp[TV.lv,kH]
 | .ef x,sv,r,h=>by simp only[TV.sh]at h;injection h with h;subst h;simp[TV.lv,kH]
 | .s x,sv,r,h=>by simp only[TV.sh]at h;injection h with h;subst h;simp[TV.lv,kH]
 | .l c v,sv,r,h=>by simp only[TV.sh]at h;injection h with h;subst h;simp[TV.lv,kH,wh]
 | .u,sv,r,h=>by simp only[TV.sh]at h;injection h with h;subst h;simp[TV.lv,kH]
 | .ref a,sv,r,h=>by simp only[TV.sh]at h;injection h with h;subst h;simp[TV.lv,kH]
 | .pre a n,sv,r,h=>by simp only[TV.sh]at h;injection h with h;subst h;simp[TV.lv,kH]
 | .ptr a p q,sv,r,h=>by simp only[TV.sh]at h;injection h with h;subst h;simp[TV.lv,kH]
 | .np a,sv,r,h=>by simp only[TV.sh]at h;injection h with h;subst h;simp[TV.lv,kH]
 | .ag x,sv,r,h=>by
   simp only[TV.sh]at h;split at h
   .rename_i y hy;injection h with h;subst h;simp only[TV.lv,kH,Ct r hy]
   .cases h
 | .tp x,sv,r,h=>by
   simp only[TV.sh]at h;split at h
   .rename_i y hy;injection h with h;subst h;simp only[TV.lv,kH,Ct r hy]
   .cases h
 | .clo g x,sv,r,h=>by
   simp only[TV.sh]at h;split at h
   .rename_i y hy;injection h with h;subst h;simp only[TV.lv,kH,Ct r hy]
   .cases h
 | .e c,sv,r,h=>by simp only[TV.sh]at h;injection h with h;subst h;simp[TV.lv,kH]
 | .nl,sv,r,h=>by simp only[TV.sh]at h;injection h with h;subst h;simp[TV.lv,kH]
 | .v _,_,_,h| .sub _ _ _,_,_,h| .nq _ _ _ _ _,_,_,h| .rp _,_,_,h| .lt _,_,_,h=>by simp[TV.sh]at h
theorem Ct: ∀{vs:List TV} {svs:List SV} (r:List Lf),TV.qg vs=U svs->pn svs (TV.oB vs++r)=U (vs,r)
 | [],svs,r,h=>by simp only[TV.qg]at h;injection h with h;subst h;simp[TV.oB,pn]
 |a::vs,svs,r,h=>by
  simp only[TV.qg]at h;split at h
  .rename_i x xs h1 h2;injection h with h;subst h
   simp only[TV.oB,pn,qS,O5 (TV.oB vs++r) h1,Ct r h2]
  .cases h
end
theorem YtD{o:il}{S:SO}(r:List Lf)(h:o.sh=U S):rL S (o.lv++r)=U (o,r):=by
 cases o with
 |sq c l=>injection h with h;subst h;simp[il.lv,rL,wh]
 |fm hd c V H l=>
  cases H with
  |some i=>cases hd<;>cases h
  |none=>
   cases hd with
   |rw A nn=>
    obtain⟨h1,h2⟩:=iU h;injection h2 with h2;subst h2
    have:=jr h1;subst this;simp only[il.lv,rL,rV,qt,wh]
   |mp o n=>
    obtain⟨h1,h2⟩:=iU h;injection h2 with h2;subst h2
    have:=jr h1;subst this;simp only[il.lv,rL,rV,qt,wh]
 |st cs=>
  simp only[il.sh]at h;split at h
  .rename_i l d;injection h with h;subst h;simp only[il.lv,rL,Ct r d]
  trivial
 |sb s=>injection h with h;subst h;rfl
theorem YtE{o:il}(h:o.sh=U .dd):False:=by
 cases o with
 |sq c l=>simp[il.sh]at h
 |fm hd c V H l=>cases hd<;>cases H with
  |none=>simp only[il.sh]at h;have:=(iU h).2;cases this
  |some i=>cases h
 |st cs=>simp only[il.sh]at h;grind
 |sb s=>cases h
theorem Fc: ∀{X:hZ} {S:List SO} (r:List Lf),ny X=U S->ll S (kW X++r)=U (X,r)
 | [],S,r,h=>by injection h with h;subst h;rfl
 |none::X,S,r,h=>by
  simp only[ny]at h;split at h
  .rename_i xs h2;injection h with h;subst h
   simp only[kW,ll,Fc r h2]
  trivial
 |some o::X,S,r,h=>by
  simp only[ny]at h;split at h
  .rename_i x xs h1 h2;injection h with h;subst h
   have H:x≠ .dd:=λe=>by subst e;exact YtE h1
   have:ll (x::xs) (o.lv++kW X++r)=match rL x (o.lv++kW X++r)with|some (x,r)=>(match ll xs r with|some (xs,r)=>U (U x::xs,r)|none=>zz)|none=>none:=by cases x<;>first|rfl|trivial
   simp only[kW];rw[this];simp only[qS,YtD (kW X++r) h1,Fc r h2]
  trivial
theorem G_: ∀l:List Lf,kp (tt l).1 (tt l).2=l
 | []=>rfl
 |a::r=>by
  have:=G_ r;simp only[tt,kp,xS,vX,this]
theorem rm{g:Sg}{vs:List TV}{X:hZ}{x:g.c.den}(h:g.read vs X=U x):g.fill x=U ⟨ji g.ts vs,X⟩:=by
 unfold Sg.read at h;split at h
 .rename_i svs S h1 h2;obtain⟨E,d⟩:=iU h;simp at E;have q:=SV.jv E.1;have Q:=SO.jv E.2;have H:=G_ (TV.oB vs++kW X);generalize tt (TV.oB vs++kW X)=p at d H;obtain⟨c,z⟩:=p;obtain⟨e,w⟩:=Cs.kC d;have k:kp g.c x=TV.oB vs++kW X:=by
   grind
  unfold Sg.fill;rw[k,<-q,Ct _ h1];have:=Fc [] h2;simp_all
 trivial
theorem Fe: ∀{m:List Nat} {a i j:Nat},ja m a i=U j->i<=j/\m[j-i]?=U a
 | [],a,i,j,h=>by cases h
 |x::r,a,i,j,h=>by
  simp only[ja]at h;cases H:im x a with
  |true=>
   simp_all
  |false=>
   rw[H,cond_false]at h;obtain⟨h1,h2⟩:=Fe h;grind
theorem Cu{X:hZ}: ∀{l m:List Nat},m.Nodup->(kX X m l).Nodup
 | [],m,h=>h
 |a::l,m,h=>by
  simp only[kX];cases H:((b_ X a).isSome&& !(m.any (im a)))with
  |false=>exact Cu h
  |true=>
   refine Cu ?_;simp only[iI,Bool.not_eq_true']at H;rw[List.nodup_append];refine⟨h,by simp,λx g y d=> ?_⟩;simp at d;subst d;intro e;subst e;have:=List.any_eq_false.1 H.2 x g;simp_all
theorem Ha{X:hZ}: ∀{d:Nat} {m:List Nat},m.Nodup->(lR X d m).Nodup
 |0,m,h=>h
 |d+1,m,h=>by
  simp only[lR];cases im (kX X m (m.flatMap λa=>il.ids (b_ X a))).length m.length with
  |true=>trivial
  |false=>exact Ha (Cu h)
theorem Hb{X:hZ}: ∀{l m:List Nat},(∀a∈m,∃o,b_ X a=U o)-> ∀a∈kX X m l,∃o,b_ X a=U o
 | [],m,h=>h
 |b::l,m,h=>by
  simp only[kX];cases d:((b_ X b).isSome&& !(m.any (im b)))with
  |false=>exact Hb h
  |true=>
   simp at d;refine Hb (λa H=> ?_);rcases uE.1 H with H|H
   .simp_all
   .simp at H;subst H;exact pU.1 d.1
theorem O6{X:hZ}: ∀{d:Nat} {m:List Nat},(∀a∈m,∃o,b_ X a=U o)-> ∀a∈lR X d m,∃o,b_ X a=U o
 |0,m,h=>h
 |d+1,m,h=>by
  simp only[lR];cases im (kX X m (m.flatMap λa=>il.ids (b_ X a))).length m.length with
  |true=>trivial
  |false=>exact O6 (Hb h)
theorem YJ: ∀{m:List Nat} {a:Nat} (i:Nat),a∈m-> ∃j,ja m a i=U j
 |x::m,a,i,h=>by
  simp only[ja];cases H:im x a with
  |true=>simp
  |false=>
   rcases mT.1 h with e|h
   .simp_all
   .exact YJ (i+1) h
theorem Cv{m:List Nat}{a i:Nat}(h:a∉m):ja m a i=none:=by
 cases H:ja m a i with
 |none=>rfl
 |some j=>exact absurd (jc (Fe H).2) h
theorem Hc(X:hZ): ∀(l m:List Nat),m<+:kX X m l
 | [],m=>List.prefix_refl _
 |a::l,m=>by
  simp only[kX];cases((b_ X a).isSome&& !(m.any (im a)))with
  |true=>exact(List.prefix_append m [a]).trans (Hc X l _)
  |false=>exact Hc X l m
theorem O7(X:hZ): ∀(d:Nat) (m:List Nat),m<+:lR X d m
 |0,m=>List.prefix_refl _
 |d+1,m=>by
  simp only[lR];cases im (kX X m (m.flatMap λa=>il.ids (b_ X a))).length m.length with
  |true=>simp
  |false=>exact(Hc X _ m).trans (O7 X d _)
theorem K9(f:Nat->Option il): ∀(m:List Nat) (b:Nat),b_ (m.map f) b=(m[b]?).bind f
 | [],b=>by rfl
 |a::m,0=>by rfl
 |a::m,b+1=>by simp only[kn,b_,K9 f m b,List.getElem?_cons_succ]
theorem pz(r:Nat->Option Nat): ∀l:List TV,TV.my r l=l.map (TV.jm r)
 | []=>rfl
 |a::l=>by simp[TV.my,pz r l]
def lx(pl:Pl)(m:List Nat):Pl
 | .m b=>match m[b]? with|some a=>pl (.m a)|none=>zz
 | .n b i=>match m[b]? with|some a=>pl (.n a i)|none=>zz
section
variable{Fr:Nat->Prop}{H0:ic}{X:hZ}{pl:Pl}{H:ic}{m:List Nat}
abbrev iw(X:hZ)(m:List Nat):hZ:=m.map λa=>(b_ X a).map (il.jm λa=>ja m a 0)
theorem Ff{b a:Nat}(h:m[b]?=U a):b_ (iw X m) b=(b_ X a).map (il.jm λa=>ja m a 0):=by
 rw[K9,h];rfl
theorem Fg(r:Nat->Option Nat)(o:il):iz (o.jm r)=iz o/\lK (o.jm r)=lK o:=by
 cases o with
 |fm hd _ _ _ _=>cases hd<;>exact⟨rfl,rfl⟩
 |_=>exact⟨rfl,rfl⟩
theorem TR.yX{X':hZ}{P:Pl}{r:Nat->Option Nat}{g:Nat->il->il}(y: ∀b o,iz (g b o)=iz o/\lK (g b o)=lK o)(L: ∀{a b:Nat},a<X.length->r a=U b->b<X'.length/\b_ X' b=(b_ X a).map (g b)/\P (.m b)=pl (.m a)){tv:TV}{A:AV}(h:TR X pl tv A):TR X' P (tv.jm r) A:=by
 induction h with
 |i k n=>exact .i k n
 |b x=>exact .b x
 |s x=>exact .s x
 |l c v a h=>exact .l c v a h
 |e c=>exact .e c
 |u a=>exact .u a
 |v x=>exact .u _
 |nl=>exact .nl
 |uT=>exact .uT
 |mK=>exact .mK
 |ref a x o n h w p=>
  simp only[TV.jm];split
  .rename_i b H;obtain⟨h2,h1,d⟩:=L (ki h) H;exact .ref b x _ n (by simp_all) ((y b o).1.trans w) (d.trans p)
  .exact .u _
 |nA a A h q=>
  simp only[TV.jm];split
  .rename_i b H;obtain⟨h2,h1,d⟩:=L q H;exact .nA b _ (by simp_all) h2
  .exact .u _
 |pre a x k o n h w p h0 z=>
  simp only[TV.jm];split
  .rename_i b H;obtain⟨h2,h1,d⟩:=L (ki h) H;exact .pre b x k _ n (by simp_all) ((y b o).1.trans w) (d.trans p) h0 z
  .exact .u _
 |og a x k h q h0=>
  simp only[TV.jm];split
  .rename_i b H;obtain⟨h2,h1,d⟩:=L q H;exact .og b _ _ (by simp_all) h2 h0
  .exact .u _
 |ptr a i j x o h B p=>
  simp only[TV.jm];split
  .rename_i b H;obtain⟨h2,h1,d⟩:=L (ki h) H;exact .ptr b i j x _ (by rw[h1,h];rfl) (by rw[(y b o).2];exact B) (d.trans p)
  .exact .u _
 |nM a i j A h q=>
  simp only[TV.jm];split
  .rename_i b H;obtain⟨h2,h1,d⟩:=L q H;exact .nM b _ _ _ (by simp_all) h2
  .exact .u _
 |np a x o h p=>
  simp only[TV.jm];split
  .rename_i b H;obtain⟨h2,h1,d⟩:=L (ki h) H;exact .np b x _ (by rw[h1,h];rfl) (d.trans p)
  .exact .u _
 |wc a A h q=>
  simp only[TV.jm];split
  .rename_i b H;obtain⟨h2,h1,d⟩:=L q H;exact .wc b _ (by simp_all) h2
  .exact .u _
 |sub=>exact .u _
 |tD=>exact .u _
 |su=>exact .u _
 |nq=>exact .u _
 |tE=>exact .u _
 |rp=>exact .u _
 |lt=>exact .u _
 |ag cs as w h I=>
  simp only[TV.jm,pz];refine .ag _ _ (by grind) (λj c a h1 h2=> ?_);grind
 |tp cs as w h I=>
  simp only[TV.jm,pz];refine .tp _ _ (by grind) (λj c a h1 h2=> ?_);grind
 |clo g cs as w h I=>
  simp only[TV.jm,pz];refine .clo g _ _ (by grind) (λj c a h1 h2=> ?_);grind
theorem TR.jm{tv:TV}{A:AV}(h:TR X pl tv A):TR (iw X m) (lx pl m) (tv.jm λa=>ja m a 0) A:=by
 refine h.yX (g:=λ_=>il.jm λa=>ja m a 0) (λ_=>Fg _) (λ{a b} _ H=> ?_);obtain⟨_,h2⟩:=Fe H;simp only[Nat.sub_zero]at h2;exact⟨by grind,Ff h2,by simp only[lx,h2]⟩
theorem O8(A:ib Fr H0 X pl H)(J:m.Nodup):ib Fr H0 (iw X m) (lx pl m) H:=by
 have D: ∀{p:Pos} {x},lx pl m p=U x-> ∃a,m[p.of]?=U a/\pl (match p with| .m _=>.m a| .n _ i=>.n a i)=U x:=by
  intro p x h;cases p with
  |m b=>simp only[lx]at h;split at h;·exact⟨_,by trivial,h⟩
        trivial
  |n b i=>simp only[lx]at h;split at h;·exact⟨_,by trivial,h⟩
          trivial
 refine⟨λb o' h1=> ?_,λp q x B K=> ?_,λp x B=> ?_,A.fr,λp x B=> ?_,A.le⟩
 .rw[K9]at h1;cases F:m[b]? with
  |none=>simp_all
  |some a=>
   rw[F]at h1;simp at h1;obtain⟨o,C,rfl⟩:=h1;have g:=A.obj a o C;have E:lx pl m (.m b)=pl (.m a):=by simp only[lx,F]
   have L: ∀i,lx pl m (.n b i)=pl (.n a i):=λi=>by simp only[lx,F]
   cases o with
   |sq c l=>obtain⟨x,el,h1,h2,w,z⟩:=g;exact⟨x,el,E.trans h1,h2,w,z⟩
   |fm hd c V I l=>
    obtain⟨x,el,h1,h2,w,z,M⟩:=g;refine⟨x,el,E.trans h1,h2,w,z,λi e v N O=> ?_⟩;obtain⟨d,r,Q,P,R⟩:=M i e v N O;refine⟨d,r,Q,P,λS=> ?_⟩;rw[L];exact R S
   |st cs=>
    obtain⟨x,e,h1,h2,w,z⟩:=g;refine⟨x,e,E.trans h1,?_,?_,?_⟩
    .simp only[pz,pQ];exact h2
    .simpa[pz]using w
    .refine⟨by simp[pz,z.1],λj c a h1 h2=> ?_⟩;rw[pz,jt,lS]at h1;obtain⟨y,h1,rfl⟩:=h1;exact(z.2 j y a h1 h2).jm
   |sb s=>obtain⟨x,h1,h2⟩:=g;exact⟨x,E.trans h1,h2⟩
 .obtain⟨a,h1,h2⟩:=D B;obtain⟨a',w,z⟩:=D K;have:=A.inj _ _ _ h2 z;have nd: ∀{i j:Nat} {a:Nat},m[i]?=U a->m[j]?=U a->i=j:=λT W=>by
   have Y:=iP.1 T;have Z:=iP.1 W;exact(List.getElem_inj (h₀:=Y.1) (h₁:=Z.1) J).1 (by omega)
  cases p with
  |m b=>cases q with
   |m G=>injection this with this;subst this;simp only[Pos.of]at h1 w;grind
   |n G i=>trivial
  |n b i=>cases q with
   |m G=>trivial
   |n G j=>injection this with this e;subst this;subst e;simp only[Pos.of]at h1 w;grind
 .obtain⟨a,h1,h2⟩:=D B;have:=A.own _ _ h2;cases p with
  |m b=>obtain⟨o,C⟩:=this;exact⟨_,by rw[Ff (b:=b) (a:=a) h1,C];rfl⟩
  |n b i=>obtain⟨hd,c,v,h,l,C,k⟩:=this;exact⟨hd,c,0,h,l,by rw[Ff (b:=b) (a:=a) h1,C];rfl,k⟩
 .obtain⟨a,h1,h2⟩:=D B;exact A.nU _ _ h2
theorem YK(f:Nat->TV): ∀(ts:List Nat) (t:Nat),lW (ji ts (ts.map f)) t=if t∈ts then f t else .u
 | [],t=>by rfl
 |s::ts,t=>by
  simp only[kn,ji,lW];cases H:im s t with
  |true=>
   simp_all
  |false=>
   have h:t≠s:=λe=>by simp_all
   rw[cond_false,YK f ts t];grind
theorem K'(f:Option il->Option il)(h:f zz=zz): ∀(X:hZ) (a:Nat),b_ (X.map f) a=f (b_ X a)
 | [],a=>by simp[b_,h]
 |o::X,0=>rfl
 |o::X,a+1=>by exact K' f h X a
theorem O9: ∀l:List TV,TV.ss l=l.map TV.nrm
 | []=>rfl
 |a::r=>by simp[TV.ss,O9 r]
mutual
theorem TR.nrm: ∀(v:TV) {a:AV},TR X pl v a->TR X pl v.nrm a
 | .e c,_,h=>by cases h;exact .l c [] _ (by simp only[mq];exact .j_ _)
 | .ag x,_,h=>by
   cases h with
   |ag _ as hl hc=>have:=CT.nrm x ⟨hl,hc⟩;exact .ag _ _ this.1 this.2
 | .tp x,_,h=>by
   cases h with
   |tp _ as hl hc=>have:=CT.nrm x ⟨hl,hc⟩;exact .tp _ _ this.1 this.2
 | .clo g x,_,h=>by
   cases h with
   |clo _ _ as hl hc=>have:=CT.nrm x ⟨hl,hc⟩;exact .clo g _ _ this.1 this.2
 | .i _ _,_,h=>h
 | .b _,_,h=>h
 | .s _,_,h=>h
 | .l _ _,_,h=>h
 | .u,_,h=>h
 | .v _,_,h=>h
 | .nl,_,h=>h
 | .ef _,_,h=>h
 | .ref _,_,h=>h
 | .pre _ _,_,h=>h
 | .sub _ _ _,_,h=>h
 | .ptr _ _ _,_,h=>h
 | .np _,_,h=>h
 | .nq _ _ _ _ _,_,h=>h
 | .rp _,_,h=>h
 | .lt _,_,h=>h
theorem CT.nrm: ∀(l:List TV) {as:List AV},CT X pl l as->CT X pl (TV.ss l) as
 | [],_,h=>h
 |v::l,as,h=>by
  obtain⟨a,r,rfl,h1,h2⟩:=h.inv;exact .cons (TR.nrm v h1) (CT.nrm l h2)
end
theorem K_(a:Nat):b_ (nz X) a=(b_ X a).map il.nrm:=by
 exact K' _ rfl X a
theorem O':Ext X pl (nz X) pl:=by
 refine⟨by simp[nz],λa _=> ?_⟩;rw[K_];cases h:b_ X a with
 |none=>simp
 |some o=>
  refine .inr ⟨o,o.nrm,rfl,rfl,?_,?_,rfl,?_,λhd c V H l e=> ?_⟩
  .cases o<;>rfl
  .cases o<;>rfl
  .cases o<;>rfl
  .cases o with
   |sq _ _=>cases e
   |st _=>cases e
   |sb _=>cases e
   |fm d c0 g h0 L=>exact⟨hd,V,H,l,e,.inr ⟨rfl,λh=>⟨h,rfl,λi=>⟨rfl,rfl⟩⟩⟩⟩
theorem YL(d:ib Fr H0 X pl H):ib Fr H0 (nz X) pl H:=by
 refine⟨λa o g=> ?_,d.inj,λp x q=> ?_,d.fr,d.nU,d.le⟩
 .rw[K_,lS]at g;obtain⟨O,h0,rfl⟩:=g;have:=d.obj a O h0;cases O with
  |sq c l=>trivial
  |fm hd c v h l=>exact this
  |sb s=>trivial
  |st cs=>
   obtain⟨x,e,E,w,y,z⟩:=this;exact⟨x,e,E,by rw[O9,pQ];exact w,by rw[O9,pQ];exact y,CT.nrm cs (z.ext O')⟩
 .have:=d.own p x q;cases p with
  |m a=>obtain⟨o,g⟩:=this;exact⟨o.nrm,by rw[K_,g];rfl⟩
  |n a i=>obtain⟨hd,c,v,h,l,g,k⟩:=this;exact⟨hd,c,v,h,l,by rw[K_,g];rfl,k⟩
theorem He{env:jO}{ae:Env}(A:jB X pl env ae)(y:ib Fr H0 X pl H){k:Nat}{ts:List Nat}{vs:List TV}{X':hZ}(g:k<=X.length)(h:wa k ts ⟨env,X⟩=(vs,X')): ∃p,jB X' p (ji ts vs) ae/\ib Fr H0 X' p H/\k<=X'.length/\ ∀i,i<k-> ∀x,p (.m i)=U x->pl (.m i)=U x:=by
 unfold wa at h;simp only at h;have q: ∀t,TR (nz X) pl (lW env t).nrm (jk ae t):=λt=>TR.nrm _ ((A t).ext O');have y:=YL y;have z:(nz X).length=X.length:=by simp[nz]
 have g:k<=(nz X).length:=by omega
 clear z A;generalize nz X=X at h y g q;have w:(lR X 5 (kX X (List.range (min k X.length)) (TV.jD (ts.map λt=>(lW env t).nrm)))).Nodup:=Ha (Cu wW);have d:List.range (min k X.length)<+:lR X 5 (kX X (List.range (min k X.length)) (TV.jD (ts.map λt=>(lW env t).nrm))):=(Hc _ _ _).trans (O7 _ _ _);generalize(lR X 5 (kX X (List.range (min k X.length)) (TV.jD (ts.map λt=>(lW env t).nrm))))=m at h w d;injection h with h1 h2
 subst h1;subst h2;obtain⟨T,B⟩:=d;refine⟨lx pl m,λt=> ?_,O8 y w,by grind,λi D x C=> ?_⟩
 rotate_left
 .have:m[i]?=U i:=by
   grind
  simpa only[lx,this]using C
 rw[pz,List.map_map,YK];split
 .exact(q t).jm
 .exact .u _
theorem YtF{env:Env}{H:ic}{b x es n j:Nat}{e:List AV}{D:AV}(M:H[x]?=U (U ⟨n,[e]⟩))(d:e[j]?=U D)(B:(D= .emp/\0<es)\/D= .v (.slice zz 0 0)):
  Wk ⟨env,H,b⟩ ⟨env,H.set x (U ⟨n,[e.set j (.ref H.length 0 0)]⟩)++[U ⟨es,[]⟩],b⟩:=by
 intro fm n0 w0 L0 a w hs;obtain⟨h1,h2,O,L,P,Q,Y,Z⟩:=hs;obtain⟨k1,K⟩:=BU Y (nid:=H.length) (by simp[hf]) (es:=es) w0.heap.size (decide (es=0)) (λh=>by simpa using h);have a3:hY L (λa=>if a=H.length then .nil (decide (es=0))else L a) w.heap.size:=(BU Y (nid:=H.length) (by simp[hf]) (es:=es) w.heap.size (decide (es=0)) (λh=>by simpa using h)).1;rw[lH]at K;have F:=(iP.1 M).1;have a4:x≠H.length:=by omega
 have y: ∀c,hf (H.set x (U ⟨n,[e.set j (.ref H.length 0 0)]⟩)++[U ⟨es,[]⟩]) c=if c=x then U (U ⟨n,[e.set j (.ref H.length 0 0)]⟩)else hf (H++[U ⟨es,[]⟩]) c:=by
  intro c;simp only[hf];by_cases E:c=x
  .subst E;rw[if_pos rfl,ld (by simpa using F),o_ F]
  .rw[if_neg E];by_cases hc:c<H.length
   .rw[ld (by simpa using hc),ld hc,mR (Ne.symm E)]
   .rw[nF (by simp;omega),nF (by omega)];simp
 have G:hf (H++[U ⟨es,[]⟩]) x=U (U ⟨n,[e]⟩):=by
  simp only[hf];rw[ld F];exact M
 refine⟨h1,h2,O,_,P,Q.trans k1,?_,λs=>(Z s).mono (iv.refl _ _) a3⟩;refine⟨λc q p=> ?_,λc I=> ?_,λc=> ?_,K.inj,K.hid,λc q g J cap p h0 hL=> ?_,λc i g I=> ?_,K.tab⟩
 rotate_left 4
 .obtain⟨⟨q,p⟩,k⟩:=K.qU c i g I;refine⟨?_,k⟩;rw[y];by_cases E:c=x
  .rw[if_pos E];exact⟨_,rfl⟩
  .rw[if_neg E];exact⟨q,p⟩
 rotate_left 3
 .rw[y]at p;by_cases E:c=x
  .subst E;rw[if_pos rfl]at p;injection p with p;injection p with p;subst p
   exact K.qw c _ g J cap G h0 hL
  .rw[if_neg E]at p;exact K.qw c q g J cap p h0 hL
 .rw[y]at p;by_cases E:c=x
  .subst E;rw[if_pos rfl]at p;injection p with p;injection p with p;subst p
   have a5:(if c=H.length then Loc.nil (decide (es=0))else L c)=L c:=if_neg a4;have T:pW fm w _ (if c=H.length then Loc.nil (decide (es=0))else L c) _:=K.obj c _ G;rw[a5]at T⊢;revert T;cases hL:L c with
   |fresh=>exact id
   |dead=>exact id
   |hid g=>exact id
   |nil=>intro g1;cases g1.1
   |cells g J cap=>
    rintro⟨g0,g1,g2,g3,g4,cur,ty,g5,g6,g7⟩;refine⟨g0,g1,by simpa using g2,g3,λe' V=> ?_,cur,ty,g5,g6,λi e' j' x' hi z=> ?_⟩
    .simp at V;subst V;rw[List.length_set];exact g4 e (uV.2 rfl)
    .cases i with
     |succ i=>simp at hi
     |zero=>
      simp at hi;subst hi;by_cases ej:j'=j
      .subst ej;have a6:=(iP.1 d).1;rw[o_ a6]at z;injection z with z;subst z
       obtain⟨q1,q2⟩:=g7 0 e j' _ rfl d;refine⟨q1,?_⟩;rcases B with⟨rfl,B⟩|rfl
       .obtain⟨A,hA⟩:=uJ q2;rw[hA];exact .jo A H.length (decide (es=0)) (by simp) (λh=>by simp at h;omega)
       .rw[kI q2];exact .jo zz H.length (decide (es=0)) (by simp) (λ_=>rfl)
      .rw[mR (Ne.symm ej)]at z;exact g7 0 e j' x' rfl z
   |mp i g=>
    intro hm;exfalso;have N: ∀x,(∀A n c,x≠ .slice A n c)-> ¬VR fm w (λa=>if a=H.length then Loc.nil (decide (es=0))else L a) x D:=λx M hv=>by
     rcases B with⟨rfl,_⟩|rfl
     .obtain⟨A,hA⟩:=uJ hv;exact M _ _ _ hA
     .exact M _ _ _ (kI hv)
    have C: ∀{wd:Nat} {el:List (List AV)},D≠ .rd wd el:=λe=>by
     rcases B with⟨rfl,_⟩|rfl<;>cases e
    have W:D≠ .u:=λe=>by
     rcases B with⟨rfl,_⟩|rfl<;>cases e
    cases i with
    |true=>
     obtain⟨_,a0,s,t,S,a9,g',a1,a7,X,_,h2,O,P,Q,Y,Z⟩:=hm;injection h2 with h2 _
     subst h2
     match j,d with
     |0,d=>simp at d;subst d;exact N _ (λA n c e=>by cases e) O
     |1,d=>simp at d;subst d;exact N _ (λA n c e=>by cases e) P
     |2,d=>simp at d;subst d;exact N _ (λA n c e=>by cases e) Q
     |3,d=>
      simp at d;subst d;rcases Z with e| ⟨wd,bl,e,_⟩
      .exact W e
      .exact C e
     |4,d=>simp at d;subst d;exact N _ (λA n c e=>by cases e) Y
     |j+5,d=>simp at d
    |false=>
     obtain⟨_,ms,a2,c0,R,a8,_,h2,O,P,_,Q⟩:=hm;injection h2 with h2 _
     subst h2
     match j,d with
     |0,d=>simp at d;subst d;exact N _ (λA n c e=>by cases e) O
     |1,d=>
      simp at d;subst d;rcases Q with e| ⟨wd,el,e,_⟩
      .exact W e
      .exact C e
     |j+2,d=>
      simp at d;exact N _ (λA n c e=>by cases e) (P D (jc d))
  .rw[if_neg E]at p;exact K.obj c q p
 .obtain⟨q,p⟩:=K.live c I;rw[y];by_cases E:c=x
  .rw[if_pos E];exact⟨_,rfl⟩
  .rw[if_neg E];exact⟨q,p⟩
 .rw[y,K.fresh c];by_cases E:c=x
  .subst E;rw[if_pos rfl,G];simp
  .rw[if_neg E]
theorem YtG(y:ib Fr H0 X pl H){a x j es:Nat}{cs:List TV}{e:List AV}{o:il}(T:b_ X a=U (.st cs))(O:pl (.m a)=U x)(Y:H[x]?=U (U ⟨cs.length,[e]⟩))(K:CT X pl cs e)(h0:0<cs.length)(Z:j<cs.length)(ho:iz o=U 0)
  (Q: ∀{X':hZ} {P:Pl} {H':ic},P (.m X.length)=U H.length->(∀i,P (.n X.length i)=zz)->H'[H.length]?=U (U ⟨es,[]⟩)->OR X' P H' X.length o):
  ib Fr H0 (hU X a (U (.st (cs.set j (.ref X.length))))++[U o]) (iF pl (.m X.length) (U H.length)) (H.set x (U ⟨cs.length,[e.set j (.ref H.length 0 0)]⟩)++[U ⟨es,[]⟩])/\
   Ext X pl (hU X a (U (.st (cs.set j (.ref X.length))))++[U o]) (iF pl (.m X.length) (U H.length)):=by
 have R:=ki T;have a0:=(iP.1 Y).1;have a1:(hU X a (U (.st (cs.set j (.ref X.length))))).length=X.length:=km _ _ _;have C:b_ (hU X a (U (.st (cs.set j (.ref X.length))))++[U o]) X.length=U o:=by
  have:=nI (hU X a (U (.st (cs.set j (.ref X.length))))) (U o);simp_all
 have D:b_ (hU X a (U (.st (cs.set j (.ref X.length))))++[U o]) a=U (.st (cs.set j (.ref X.length))):=by
  rw[qj (by omega)];exact oV _ R
 have L: ∀b,b≠a->b≠X.length->b_ (hU X a (U (.st (cs.set j (.ref X.length))))++[U o]) b=b_ X b:=λb h1 h2=>by
  by_cases d:b<X.length
  .rw[qj (by omega),nt _ (Ne.symm h1)]
  .rw[rl (by grind),rl (by omega)]
 have g: ∀p:Pos,p≠ .m X.length->iF pl (.m X.length) (U H.length) p=pl p:=λp h=>by unfold iF;simp_all
 have B: ∀p:Pos,p.of≠X.length->p≠ .m X.length:=λp h e=>by subst e;trivial
 have M:iF pl (.m X.length) (U H.length) (.m X.length)=U H.length:=by unfold iF;simp
 have S: ∀{p:Pos} {z},p≠ .m a->pl p=U z->(H.set x (U ⟨cs.length,[e.set j (.ref H.length 0 0)]⟩)++[U ⟨es,[]⟩])[z]?=H[z]?:=λh1 h2=>by
  rw[ld (by simpa using y.bd h2),mR (λe=>h1 (by subst e;exact y.inj _ _ _ h2 O))]
 have F:Ext X pl (hU X a (U (.st (cs.set j (.ref X.length))))++[U o]) (iF pl (.m X.length) (U H.length)):=by
  refine⟨by grind,λb d=> ?_⟩;have G:b≠X.length:=by omega
  by_cases E:b=a
  .subst E;exact .inr ⟨_,_,T,D,rfl,rfl,g _ (B (.m b) G),rfl,λhd c v h l e=>by cases e⟩
  .rw[L b E G];cases h:b_ X b with
   |none=>simp
   |some V=>exact .inr ⟨V,V,rfl,rfl,rfl,rfl,g _ (B (.m b) G),rfl,λhd' c' v' h' l' e=>⟨hd',v',h',l',e,.inr ⟨rfl,λh=>⟨h,rfl,λi=>⟨rfl,g _ (λe=>by cases e)⟩⟩⟩⟩⟩
 refine⟨y.build (λb=>b=a\/b=X.length) F (λb d=>L b (λe=>d (.inl e)) (λe=>d (.inr e))) (λp d=>g p (B p (λe=>d (.inr e)))) (λp z d A=>S (λe=>by subst e;exact d (.inl rfl)) A)
  (λb ob d w=> ?_) (λp z d A=> ?_) (λp z d A=> ?_) (λp q z d a2 A N=> ?_) (λz A=> ?_) (by simp),F⟩
 .by_cases E:b=X.length
  .subst E;rw[C]at w;injection w with w;subst w
   refine Q M (λi=> ?_) ?_
   .rw[g _ (λe=>by cases e)];exact y.dead (rl (jG _))
   simp
  .have:=d.resolve_right E;subst this;rw[D]at w;injection w with w;subst w
   refine⟨x,e.set j (.ref H.length 0 0),(g _ (B (.m b) E)).trans O,?_,by simp_all,?_⟩
   .grind
   .refine⟨by simp[K.1],λi c av I J=> ?_⟩;by_cases W:i=j
    .subst W;rw[o_ Z]at I;rw[o_ (by grind)]at J;injection I with I;injection J with J;subst I;subst J
     exact .ref X.length H.length o 0 C ho M
    .rw[mR (Ne.symm W)]at I J;exact(K.2 i c av I J).ext F
 .by_cases E:p= .m X.length
  .subst E;exact⟨o,C⟩
  .rw[g p E]at A;have hl:=y.own p z A;rcases d with d|d
   .cases p with
    |m b=>simp only[Pos.of]at d;subst d;exact⟨_,D⟩
    |n b i=>simp only[Pos.of]at d;subst d;obtain⟨hd,c,v,h,l,k,_⟩:=hl;simp_all
   .have:=y.dead (p:=p) (by rw[d];exact rl (jG _));simp_all
 .grind
 .by_cases E:p= .m X.length<;>by_cases e2:q= .m X.length
  .simp_all
  .grind
  .grind
  .rw[g p E]at A;rw[g q e2]at N;exact y.inj _ _ _ A N
 .have:=(y.fr z A).1;have:=y.le;rw[ld (by grind),mR (λe=>y.nU _ _ O (by simp_all))]
theorem YM(f:TV->TV)(h:f .u= .u): ∀(env:jO) (t:Nat),lW (env.map λp=>(p.1,f p.2)) t=f (lW env t)
 | [],t=>by simp[lW,h]
 | (s,v)::r,t=>by
   simp only[kn,lW];cases im s t with
   |true=>rfl
   |false=>exact YM f h r t
theorem YtH(a n:Nat):(v_ a n).Nodup:=by
 have k: ∀b,b<n->(bif im b a then n else b)≠a\/False:=λb p=>by
  cases h:im b a with
  |true=>have:=jr h;grind
  |false=>exact .inl (λe=>by simp_all)
 unfold v_;rw[List.nodup_append];refine⟨?_,by simp,λx H y d=> ?_⟩
 .rw[List.nodup_iff_pairwise_ne,List.pairwise_map];refine List.Pairwise.imp_of_mem (λ{x y} H d g=> ?_) (List.nodup_iff_pairwise_ne.1 (wW (n:=n)));cases h:im x a<;>cases q:im y a
  .trivial
  .grind
  .grind
  simp_all
 grind
theorem YN{env:jO}{ae:Env}(g:jB X pl env ae)(d:ib Fr H0 X pl H)(a:Nat):
  jB (yL a ⟨env,X⟩).heap (lx pl (v_ a X.length)) (yL a ⟨env,X⟩).env ae/\ib Fr H0 (yL a ⟨env,X⟩).heap (lx pl (v_ a X.length)) H/\X.length+1=(yL a ⟨env,X⟩).heap.length/\ ∀i,i<X.length-> ∀x,lx pl (v_ a X.length) (.m i)=U x->pl (.m i)=U x:=by
 refine⟨λt=> ?_,O8 d (YtH a X.length),by simp[yL,v_],λi q x k=> ?_⟩
 .show TR (iw X (v_ a X.length)) _ (lW (env.map λp=>(p.1,p.2.jm λb=>ja (v_ a X.length) b 0)) t) _;rw[YM (λv=>v.jm λb=>ja (v_ a X.length) b 0) rfl];exact(g t).jm
 .have:(v_ a X.length)[i]?=U (bif im i a then X.length else i):=by
   unfold v_;grind
  simp only[lx,this]at k;cases h:im i a with
  |true=>
   have:=d.dead (p:=.m X.length) (rl (jG _));simp_all
  |false=>simp_all
theorem YO{fm:FM}{w:World}{L:Nat->Loc}{H:ic}{x es:Nat}{el:List (List AV)}(n:Nat)(p:HR fm w L (hf H))(G:H[x]?=U (U ⟨es,el⟩))
  (C:(∃g E cap,L x= .cells g E cap)\/ ∃b,L x= .nil b):HR fm w L (hf (H.set x (U ⟨es,el.take n⟩))):=by
 have d: ∀c,hf (H.set x (U ⟨es,el.take n⟩)) c=if c=x then U (U ⟨es,el.take n⟩)else hf H c:=by
  intro c;simp only[hf];grind
 have D:hf H x=U (U ⟨es,el⟩):=G;refine⟨λc q h=> ?_,λc B=> ?_,λc=> ?_,p.inj,p.hid,λc q g E cap h h0 F=> ?_,λc i g B=> ?_,p.tab⟩
 .rw[d]at h;by_cases z:c=x
  .subst z;rw[if_pos rfl]at h;injection h with h;injection h with h;subst h
   have A:=p.obj c _ D;rcases C with⟨g,E,cap,C⟩| ⟨b,C⟩
   .rw[C]at A⊢;obtain⟨I,J,Q,K,M,cur,ty,N,O,R⟩:=A;refine⟨I,J,by grind,K,λe P=>M e (List.mem_of_mem_take P),cur,ty,N,O,λi e j y S T=> ?_⟩;grind
   .rw[C]at A⊢;have h0:el=[]:=A.1;simp_all
  .rw[if_neg z]at h;exact p.obj c q h
 .rw[d];by_cases z:c=x
  .simp_all
  .rw[if_neg z];exact p.live c B
 .rw[d];by_cases z:c=x
  .grind
  .rw[if_neg z];exact p.fresh c
 .rw[d]at h;by_cases z:c=x
  .subst z;rw[if_pos rfl]at h;injection h with h;injection h with h;subst h
   exact p.qw c _ g E cap D h0 F
  .rw[if_neg z]at h;exact p.qw c q g E cap h h0 F
 .obtain⟨⟨q,h⟩,k⟩:=p.qU c i g B;grind
theorem YP{fm:FM}{w:World}{L:Nat->Loc}{H:ic}{x m:Nat}{o:iu}{v:Value}(k:HR fm w L (hf H))(p:H[x]?=U (U o))(h:VR fm w L v (.ref x 0 m)):
  (∃g E cap,L x= .cells g E cap)\/ ∃b,L x= .nil b:=by
 generalize d:AV.ref x 0 m=a at h;cases h with
 |jH g es cap a O len h q=>simp_all
 |jo A a b h y=>simp_all
 |ju A c a O len h q=>
  injection d with h1;subst h1
  have:=k.obj x o p;rw[h]at this;trivial
 |_=>cases d
theorem YtI{env:Env}{H:ic}{b x es t m n:Nat}{el:List (List AV)}(h:H[x]?=U (U ⟨es,el⟩))(k:jk env t= .ref x 0 m):
  Wk ⟨env,H,b⟩ ⟨env,H.set x (U ⟨es,el.take n⟩),b⟩:=by
 intro fm n0 W A a w p;obtain⟨h1,h2,q,L,y,z,d,g⟩:=p;have:=g t;simp only[k]at this;exact⟨h1,h2,q,L,y,z,YO n d h (YP d h this),g⟩
theorem YtJ{env:Env}{H:ic}{b x es y k j m n:Nat}{el:List (List AV)}{e:List AV}(F:H[x]?=U (U ⟨es,el⟩))(W:H[y]?=U (U ⟨k,[e]⟩))(I:e[j]?=U (.ref x 0 m)):
  Wk ⟨env,H,b⟩ ⟨env,H.set x (U ⟨es,el.take n⟩),b⟩:=by
 intro fm n0 w0 L0 a w X;obtain⟨h1,h2,Y,L,Z,h5,q,h7⟩:=X;have a1: ∀{v:Value},(∀A b c,v≠ .slice A b c)-> ¬VR fm w L v (.ref x 0 m):=λhv J=>by
  generalize ha:AV.ref x 0 m=a at J;cases J with
  |jH g es cap a O len h hl=>simp_all
  |jo A a b h hA=>simp_all
  |ju A c a O len h hl=>simp_all
  |_=>cases ha
 refine⟨h1,h2,Y,L,Z,h5,YO n q F ?_,h7⟩;have z:=q.obj y _ W;revert z;cases hL:L y with
 |fresh=>intro h;cases h
 |dead=>intro h;cases h
 |hid g=>intro h;cases h
 |nil=>intro p;cases p.1
 |cells g E cap=>
  rintro⟨K,p,G,M,B,cur,ty,N,P,Q⟩;exact YP q F (Q 0 e j _ rfl I).2
 |mp i g=>
  cases i with
  |false=>
   rintro⟨K,E,C,c0,R,T,p,G,M,B,N,P⟩;injection G with G;subst G
   cases j with
   |zero=>simp_all
   |succ j=>cases j with
    |zero=>simp_all
    |succ j=>
     have:=B _ (jc (show T[j]?=U _ from I));trivial
  |true=>
   rintro⟨K,a0,s,t,S,a2,g',D,V,d,p,G,M,B,N,P,Q⟩;grind
theorem YQ{X:hZ}{pl:Pl}{H:ic}(A:ib Fr H0 X pl H){b x m:Nat}{c:Cs}{l:List c.den}{el:List (List AV)}(N:b_ X b=U (.sq c l))(J:pl (.m b)=U x)(S:H[x]?=U (U ⟨c.width,el⟩))(T:0<c.width)(y:Rows el c l):
  ib Fr H0 (hU X b zz++[U (.sq c (l.take m))]) (iF (iF pl (.m b) zz) (.m X.length) (U x)) (H.set x (U ⟨c.width,el.take m⟩))/\
   Ext X pl (hU X b zz++[U (.sq c (l.take m))]) (iF (iF pl (.m b) zz) (.m X.length) (U x)):=by
 have L:=ki N;have V:=(iP.1 S).1;have W:(hU X b zz).length=X.length:=km _ _ _;have D:b_ (hU X b zz++[U (.sq c (l.take m))]) X.length=U (.sq c (l.take m)):=by
  have:=nI (hU X b zz) (U (.sq c (l.take m)));simp_all
 have O:b_ (hU X b zz++[U (.sq c (l.take m))]) b=none:=by
  rw[qj (by omega)];exact oV _ L
 have F: ∀d,d≠b->d≠X.length->b_ (hU X b zz++[U (.sq c (l.take m))]) d=b_ X d:=λd h1 h2=>by
  by_cases hd:d<X.length
  .rw[qj (by omega),nt _ (Ne.symm h1)]
  .rw[rl (by grind),rl (by omega)]
 have B:iF (iF pl (.m b) zz) (.m X.length) (U x) (.m X.length)=U x:=by unfold iF;simp
 have Y:iF (iF pl (.m b) zz) (.m X.length) (U x) (.m b)=none:=by
  unfold iF;grind
 have g: ∀p:Pos,p≠ .m X.length->p≠ .m b->iF (iF pl (.m b) zz) (.m X.length) (U x) p=pl p:=λp h P=>by unfold iF;simp_all
 have G:Ext X pl (hU X b zz++[U (.sq c (l.take m))]) (iF (iF pl (.m b) zz) (.m X.length) (U x)):=by
  refine⟨by grind,λd hd=> ?_⟩;have M:d≠X.length:=by omega
  by_cases E:d=b
  .simp_all
  .rw[F d E M];cases h:b_ X d with
   |none=>simp
   |some Q=>exact .inr ⟨Q,Q,rfl,rfl,rfl,rfl,g _ (λe=>by simp_all) (λe=>by simp_all),rfl,λhd' c' Z P l' e=>⟨hd',Z,P,l',e,.inr ⟨rfl,λh=>⟨h,rfl,λi=>⟨rfl,g _ (λe=>by cases e) (λe=>by cases e)⟩⟩⟩⟩⟩
 refine⟨A.build (λd=>d=b\/d=X.length) G (λd hd=>F d (λe=>hd (.inl e)) (λe=>hd (.inr e)))
  (λp hd=>g p (λe=>by subst e;exact hd (.inr rfl)) (λe=>by subst e;exact hd (.inl rfl)))
  (λp z hd k=>by rw[mR (λe=>hd (by subst e;have:=A.inj _ _ _ k J;subst this;exact .inl rfl))])
  (λd ob hd w=> ?_) (λp z hd k=> ?_) (λp z hd k=> ?_) (λp q z hd hd' k I=> ?_) (λz k=> ?_) (by simp),G⟩
 .rcases hd with rfl|rfl
  .simp_all
  .rw[D]at w;injection w with w;subst w
   refine⟨x,el.take m,B,by simp_all,T,by simp[y.1],λi e v h1 h2=> ?_⟩;rw[oU]at h1 h2;split at h1
   .rename_i hi;rw[if_pos hi]at h2;exact y.2 i e v h1 h2
   trivial
 .by_cases E:p= .m X.length
  .subst E;exact⟨_,D⟩
  .by_cases C:p= .m b
   .simp_all
   .rw[g p E C]at k;rcases hd with hd|hd
    .exact absurd (Yh A N k hd) C
    .have:=A.dead (p:=p) (by rw[hd];exact rl (jG _));simp_all
 .by_cases E:p= .m X.length
  .subst E;rw[B]at k;injection k with k;subst k;exact .inl ⟨.m b,J,.inl rfl⟩
  grind
 .have a0: ∀(p q:Pos) (z:Nat),p≠ .m X.length->q= .m X.length->iF (iF pl (.m b) zz) (.m X.length) (U x) p=U z->iF (iF pl (.m b) zz) (.m X.length) (U x) q=U z->False:=by
   intro p q z h1 h2 R K;subst h2;rw[B]at K;injection K with K;subst K
   by_cases C:p= .m b
   .simp_all
   .rw[g p h1 C]at R;exact C (A.inj _ _ _ R J)
  by_cases E:p= .m X.length<;>by_cases C:q= .m X.length
  .simp_all
  .grind
  .grind
  .by_cases e3:p= .m b
   .simp_all
   .by_cases e4:q= .m b
    .simp_all
    .rw[g p E e3]at k;rw[g q C e4]at I;exact A.inj _ _ _ k I
 .rw[mR (λe=>A.nU _ _ J (by simp_all))]
theorem YtK{X:hZ}{pl:Pl}{H:ic}(D:ib Fr H0 X pl H){a j y:Nat}{cs:List TV}{e:List AV}{v:TV}{G:AV}(I:b_ X a=U (.st cs))(L:pl (.m a)=U y)(P:H[y]?=U (U ⟨cs.length,[e]⟩))(w:CT X pl cs e)
  (Q:e[j]?=U G) (R: ∀{X'},Ext X pl X' pl->TR X' pl v G):ib Fr H0 (hU X a (U (.st (cs.set j v)))) pl H/\Ext X pl (hU X a (U (.st (cs.set j v)))) pl:=by
 have E:=ki I;have A:b_ (hU X a (U (.st (cs.set j v)))) a=U (.st (cs.set j v)):=oV _ E;have C: ∀b,b≠a->b_ (hU X a (U (.st (cs.set j v)))) b=b_ X b:=λb h1=>nt _ (Ne.symm h1);have B:Ext X pl (hU X a (U (.st (cs.set j v)))) pl:=by
  refine⟨by rw[km];omega,λb d=> ?_⟩;by_cases J:b=a
  .subst J;exact .inr ⟨_,_,I,A,rfl,rfl,rfl,rfl,λhd c v h l e=>by cases e⟩
  .rw[C b J];cases h:b_ X b with
   |none=>simp
   |some S=>grind
 have h0:0<cs.length:=by rw[w.1];grind
 refine⟨D.build (λb=>b=a) B (λb d=>C b d) (λ_ _=>rfl) (λ_ _ _ _=>rfl) (λb ob d g=> ?_) (λp z d F=> ?_) (λp z d F=>.inl ⟨p,F,d⟩) (λp q z _ _ h1 h2=>D.inj _ _ _ h1 h2) (λ_ _=>rfl) (jG _),B⟩
 .subst d;rw[A]at g;injection g with g;subst g
  refine⟨y,e,L,by simp_all,by simp_all,by simp[w.1],λi c q K M=> ?_⟩;by_cases N:i=j
  .grind
  .rw[mR (Ne.symm N)]at K;exact(w.2 i c q K M).ext B
 .have O:=D.own p z F;cases p with
  |m b=>simp only[Pos.of]at d;subst d;exact⟨_,A⟩
  |n b i=>simp only[Pos.of]at d;subst d;obtain⟨hd,c,v,h,l,k,_⟩:=O;simp_all
theorem YtL{X:hZ}{pl:Pl}{H:ic}(D:ib Fr H0 X pl H){a:Nat}{A:Cs}{c:Cs}{V:Nat}{g:Option Nat}{l:List (sn c A).den}(E:b_ X a=U (.fm (.rw A zZ) c V g l)):
  ib Fr H0 (hU X a (U (.fm (.rw A zj) c V g l))) pl H/\Ext X pl (hU X a (U (.fm (.rw A zj) c V g l))) pl:=by
 have G:=ki E;have k:b_ (hU X a (U (.fm (.rw A zj) c V g l))) a=U (.fm (.rw A zj) c V g l):=oV _ G;have B: ∀b,b≠a->b_ (hU X a (U (.fm (.rw A zj) c V g l))) b=b_ X b:=λb h1=>nt _ (Ne.symm h1);have C:Ext X pl (hU X a (U (.fm (.rw A zj) c V g l))) pl:=by
  refine⟨by rw[km];omega,λb y=> ?_⟩;by_cases F:b=a
  .subst F;refine .inr ⟨_,_,E,k,rfl,rfl,rfl,rfl,λM Z v1 h1 l1 e=> ?_⟩;injection e with e0 F e2 e3 I
   subst e0;subst F;subst e2;subst e3;have I:=eq_of_heq I;subst I;exact⟨_,_,_,_,rfl,.inr ⟨rfl,λh=>⟨h,rfl,λi=>⟨rfl,rfl⟩⟩⟩⟩
  .rw[B b F];cases h:b_ X b with
   |none=>simp
   |some o=>exact .inr ⟨o,o,rfl,rfl,rfl,rfl,rfl,rfl,λhd' c' N O l' e=>⟨hd',N,O,l',e,.inr ⟨rfl,λh=>⟨h,rfl,λj=>⟨rfl,rfl⟩⟩⟩⟩⟩
 refine⟨D.build (λb=>b=a) C (λb y=>B b y) (λ_ _=>rfl) (λ_ _ _ _=>rfl) (λb ob y w=> ?_) (λp z y J=> ?_) (λp z y J=>.inl ⟨p,J,y⟩) (λp q z _ _ h1 h2=>D.inj _ _ _ h1 h2) (λ_ _=>rfl) (jG _),C⟩
 .subst y;rw[k]at w;injection w with w;subst w
  obtain⟨x,el,h1,h2,P,Q,R⟩:=D.obj _ _ E;refine⟨x,el,h1,h2,P,Q,λi e v K L=> ?_⟩;obtain⟨d,r,S,T,W⟩:=R i e v K L;refine⟨d,r,S,T,λY=> ?_⟩;rcases W Y with q| ⟨q,_⟩
  .exact .inl q
  .cases q
 .rcases yV D E J y with rfl| ⟨j,rfl,K,L⟩
  .exact⟨_,k⟩
  .exact⟨_,_,_,_,_,k,K,L⟩
theorem uo{base:Nat}: ∀{ws:List (Nat×Option Nat×Bool)} {s:lu} {pl:Pl} {st:jI},st.base=base->jB s.heap pl s.env st.env->ib Fr H0 s.heap pl st.heap->
  ∃S p,Wk st S/\S.base=base/\jB (iQ ws s).heap p (iQ ws s).env S.env/\ib Fr H0 (iQ ws s).heap p S.heap/\s.heap.length<=(iQ ws s).heap.length/\ ∀i,i<s.heap.length-> ∀x,p (.m i)=U x->pl (.m i)=U x
 | [],s,pl,st,k,q,g=>⟨st,pl,.refl _,k,q,g,jG _,λ_ _ _ h=>h⟩
 | (t,U j,w)::r,s,pl,st,a1,q,g=>by
   have k:=a1;obtain⟨env,X⟩:=s;obtain⟨ae,H,C⟩:=st;have R:=uo (ws:=r) (s:=⟨env,X⟩) (st:=⟨ae,H,C⟩) k q g;have step: ∀{a:Nat} {cs:List TV} {c0:Cs} (o:il) (es:Nat),b_ X a=U (.st cs)->((cs[j]?=U (.e c0)/\0<es)\/cs[j]?=U (.v (.slice zz 0 0)))->iz o=U 0->
     (∀{X':hZ} {p:Pl} {H':ic},p (.m X.length)=U H.length->(∀i,p (.n X.length i)=zz)->H'[H.length]?=U (U ⟨es,[]⟩)->OR X' p H' X.length o)->
     ∃S p,Wk ⟨ae,H,C⟩ S/\S.base=base/\jB (iQ r ⟨env,hU X a (U (.st (cs.set j (.ref X.length))))++[U o]⟩).heap p (iQ r ⟨env,hU X a (U (.st (cs.set j (.ref X.length))))++[U o]⟩).env S.env/\ib Fr H0 (iQ r ⟨env,hU X a (U (.st (cs.set j (.ref X.length))))++[U o]⟩).heap p S.heap/\X.length<=(iQ r ⟨env,hU X a (U (.st (cs.set j (.ref X.length))))++[U o]⟩).heap.length/\ ∀i,i<X.length-> ∀x,p (.m i)=U x->pl (.m i)=U x:=by
    intro a cs c0 o es I B ho V;obtain⟨x,e,e1,e2,e3,e4⟩:=g.obj a _ I;obtain⟨E,h1,J,a3⟩: ∃E,e[j]?=U E/\ ((E= .emp/\0<es)\/E= .v (.slice zz 0 0))/\j<cs.length:=by
     rcases B with⟨B,J⟩|B
     .obtain⟨E,h1,h2⟩:=e4.get B;cases h2;grind
     .obtain⟨E,h1,h2⟩:=e4.get B;cases h2;grind
    obtain⟨W,Q⟩:=YtG g I e1 e2 e4 e3 a3 ho V;obtain⟨S,p,K,L,M,N,D,G⟩:=uo (ws:=r) (s:=⟨env,hU X a (U (.st (cs.set j (.ref X.length))))++[U o]⟩) (st:=⟨ae,H.set x (U ⟨cs.length,[e.set j (.ref H.length 0 0)]⟩)++[U ⟨es,[]⟩],C⟩) k (q.ext Q) W;have a4:X.length+1=(hU X a (U (.st (cs.set j (.ref X.length))))++[U o]).length:=by simp[km]
    simp only at D G;exact⟨S,p,(YtF e2 h1 J).trans K,L,M,N,by omega,λi hi z Y=>by
     have:=G i (by omega) z Y;unfold iF at this;grind⟩
   unfold iQ;simp only;split
   .split
    .rename_i a _ _ _ _ cs I;split
     .rename_i c B;cases hw:js 0 c.width with
      |false=>trivial
      |true=>
       rw[cond_true];have d:0<c.width:=by simp_all
       exact step (.sq c []) c.width I (.inl ⟨B,d⟩) rfl (λh1 _ Z=>⟨H.length,[],h1,Z,d,rfl,λi e v h=>by simp⟩)
     .rename_i c0 B;split
      .rename_i A c a5;cases hw:js 0 c.width with
       |false=>exact R
       |true=>
        rw[cond_true];have d:0<c.width:=by simp_all
        exact step (.fm (.rw A zZ) c 0 zz []) (A.width+1) I (.inl ⟨B,by omega⟩) rfl (λh1 _ Z=>⟨H.length,[],h1,Z,d,rfl,λi e v h=>by simp at h⟩)
      .exact R
     .rename_i B;exact step (c0:=.nil) (.sb (a_ #[])) 0 I (.inr B) rfl (λh1 _ Z=>⟨H.length,h1,by rw[show iM (a_ #[])=[] by simp[iM,xV]];exact Z⟩)
     .rename_i b n B;split
      .rename_i c l k;obtain⟨y,e,e1,e2,e3,e4⟩:=g.obj a _ I;obtain⟨x,el,d1,d2,d3,d4⟩:=g.obj b _ k;obtain⟨E,h1,h2⟩:=e4.get B;cases h2 with
       |og _ _ _ h _ _=>simp_all
       |pre _ x' _ o n' h hn O h0 hm=>
        rw[k]at h;injection h with h;subst h
        rw[d1]at O;injection O with O;subst O
        injection hn with hn;subst hn
        obtain⟨W,Q⟩:=YQ (m:=n.toNat) g k d1 d2 d3 d4;have a6:a≠b:=λe=>by simp_all
        have ad:=ki I;have a7:=ki k;have a2:(hU X b zz).length=X.length:=km _ _ _;have a8:b_ (hU X b zz++[U (.sq c (l.take n.toNat))]) a=U (.st cs):=by
         rw[qj (by omega),nt _ (Ne.symm a6)];exact I
        have a0:b_ (hU X b zz++[U (.sq c (l.take n.toNat))]) X.length=U (.sq c (l.take n.toNat)):=by
         have:=nI (hU X b zz) (U (.sq c (l.take n.toNat)));simp_all
        have a9:iF (iF pl (.m b) zz) (.m X.length) (U x) (.m a)=U y:=by
         unfold iF;grind
        have af:x≠y:=λe=>by subst e;have:=g.inj _ _ _ d1 e1;simp_all
        obtain⟨f1,f2⟩:=YtK (j:=j) (v:=.ref X.length) W a8 a9 (by simp_all) (e4.ext Q) h1 (λ{X'} hx=>by
         refine TR.ext hx ?_;have:=TR.ref (X:=hU X b zz++[U (.sq c (l.take n.toNat))]) (pl:=iF (iF pl (.m b) zz) (.m X.length) (U x)) X.length x _ _ a0 rfl (by unfold iF;simp);simp_all)
        obtain⟨S,p,K,L,M,N,D,G⟩:=uo (ws:=r) (s:=⟨env,hU (hU X b zz++[U (.sq c (l.take n.toNat))]) a (U (.st (cs.set j (.ref X.length))))⟩) (st:=⟨ae,H.set x (U ⟨c.width,el.take n.toNat⟩),C⟩) a1 ((q.ext Q).ext f2) f1;have a4:X.length+1=(hU (hU X b zz++[U (.sq c (l.take n.toNat))]) a (U (.st (cs.set j (.ref X.length))))).length:=by simp[km]
        simp only at D G;exact⟨S,p,(YtJ d2 e2 h1).trans K,L,M,N,by omega,λi hi z Y=>by
         have:=G i (by omega) z Y;unfold iF at this;grind⟩
      trivial
     trivial
    trivial
   .rename_i a ag;split
    .rename_i A c v h l aa;obtain⟨f1,f2⟩:=YtL g aa;obtain⟨S,p,K,L,M,N,D,G⟩:=uo (ws:=r) (s:=⟨env,hU X a (U (.fm (.rw A zj) c v h l))⟩) (st:=⟨ae,H,C⟩) k (q.ext f2) f1;rw[show(lu.heap ⟨env,hU X a (U (.fm (.rw A zj) c v h l))⟩).length=X.length from km _ _ _]at D G;exact⟨S,p,K,L,M,N,D,G⟩
    .obtain⟨q1,q2,q3,q4⟩:=YN q g a;obtain⟨S,p,K,L,M,N,D,G⟩:=uo (ws:=r) (s:=yL a ⟨env,X⟩) (st:=⟨ae,H,C⟩) k q1 q2;grind
   trivial
 | (t,zz,w)::r,s,pl,st,k,q,g=>by
   obtain⟨env,X⟩:=s;obtain⟨ae,H,C⟩:=st;have step: ∀(o:il) (es:Nat),0<es->jk ae t= .emp->iz o=U 0->(Ext X pl (X++[U o]) (iF pl (.m X.length) (U H.length))->OR (X++[U o]) (iF pl (.m X.length) (U H.length)) (H++[U ⟨es,[]⟩]) X.length o)->
     ∃S p,Wk ⟨ae,H,C⟩ S/\S.base=base/\jB (iQ r ⟨(t,.ref X.length)::env,X++[U o]⟩).heap p (iQ r ⟨(t,.ref X.length)::env,X++[U o]⟩).env S.env/\ib Fr H0 (iQ r ⟨(t,.ref X.length)::env,X++[U o]⟩).heap p S.heap/\X.length<=(iQ r ⟨(t,.ref X.length)::env,X++[U o]⟩).heap.length/\ ∀i,i<X.length-> ∀x,p (.m i)=U x->pl (.m i)=U x:=by
    intro o es J T ho V;obtain⟨W,Q⟩:=pw g o ⟨es,[]⟩ V;have hE:jB (X++[U o]) (iF pl (.m X.length) (U H.length)) ((t,.ref X.length)::env) ((t,.ref H.length 0 0)::ae):=by
     intro t';simp only[lW,jk];have e0:(t==t')=im t t':=by rw[Bool.eq_iff_iff,beq_iff_eq,Nat.beq_eq]
     rw[e0];cases im t t' with
     |true=>exact .ref X.length H.length o 0 (nI _ _) ho (by unfold iF;simp)
     |false=>exact(q t').ext Q
    obtain⟨S,p,h1,h2,Z,h4,D,G⟩:=uo (ws:=r) (s:=⟨(t,.ref X.length)::env,X++[U o]⟩) (st:=⟨(t,.ref H.length 0 0)::ae,H++[U ⟨es,[]⟩],C⟩) k hE W;simp only[nV,pL,uU]at D G;exact⟨S,p,(KD T J).trans h1,h2,Z,h4,by omega,λi hi z Y=>by
     have:=G i (by omega) z Y;unfold iF at this;grind⟩
   have R:=λ(ab:jB X pl env ae)=>uo (ws:=r) (s:=⟨env,X⟩) (st:=⟨ae,H,C⟩) k ab g;have F:=q t;unfold iQ;simp only at F⊢;cases ac:js 999999 t with
   |true=>
    rw[cond_true];obtain⟨q1,q2,q3,q4⟩:=YN q g (Nat.sub t 1000000);obtain⟨S,p,K,L,M,N,D,G⟩:=uo (ws:=r) (s:=yL (Nat.sub t 1000000) ⟨env,X⟩) (st:=⟨ae,H,C⟩) k q1 q2;grind
   |false=>
   rw[cond_false];split
   .rename_i c hv;rw[hv]at F;cases hw:js 0 c.width with
    |false=>simp_all
    |true=>
     rw[cond_true];have d:0<c.width:=by simp_all
     generalize T:jk ae t=E at F;cases F;exact step (.sq c []) c.width d T rfl (λ_=>⟨H.length,[],by unfold iF;simp,by simp,d,rfl,λi e v h=>by simp⟩)
   .rename_i c0 hv;rw[hv]at F;split
    .rename_i A c a5;cases hw:js 0 c.width with
     |false=>exact R q
     |true=>
      rw[cond_true];have d:0<c.width:=by simp_all
      generalize T:jk ae t=E at F;cases F;exact step (.fm (.rw A zZ) c 0 zz []) (A.width+1) (by omega) T rfl (λ_=>⟨H.length,[],by unfold iF;simp,by simp[E'],d,rfl,λi e v h=>by simp at h⟩)
    .exact R q
   .rename_i a n hv;rw[hv]at F;split
    .rename_i c l P;obtain⟨x,el,d1,d2,d3,d4⟩:=g.obj a _ P;generalize T:jk ae t=E at F;cases F with
     |og _ _ _ h _ _=>simp_all
     |pre _ x' _ o n' h hn O h0 hm=>
      rw[P]at h;injection h with h;subst h
      rw[d1]at O;injection O with O;subst O
      injection hn with hn;subst hn
      obtain⟨W,Q⟩:=YQ (m:=n.toNat) g P d1 d2 d3 d4;have a2:(hU X a zz).length=X.length:=km _ _ _;have a0:b_ (hU X a zz++[U (.sq c (l.take n.toNat))]) X.length=U (.sq c (l.take n.toNat)):=by
       have:=nI (hU X a zz) (U (.sq c (l.take n.toNat)));simp_all
      have hE:jB (hU X a zz++[U (.sq c (l.take n.toNat))]) (iF (iF pl (.m a) zz) (.m X.length) (U x)) ((t,.ref X.length)::env) ae:=by
       intro t';simp only[lW];cases e:im t t' with
       |true=>
        have:=jr e;subst this;rw[cond_true,T];have:=TR.ref (X:=hU X a zz++[U (.sq c (l.take n.toNat))]) (pl:=iF (iF pl (.m a) zz) (.m X.length) (U x)) X.length x _ _ a0 rfl (by unfold iF;simp);simp_all
       |false=>exact(q t').ext Q
      have a7:=ki P;obtain⟨S,p,K,L,M,N,D,G⟩:=uo (ws:=r) (s:=⟨(t,.ref X.length)::env,hU X a zz++[U (.sq c (l.take n.toNat))]⟩) (st:=⟨ae,H.set x (U ⟨c.width,el.take n.toNat⟩),C⟩) k hE W;simp only[nV,pL,uU,a2]at D G;exact⟨S,p,(YtI d2 T).trans K,L,M,N,by omega,λi hi z Y=>by
       have:=G i (by omega) z Y;unfold iF at this;grind⟩
    simp_all
   simp_all
end
end Go.Abs
namespace Go.Abs
open Go Go.RowKit
mutual
inductive iJ(A:Nat->Prop):AV->Prop
 |ref (a off len:Nat) (h:A a):iJ A (.ref a off len)
 |ptr (a i j:Nat) (h:A a):iJ A (.ptr a i j)
 |np (a:Nat) (h:A a):iJ A (.np a)
 |v (x:Value):iJ A (.v x)
 |u:iJ A .u
 |emp:iJ A .emp
 |rd (es:Nat) (l:List (List AV)) (h: ∀e∈l,∀x∈e,iJ A x):iJ A (.rd es l)
 |rp (cs:List AV) (h: ∀x∈cs,iJ A x):iJ A (.rp cs)
 |agg (cs:List AV) (h: ∀x∈cs,iJ A x):iJ A (.agg cs)
 |iZ (cs:List AV) (h: ∀x∈cs,iJ A x):iJ A (.iZ cs)
 |clo (f:Nat) (cs:List AV) (h: ∀x∈cs,iJ A x):iJ A (.clo f cs)
 |er:iJ A .er
end
theorem La{A:Nat->Prop}{a:AV}(h:NR a):iJ A a:=by
 induction h with
 |v x=>exact .v x
 |u=>exact .u
 |emp=>exact .emp
 |rd es l h I=>exact .rd es l I
 |rp cs h I=>exact .rp cs I
 |agg cs h I=>exact .agg cs I
 |iZ cs h I=>exact .iZ cs I
 |clo f cs h I=>exact .clo f cs I
 |er=>exact .er
theorem YR{A B:Nat->Prop}(H: ∀x,A x->B x){a:AV}(h:iJ A a):iJ B a:=by
 induction h with
 |ref a O len h=>exact .ref a O len (H a h)
 |ptr a i j h=>exact .ptr a i j (H a h)
 |np a h=>exact .np a (H a h)
 |v x=>exact .v x
 |u=>exact .u
 |emp=>exact .emp
 |rd es l h I=>exact .rd es l I
 |rp cs h I=>exact .rp cs I
 |agg cs h I=>exact .agg cs I
 |iZ cs h I=>exact .iZ cs I
 |clo f cs h I=>exact .clo f cs I
 |er=>exact .er
theorem O_{ρ:Nat->Nat}{Fz:Nat->Prop}{H H':HF}{A:Nat->Prop}(d: ∀x,A x->ρ x=x/\ ∃o,H' x=U (U o)){a:AV}(h:iJ A a):Cz ρ Fz H H' a a:=by
 have L: ∀{cs:List AV},(∀x∈cs,Cz ρ Fz H H' x x)-> ∀(j:Nat) (x X:AV),cs[j]?=U x->cs[j]?=U X->Cz ρ Fz H H' x X:=by
  grind
 induction h with
 |ref a O len h=>
  obtain⟨h1,o,h2⟩:=d a h;have:=Cz.ref (ρ:=ρ) (Fz:=Fz) (H:=H) (H':=H') a O len o h2;simp_all
 |ptr a i j h=>
  obtain⟨h1,o,h2⟩:=d a h;have:=Cz.ptr (ρ:=ρ) (Fz:=Fz) (H:=H) (H':=H') a i j o h2;simp_all
 |np a h=>
  obtain⟨h1,o,h2⟩:=d a h;have:=Cz.np (ρ:=ρ) (Fz:=Fz) (H:=H) (H':=H') a o h2;simp_all
 |v x=>exact .v x
 |u=>exact .u _
 |emp=>exact .emp
 |rd es l h I=>
  refine .rd es l l rfl (λi e e' h1 h2=>by simp_all) (λi e e' j x X h1 h2 g k=> ?_);grind
 |rp cs h I=>exact .rp cs cs rfl (L I)
 |agg cs h I=>exact .agg cs cs rfl (L I)
 |iZ cs h I=>exact .iZ cs cs rfl (L I)
 |clo f cs h I=>exact .clo f cs cs rfl (L I)
 |er=>exact .er
def kZ(Fr:Nat->Prop)(H:ic):Prop:= ∀x,Fr x->(∃o,H[x]?=U (U o))/\ ∀o,H[x]?=U (U o)-> ∀e∈o.el,∀c∈e,iJ Fr c
theorem Hf{P:TV->AV->AV->Prop}: ∀(cs:List TV) (as:List AV),cs.length=as.length->(∀(j:Nat) (c:TV) (a:AV),cs[j]?=U c->as[j]?=U a-> ∃d,P c a d)->
  ∃A:List AV,A.length=as.length/\ ∀(j:Nat) (c:TV) (a d:AV),cs[j]?=U c->as[j]?=U a->A[j]?=U d->P c a d
 | [],[],_,_=>⟨[],rfl,λj c a d h=>by simp⟩
 |c::cs,a::as,H,h=>by
  obtain⟨A,h1,h2⟩:=Hf cs as (by simp_all) (λj c a k K=>h (j+1) c a k K);obtain⟨d,g⟩:=h 0 c a rfl rfl;refine⟨d::A,by grind,λj C p q k K w=> ?_⟩;grind
 | [],_::_,H,_=>by trivial
 |_::_,[],H,_=>by trivial
theorem AH(X:hZ)(F:List Nat): ∀l:List TV,Cc X F l=l.map (kY X F)
 | []=>rfl
 |a::r=>by simp[Cc,AH X F r]
theorem YS(X:hZ): ∀F:List Nat,(Az X F).length=X.length
 | []=>rfl
 |a::r=>by simp only[Az];rw[km,YS X r]
theorem YT(X:hZ): ∀(F:List Nat) (a:Nat),b_ (Az X F) a=if a∈F then zz else b_ X a
 | [],a=>by rfl
 |b::r,a=>by
  simp only[Az];by_cases e:b=a
  .subst e;rw[if_pos (pM ..)];by_cases h:b< (Az X r).length
   .exact oV _ h
   .exact rl (by rw[km];omega)
  .rw[nt _ e,YT X r a];grind
theorem k_{F:List Nat}{a:Nat}:F.any (im a)=zZ↔a∈F:=by
 simp
theorem YtM{ρ:Nat->Nat}{Fz:Nat->Prop}{H q w:HF}(d: ∀a o,q a=U (U o)-> ∃o',w a=U (U o')){a b:AV}(h:Cz ρ Fz H q a b):Cz ρ Fz H w a b:=by
 induction h with
 |u a=>exact .u a
 |v x=>exact .v x
 |emp=>exact .emp
 |j_ es=>exact .j_ es
 |rd es l l' d z h I=>exact .rd es l l' d z I
 |rp cs C d h I=>exact .rp cs C d I
 |agg cs C d h I=>exact .agg cs C d I
 |iZ cs C d h I=>exact .iZ cs C d I
 |clo f cs C d h I=>exact .clo f cs C d I
 |ref a O len o h=>obtain⟨o',g⟩:=d a o h;exact .ref a O len o' g
 |ptr a i j o h=>obtain⟨o',g⟩:=d a o h;exact .ptr a i j o' g
 |np a o h=>obtain⟨o',g⟩:=d a o h;exact .np a o' g
 |er=>exact .er
 |xP i O len o l' z y k d p h I=>exact .xP i O len o l' z y k d p I
section
variable{Fr:Nat->Prop}{H0:ic}{X:hZ}{pl:Pl}{H:ic}{F:List Nat}
abbrev oh(X:hZ)(F:List Nat):hZ:=Az (X.map (rh X F)) F
def nB(pl:Pl)(F:List Nat):Pl:=λp=>if p.of∈F then zz else pl p
theorem AK(a:Nat):b_ (oh X F) a=if a∈F then zz else rh X F (b_ X a):=by
 rw[YT,K' _ rfl]
theorem Fh:(oh X F).length=X.length:=by rw[YS];simp
theorem YU{el:List (List AV)}{c:Cs}{l:List c.den}(h:Rows el c l){Fz:Nat->Prop}{h0 h1:HF}{k:Nat}(p:k<=l.length):
  (∀(i:Nat) (e e':List AV),el[0+i]?=U e->((l.take k).map c.enc)[i]?=U e'->e.length=e'.length)/\
  (∀(i:Nat) (e e':List AV) (j:Nat) (x X:AV),el[0+i]?=U e->((l.take k).map c.enc)[i]?=U e'->e[j]?=U x->e'[j]?=U X->Cz id Fz h0 h1 x X):=by
 have y: ∀{i:Nat} {e e':List AV},el[0+i]?=U e->((l.take k).map c.enc)[i]?=U e'-> ∃v,CC e (c.enc v)/\e'=c.enc v:=by
  intro i e e' h1 h2;rw[jt,lS]at h2;obtain⟨v,h2,rfl⟩:=h2;rw[oU]at h2;split at h2
  .rw[mD]at h1;exact⟨v,h.2 i e v h1 h2,rfl⟩
  trivial
 refine⟨λi e e' h1 h2=> ?_,λi e e' j x X h1 h2 g d=> ?_⟩
 .obtain⟨v,H,rfl⟩:=y h1 h2;exact H.1
 .obtain⟨v,H,rfl⟩:=y h1 h2;exact xR (H.2 j x X g d) (vY c v X (jc d))
theorem Lb{Fz:Nat->Prop}{h1:HF}{a x:Nat}{c:Cs}{l:List c.den}(h:ib Fr H0 X pl H)(g:b_ X a=U (.sq c l))(p:pl (.m a)=U x)(z:Fz x){k:Nat}(q:k<=l.length):
  Cz id Fz (hf H) h1 (.ref x 0 k) (.rd c.width ((l.take k).map c.enc)):=by
 obtain⟨A,el,E,w,y,d⟩:=h.obj a _ g;rw[p]at E;injection E with E;subst E
 have:=YU (Fz:=Fz) (h0:=hf H) (h1:=h1) d q;have:=Cz.xP (ρ:=id) (Fz:=Fz) (H:=hf H) (H':=h1) x 0 k ⟨c.width,el⟩ _ z w (by simp[d.1];omega) (by simp_all) this.1 this.2;rwa[show wd (iu.es ⟨c.width,el⟩)=c.width from rW y]at this
theorem YV{el:List (List AV)}{c:Cs}{l:List c.den}(h:Rows el c l){Fz:Nat->Prop}{h0 h1:HF}{x:Nat}{o:iu}(H:h0 x=U (U o))(d:o.el=el)(w:wd o.es=c.width)(z:Fz x):
  Cz id Fz h0 h1 (.ref x 0 l.length) (.rd c.width (l.map c.enc)):=by
 have:=YU (Fz:=Fz) (h0:=h0) (h1:=h1) h (k:=l.length) (jG _);rw[rN]at this;subst d;rw[<-w];exact .xP x 0 l.length o _ z H (by rw[h.1];omega) (by simp) this.1 this.2
theorem YW{Fz:Nat->Prop}{h1:HF}{a x:Nat}{s:ByteArray}(h:ib Fr H0 X pl H)(d:b_ X a=U (.sb s))(p:pl (.m a)=U x)(z:Fz x):
  Cz id Fz (hf H) h1 (.ref x 0 s.size) (.rd U8.width ((od s).map U8.enc)):=by
 obtain⟨k,E,g⟩:=h.obj a _ d;rw[p]at E;injection E with E;subst E
 have L:(od s).length=s.size:=by rw[<-(we s).1];exact iX s
 rw[<-L];exact YV (we s).rows g rfl rfl z
theorem YtN(g:ib Fr H0 X pl H){a:Nat}{s:ByteArray}(w:b_ X a=U (.sb s)){p:Pos}{x:Nat}(q:pl p=U x)(d:p.of=a):p= .m a:=by
 have:=g.own p x q;cases p with
 |m b=>simp only[Pos.of]at d;rw[d]
 |n b i=>
  simp only[Pos.of]at d;subst d;obtain⟨hd',c',v,h,l',k,_⟩:=this;simp_all
theorem Ld{Fz:Nat->Prop}{h1:HF}{a x:Nat}{A:Cs}{nn:Bool}{c:Cs}{V:Nat}{l:List (sn c A).den}(M:ib Fr H0 X pl H)(N:b_ X a=U (.fm (.rw A nn) c V zz l))(F:pl (.m a)=U x)(I: ∀p y,p.of=a->pl p=U y->Fz y){k:Nat}(O:k<=l.length):
  Cz id Fz (hf H) h1 (.ref x 0 k) (.rd (sn c A).width ((l.take k).map (sn c A).enc)):=by
 obtain⟨x',el,E,P,R,S,T⟩:=M.obj a _ N;rw[F]at E;injection E with E;subst E
 have B: ∀{i:Nat} {e e':List AV},el[0+i]?=U e->((l.take k).map (sn c A).enc)[i]?=U e'->e.length=e'.length/\ ∀(j:Nat) (z Z:AV),e[j]?=U z->e'[j]?=U Z->Cz id Fz (hf H) h1 z Z:=by
  intro i e e' w K;rw[jt,lS]at K;obtain⟨v,K,rfl⟩:=K;rw[oU]at K;split at K
  .rw[mD]at w;obtain⟨d,r,rfl,Q,W⟩:=wY (T i e v w K) (by simp);rw[XV];have q:=Q.1;refine⟨by simp only[nV,qG];rw[q],λj z Z h g=> ?_⟩;by_cases J:j<d.length
   .rw[ld J]at h;rw[ld (by rw[<-q];exact J)]at g;exact xR (Q.2 j z Z h g) (vY A _ Z (jc g))
   .rw[nF (by omega)]at h;rw[nF (by rw[<-q];omega),<-q]at g;have C:j-d.length=0:=by
     have:=(iP.1 h).1;simp at this;omega
    rw[C]at h g;injection h with h;injection g with g;subst h;subst g
    rcases W with⟨y,el',L,G,D,Y⟩| ⟨g0,L,G,D⟩
    .rw[G];exact YV (o:=⟨c.width,el'⟩) Y D rfl (rW R) (I _ y rfl L)
    .rw[D,show ow c A v=[]from G];exact .j_ _
  .cases K
 rw[<-show wd (A.width+1)=(sn c A).width by rw[XU];exact rW (by omega)];exact .xP x 0 k ⟨A.width+1,el⟩ _ (I _ x rfl F) P (by show 0+k<=el.length;rw[S];omega) (by simp[Nat.min_eq_left O]) (λi e e' w K=>(B w K).1) (λi e e' j z Z w K k3 k4=>(B w K).2 j z Z k3 k4)
theorem YX(D:ib Fr H0 X pl H){a x:Nat}{hd:Hd}{c:Cs}{V:Nat}{l:List (sn c hd.A).den}(F:b_ X a=U (.fm hd c V zz l))(G:pl (.m a)=U x){ob:iu}(I:H[x]?=U (U ob)):
  ∀e∈ob.el,∀z∈e,iJ (λy=> ∃i,pl (.n a i)=U y) z:=by
 obtain⟨P,el,p,E,R,J,K⟩:=D.obj a _ F;rw[G]at p;injection p with p;subst p
 rw[I]at E;injection E with E;injection E with E;subst E
 have k: ∀e∈el,∀z∈e,iJ (λy=> ∃i,pl (.n a i)=U y) z:=by
  intro e q z h;obtain⟨i,B⟩:=mE.1 q;have w:i<l.length:=by rw[<-J];exact(iP.1 B).1
  obtain⟨d,r,rfl,Q,L⟩:=wY (K i e l[i] B (je w)) (by simp);rcases uE.1 h with h|h
  .obtain⟨j,C⟩:=mE.1 h;obtain⟨Z,g⟩:=lQ Q.1.symm C;exact La (EO (Q.2 j z Z C g) (vY hd.A _ Z (jc g)))
  .simp only[uV]at h;subst h;rcases L with⟨y,el',M,N,_⟩| ⟨_,_,_,O⟩
   .rw[N];exact .ref _ _ _ ⟨i,M⟩
   .rw[O];exact .emp
 cases hd with
 |rw A nn=>exact k
 |mp o n=>
  intro e q z h;simp only[Hd.obj,uV]at q;subst q;simp only[mT,List.not_mem_nil,or_false]at h;rcases h with rfl|rfl|rfl
  .exact .v _
  .exact .rd _ _ k
  .exact .v _
theorem YY(z:ib Fr H0 X pl H){a x k:Nat}{hd:Hd}{c:Cs}{V:Nat}{h:Option Nat}{l:List (sn c hd.A).den}(A:b_ X a=U (.fm hd c V h l))(w:pl (.n a k)=U x):k<l.length/\h≠U k/\ ∃el,H[x]?=U (U ⟨c.width,el⟩)/\Rows el c (kG hd c l k):=by
 rcases yV z A w rfl with e| ⟨j,e,B,p⟩
 .cases e
 injection e with _ e;subst e
 obtain⟨D,el,F,I,J,K,E⟩:=z.obj a _ A;obtain⟨d,r,_,_,q⟩:=wY (E k _ _ (je (by omega:k<el.length)) (tH B)) p;rcases q with⟨y,el',g,L,G,C⟩| ⟨_,g,_⟩
 .rw[w]at g;injection g with g;subst g
  exact⟨B,p,el',G,C⟩
 .rw[w]at g;cases g
theorem YZ(O:ib Fr H0 X pl H)(Z: ∀a∈F,AA X a=zZ){h1:HF}(T: ∀p x,nB pl F p=U x-> ∃o,h1 x=U (U o)){tv:TV}{Q:AV}(h:TR X pl tv Q):
  ∃R,Cz id (λx=> ∃p:Pos,p.of∈F/\pl p=U x) (hf H) h1 Q R/\TR (oh X F) (nB pl F) (kY X F tv) R:=by
 have J: ∀{a:Nat} {o:il},a∈F->b_ X a=U o->(∃c l,o= .sq c l)\/(∃A nn c v l,o= .fm (.rw A nn) c v zz l)\/ ∃s,o= .sb s:=by
  intro a o h1 h2;have:=Z a h1;unfold AA at this;rw[h2]at this;split at this
  .rename_i e;injection e with e;exact .inl ⟨_,_,e⟩
  .rename_i e;injection e with e;exact .inr (.inl ⟨_,_,_,_,_,e⟩)
  .rename_i e;injection e with e;exact .inr (.inr ⟨_,e⟩)
  .cases this
 have K: ∀{a:Nat} {o:il},a∉F->b_ X a=U o-> ∃o',b_ (oh X F) a=U o'/\iz o'=iz o/\lK o'=lK o:=by
  intro a o h1 h2;rw[AK,if_neg h1,h2];cases o with
  |sq c l=>exact⟨_,rfl,rfl,rfl⟩
  |fm hd c v a0 l=>exact⟨_,rfl,rfl,rfl⟩
  |st cs=>exact⟨_,rfl,rfl,rfl⟩
  |sb s=>exact⟨_,rfl,rfl,rfl⟩
 have L: ∀{a:Nat},a∈F->b_ (oh X F) a=none:=λh=>by rw[AK,if_pos h]
 have P: ∀{p:Pos},p.of∉F->nB pl F p=pl p:=λh=>by unfold nB;simp_all
 induction h with
 |i k n=>exact⟨_,.v _,.i k n⟩
 |b x=>exact⟨_,.v _,.b x⟩
 |s x=>exact⟨_,.v _,.s x⟩
 |l c v a h=>exact⟨.rd c.width (v.map c.enc),xR h (GI (.l c) v),.l c v _ (.refl _)⟩
 |e c=>exact⟨_,.emp,.e c⟩
 |u a=>exact⟨.u,.u _,.u _⟩
 |v x=>exact⟨_,.v _,.v x⟩
 |nl=>exact⟨_,.v _,.nl⟩
 |uT=>exact⟨_,.er,.uT⟩
 |mK=>exact⟨_,.v _,.mK⟩
 |ref a x o n h w C=>
  by_cases d:a∈F
  .have D:F.any (im a)=true:=k_.2 d;rcases J d h with⟨c,l,rfl⟩| ⟨A,nn,c,v,l,rfl⟩| ⟨s,rfl⟩
   .simp only[iz]at w;injection w with w;subst w
    refine⟨_,Lb O h C ⟨.m a,d,C⟩ (jG _),?_⟩;simp only[kY,po,D,cond_true,h,rN];exact .l c l _ (.refl _)
   .simp only[iz]at w;injection w with w;subst w
    refine⟨_,Ld O h C (λp y e V=>⟨p,by simp_all,V⟩) (jG _),?_⟩;simp only[kY,po,D,cond_true,h,rN];exact .l (sn c A) l _ (.refl _)
   .simp only[iz]at w;injection w with w;subst w
    refine⟨_,YW O h C ⟨.m a,d,C⟩,?_⟩;simp only[kY,po,D,cond_true,h];exact .l U8 _ _ (.refl _)
  .have D:F.any (im a)=false:=by
    cases G:F.any (im a)with
    |false=>rfl
    |true=>simp_all
   obtain⟨o',E,M,W⟩:=K d h;have z:nB pl F (.m a)=U x:=(P (p:=.m a) d).trans C;obtain⟨q,G⟩:=T _ _ z;refine⟨_,.ref x 0 n q G,?_⟩;simp only[kY,po,D,cond_false];exact .ref a x o' n E (M.trans w) z
 |nA a Q h d=>
  refine⟨.u,.u _,?_⟩;have Y:a∉F:=λD=>by have:=Z a D;unfold AA at this;simp_all
  have D:F.any (im a)=false:=by
   cases G:F.any (im a)with
   |false=>rfl
   |true=>simp_all
  simp only[kY,po,D,cond_false];exact .nA a _ (by rw[AK,if_neg Y,h];rfl) (by rw[Fh];exact d)
 |pre a x m o n h w C h0 N=>
  by_cases d:a∈F
  .have D:F.any (im a)=true:=k_.2 d;rcases J d h with⟨c,l,rfl⟩| ⟨A,nn,c,v,l,rfl⟩| ⟨s,rfl⟩
   .simp only[iz]at w;injection w with w;subst w
    refine⟨_,Lb O h C ⟨.m a,d,C⟩ N,?_⟩;simp only[kY,po,D,cond_true,h];exact .l c _ _ (.refl _)
   .simp only[iz]at w;injection w with w;subst w
    refine⟨_,Ld O h C (λp y e V=>⟨p,by simp_all,V⟩) N,?_⟩;simp only[kY,po,D,cond_true,h];exact .l (sn c A) _ _ (.refl _)
   .refine⟨.u,.u _,?_⟩;simp only[kY,po,D,cond_true,h];exact .u _
  .have D:F.any (im a)=false:=by
    cases G:F.any (im a)with
    |false=>rfl
    |true=>simp_all
   obtain⟨o',E,M,W⟩:=K d h;have z:nB pl F (.m a)=U x:=(P (p:=.m a) d).trans C;obtain⟨q,G⟩:=T _ _ z;refine⟨_,.ref x 0 m.toNat q G,?_⟩;simp only[kY,po,D,cond_false,h];exact .pre a x m o' n E (M.trans w) z h0 N
 |og a x m h d h0=>
  refine⟨.u,.u _,?_⟩;cases G:F.any (im a)<;>simp only[kY,po,G,cond_false,cond_true,h]<;>exact .u _
 |ptr a i j x o h hi C=>
  by_cases d:a∈F
  .exact⟨.u,.u _,.nM a i j _ (L d) (by rw[Fh];exact ki h)⟩
  .obtain⟨o',E,M,W⟩:=K d h;have z:nB pl F (.m a)=U x:=(P (p:=.m a) d).trans C;obtain⟨q,G⟩:=T _ _ z;exact⟨_,.ptr x i j q G,.ptr a i j x o' E (by omega) z⟩
 |nM a i j Q h d=>
  refine⟨.u,.u _,.nM a i j _ ?_ (by rw[Fh];exact d)⟩;rw[AK,h];split<;>rfl
 |np a x o h C=>
  by_cases d:a∈F
  .exact⟨.u,.u _,.wc a _ (L d) (by rw[Fh];exact ki h)⟩
  .obtain⟨o',E,M,W⟩:=K d h;have z:nB pl F (.m a)=U x:=(P (p:=.m a) d).trans C;obtain⟨q,G⟩:=T _ _ z;exact⟨_,.np x q G,.np a x o' E z⟩
 |wc a Q h d=>
  refine⟨.u,.u _,.wc a _ ?_ (by rw[Fh];exact d)⟩;rw[AK,h];split<;>rfl
 |sub=>exact⟨.u,.u _,.u _⟩
 |tD=>exact⟨.u,.u _,.u _⟩
 |su=>exact⟨.u,.u _,.u _⟩
 |nq=>exact⟨.u,.u _,.u _⟩
 |tE=>exact⟨.u,.u _,.u _⟩
 |rp=>exact⟨.u,.u _,.u _⟩
 |lt=>exact⟨.u,.u _,.u _⟩
 |ag cs as B h S=>
  obtain⟨I,E,M⟩:=Hf cs as B S;refine⟨.agg I,.agg _ _ E.symm (λj x x' h1 h2=> ?_),?_⟩
  .obtain⟨c,hc⟩:=lQ B h1;grind
  .simp only[kY,AH];refine .ag _ _ (by simp_all) (λj c a h1 h2=> ?_);grind
 |tp cs as B h S=>
  obtain⟨I,E,M⟩:=Hf cs as B S;refine⟨.iZ I,.iZ _ _ E.symm (λj x x' h1 h2=> ?_),?_⟩
  .obtain⟨c,hc⟩:=lQ B h1;grind
  .simp only[kY,AH];refine .tp _ _ (by simp_all) (λj c a h1 h2=> ?_);grind
 |clo g cs as B h S=>
  obtain⟨I,E,M⟩:=Hf cs as B S;refine⟨.clo g I,.clo _ _ _ E.symm (λj x x' h1 h2=> ?_),?_⟩
  .obtain⟨c,hc⟩:=lQ B h1;grind
  .simp only[kY,AH];refine .clo g _ _ (by simp_all) (λj c a h1 h2=> ?_);grind
def Cw(X:hZ)(pl:Pl)(H:ic)(F:List Nat)(h1:HF)(x:Nat)(o':iu):Prop:=
 (∃a cs e e',a∉F/\b_ X a=U (.st cs)/\pl (.m a)=U x/\H[x]?=U (U ⟨cs.length,[e]⟩)/\0<cs.length/\cs.length=e.length/\o'=⟨cs.length,[e']⟩/\e'.length=e.length/\
  ∀(j:Nat) (c:TV) (d A:AV),cs[j]?=U c->e[j]?=U d->e'[j]?=U A->Cz id (λx=> ∃p:Pos,p.of∈F/\pl p=U x) (hf H) h1 d A/\TR (oh X F) (nB pl F) (kY X F c) A)\/
 (∃p:Pos,p.of∉F/\pl p=U x/\ (∀a cs,p= .m a->b_ X a≠U (.st cs))/\H[x]?=U (U o'))
theorem YtO{env:jO}{ae:Env}{b:Nat}(ab:kZ Fr H0)(he:jB X pl env ae)(w:ib Fr H0 X pl H)(hF: ∀a∈F,AA X a=zZ)(au: ∀{a hd c v h l},b_ X a=U (.fm hd c v h l)->h=zz):
  ∃M H',Wk ⟨ae,H,b⟩ ⟨M,H',b⟩/\jB (oh X F) (nB pl F) (env.map λp=>(p.1,kY X F p.2)) M/\ib Fr H0 (oh X F) (nB pl F) H':=by
 classical
 let h1:HF:=λx=>if∃p,nB pl F p=U x then U (U ⟨1,[]⟩)else zz
 have hl: ∀p x,nB pl F p=U x-> ∃o,h1 x=U (U o):=λp x h=>⟨_,if_pos ⟨p,h⟩⟩;have ex: ∀x,(∃p,nB pl F p=U x)-> ∃o',Cw X pl H F h1 x o':=by
  rintro x ⟨p,g⟩;have R:p.of∉F/\pl p=U x:=by
   unfold nB at g;split at g
   .cases g
   .exact⟨by assumption,g⟩
  obtain⟨o,L⟩:=w.lt R.2;by_cases hs: ∃a cs,p= .m a/\b_ X a=U (.st cs)
  .obtain⟨a,cs,rfl,G⟩:=hs;obtain⟨x',e,E,B,e3,e4⟩:=w.obj a _ G;rw[R.2]at E;injection E with E;subst E
   obtain⟨e',I,K⟩:=Hf (P:=λc a1 a2=>Cz id (λx=> ∃p:Pos,p.of∈F/\pl p=U x) (hf H) h1 a1 a2/\TR (oh X F) (nB pl F) (kY X F c) a2) cs e e4.1 (λj c a S g2=>YZ w hF hl (e4.2 j c a S g2));exact⟨_,.inl ⟨a,cs,e,e',R.1,G,R.2,B,e3,e4.1,rfl,I,K⟩⟩
  .exact⟨o,.inr ⟨p,R.1,R.2,λa cs E B=>hs ⟨a,cs,E,B⟩,L⟩⟩
 let O:Nat->Option iu:=λx=>if Fr x then(H[x]?).join else if h: ∃p,nB pl F p=U x then U (Classical.choose (ex x h))else zz
 let H':ic:=(List.range H.length).map O;have N: ∀{p x},nB pl F p=U x-> ∃o',H'[x]?=U (U o')/\Cw X pl H F h1 x o':=by
  intro p x g;have T: ∃p,nB pl F p=U x:=⟨p,g⟩;have W:x<H.length:=by
   unfold nB at g;split at g
   .cases g
   .exact w.bd g
  refine⟨Classical.choose (ex x T),?_,Classical.choose_spec (ex x T)⟩;show((List.range H.length).map O)[x]?=_;rw[jt,pO W];have ac: ¬Fr x:=by
   unfold nB at g;split at g
   .cases g
   .exact w.nU _ _ g
  simp only[l_,O,if_neg ac,dif_pos T]
 have Y: ∀{x},Fr x->H'[x]?=H[x]?:=by
  intro x T;have h1:=w.fr x T;have W:x<H.length:=mS h1.1 w.le;obtain⟨⟨o,L⟩,_⟩:=ab x T;show((List.range H.length).map O)[x]?=_;rw[jt,pO W];simp only[l_,O,if_pos T,h1.2,L,Option.join_some]
 have ah: ∀{x o'},H'[x]?=U (U o')-> ¬Fr x->(∃p,nB pl F p=U x)/\Cw X pl H F h1 x o':=by
  intro x o' h ac;have W:x<H.length:=by have:=(iP.1 h).1;simpa[H']using this
  have h':O x=U o':=by
   have:((List.range H.length).map O)[x]?=U (U o'):=h;rw[jt,pO W]at this;simpa using this
  simp only[O,if_neg ac]at h';split at h'
  .rename_i T;injection h' with h';subst h';exact⟨T,Classical.choose_spec (ex x T)⟩
  .cases h'
 have a6:H'.length=H.length:=by simp[H']
 have a8: ∀a o,h1 a=U (U o)-> ∃o',hf H' a=U (U o'):=by
  intro a o h;simp only[h1]at h;split at h
  .rename_i g;obtain⟨p,g⟩:=g;obtain⟨o',h2,_⟩:=N g;exact⟨o',h2⟩
  .cases h
 have V: ∀{p:Pos} {x},nB pl F p=U x->p.of∉F/\pl p=U x:=by
  intro p x g;unfold nB at g;split at g
  .cases g
  .exact⟨by assumption,g⟩
 have J: ∀{p:Pos} {x},nB pl F p=U x->(∀a cs,p= .m a->b_ X a≠U (.st cs))->H'[x]?=H[x]?:=by
  intro p x g Z;obtain⟨o',I,K⟩:=N g;rcases K with⟨a,cs,e,e',_,G,a3,_⟩| ⟨q,_,_,_,hH⟩
  .have:=w.inj _ _ _ (V g).2 a3;exact absurd G (Z a cs this)
  .rw[I,hH]
 have a9: ∀{a:Nat} {o:il},(∀cs,o≠ .st cs)->b_ X a=U o-> ∀{x:Nat} {ob:iu},(∃p:Pos,p.of=a/\pl p=U x)->H[x]?=U (U ob)->a∉F->
   ∀e∈ob.el,∀z∈e,Cz id (λx=> ∃p:Pos,p.of∈F/\pl p=U x) (hf H) (hf H') z z:=by
  rintro a o Z G x ob ⟨p,a3,g⟩ hH ad e he z hz;obtain⟨i,hi⟩:=mE.1 he;have al:=(iP.1 hi).1;have a0: ∀{el:List (List AV)} {c:Cs} {l:List c.den},Rows el c l->el[i]?=U e->Cz id (λx=> ∃p:Pos,p.of∈F/\pl p=U x) (hf H) (hf H') z z:=by
   intro el c l am h1;have al:=(iP.1 h1).1;have ai:i<l.length:=by rw[<-am.1];exact al
   have an:=am.2 i e l[i] h1 (je ai);obtain⟨j,hj⟩:=mE.1 hz;obtain⟨z',ao⟩:=lQ an.1.symm hj;exact XI (EO (an.2 j z z' hj ao) (vY c _ z' (jc ao)))
  cases o with
  |st cs=>exact absurd rfl (Z cs)
  |sb s=>
   have:=YtN w G g a3;subst this;obtain⟨x',E,B⟩:=w.obj a _ G;rw[g]at E;injection E with E;subst E
   rw[hH]at B;injection B with B;injection B with B;subst B
   exact a0 (we s).rows hi
  |sq c l=>
   have:=Yh w G g a3;subst this;obtain⟨x',el,E,B,e3,e4⟩:=w.obj a _ G;rw[g]at E;injection E with E;subst E
   rw[hH]at B;injection B with B;injection B with B;subst B
   exact a0 e4 hi
  |fm hd c ay aj l=>
   have hh:=au G;subst hh;rcases yV w G g a3 with rfl| ⟨k,rfl,hk,az⟩
   .refine O_ (λy hy=> ?_) (YX w G g hH e he z hz);obtain⟨i,hi⟩:=hy;obtain⟨q,hq,_⟩:=N (p:=.n a i) (x:=y) ((if_neg ad).trans hi);exact⟨rfl,q,hq⟩
   .obtain⟨_,_,el',g3,g4⟩:=YY w G g;rw[hH]at g3;injection g3 with g3;injection g3 with g3;subst g3
    exact a0 g4 hi
 have a7: ∀{a b},Cz id (λx=> ∃p:Pos,p.of∈F/\pl p=U x) (hf H) h1 a b->Cz id (λx=> ∃p:Pos,p.of∈F/\pl p=U x) (hf H) (hf H') a b:=λh=>YtM a8 h;have af:ib (λ_=>False) [] (oh X F) (nB pl F) H':=by
  refine⟨λa o h2=> ?_,λp q x I K=>w.inj _ _ _ (V I).2 (V K).2,λp x I=> ?_,λx h=>h.elim,λ_ _ _ h=>h,sP _⟩
  .rw[AK]at h2;split at h2
   .cases h2
   .rename_i ad;cases G:b_ X a with
    |none=>rw[G]at h2;cases h2
    |some o0=>
     rw[G]at h2;have C: ∀p:Pos,p.of=a->nB pl F p=pl p:=λp e=>by unfold nB;rw[if_neg (by rw[e];exact ad)]
     have aa:=w.obj a o0 G;cases o0 with
     |sb s=>
      simp only[rh]at h2;injection h2 with h2;subst h2
      obtain⟨x,E,B⟩:=aa;exact⟨x,(C _ rfl).trans E,(J ((C _ rfl).trans E) (λa' cs e=>by injection e with e;subst e;rw[G];simp)).trans B⟩
     |sq c l=>
      simp only[rh]at h2;injection h2 with h2;subst h2
      obtain⟨x,el,E,B,e3,e4⟩:=aa;exact⟨x,el,(C _ rfl).trans E,(J ((C _ rfl).trans E) (λa' cs e=>by injection e with e;subst e;rw[G];simp)).trans B,e3,e4⟩
     |fm hd c v aj l=>
      simp only[rh]at h2;injection h2 with h2;subst h2
      obtain⟨x,el,E,B,e3,e4,e6⟩:=aa;refine⟨x,el,(C _ rfl).trans E,(J ((C _ rfl).trans E) (λa' cs e=>by injection e with e;subst e;rw[G];simp)).trans B,e3,e4,λi e v' I K=> ?_⟩;obtain⟨d,r,q1,Q,q3⟩:=e6 i e v' I K;refine⟨d,r,q1,Q,λk3=> ?_⟩;rcases q3 k3 with⟨y,el',S,g2,g3,g4⟩| ⟨g0,S,g2,g3⟩
      .exact .inl ⟨y,el',(C _ rfl).trans S,g2,(J ((C _ rfl).trans S) (λa' cs e=>by cases e)).trans g3,g4⟩
      .exact .inr ⟨g0,(C _ rfl).trans S,g2,g3⟩
     |st cs=>
      simp only[rh]at h2;injection h2 with h2;subst h2
      obtain⟨x,e,E,B,e3,e4⟩:=aa;obtain⟨o',I,K⟩:=N ((C (.m a) rfl).trans E);rcases K with⟨a',aA,e0,e',q1,Q,q3,q4,q5,q6,q7,q8,q9⟩| ⟨p,q1,Q,q3,_⟩
      .have:=w.inj _ _ _ E q3;injection this with this;subst this
       rw[G]at Q;injection Q with Q;injection Q with Q;subst Q
       refine⟨x,e',(C _ rfl).trans E,by rw[I,q7];simp[AH],by simpa[AH]using e3,by simp[AH,q8,q6],λj c a2 S g2=> ?_⟩;rw[AH,jt,lS]at S;obtain⟨y,S,rfl⟩:=S;obtain⟨z,hz⟩:=lQ (l:=e0) q8.symm g2;exact(q9 j y z a2 S hz g2).2
      .have:=w.inj _ _ _ E Q;subst this;exact absurd G (q3 a cs rfl)
  .obtain⟨K,k3⟩:=V I;have:=w.own p x k3;cases p with
   |m a=>
    obtain⟨o,L⟩:=this;have:rh X F (U o)=U (match rh X F (U o)with|some o'=>o'|none=>o):=by cases o<;>rfl
    exact⟨_,by rw[AK,if_neg (show¬a∈F from K),L];exact this⟩
   |n a i=>
    obtain⟨hd,c,v,h,l,L,k⟩:=this;exact⟨hd,c,v,h,l,by rw[AK,if_neg (show¬a∈F from K),L];rfl,k⟩
 have ak: ∀D:jO,(∃M,∀t,(∃a,lW D t=a)->Cz id (λx=> ∃p:Pos,p.of∈F/\pl p=U x) (hf H) (hf H') (jk ae t) (jk M t)/\TR (oh X F) (nB pl F) (lW (D.map λp=>(p.1,kY X F p.2)) t) (jk M t))\/ ¬jB X pl D ae:=by
  intro D;by_cases hE:jB X pl D ae
  .refine .inl ?_;have a4: ∀t,∃ap,Cz id (λx=> ∃p:Pos,p.of∈F/\pl p=U x) (hf H) h1 (jk ae t) ap/\TR (oh X F) (nB pl F) (kY X F (lW D t)) ap:=λt=>YZ w hF hl (hE t);refine⟨(D.map (·.1)).map λt=>(t,Classical.choose (a4 t)),λt _=> ?_⟩;have av: ∀ts:List Nat,jk (ts.map λt=>(t,Classical.choose (a4 t))) t=if t∈ts then Classical.choose (a4 t)else .u:=by
    intro ts;induction ts with
    |nil=>rfl
    |cons s ts ih=>
     simp only[kn,jk];by_cases e:s=t
     .subst e;simp
     .have:(s==t)=false:=by simp[e]
      rw[this,cond_false,ih];simp[Ne.symm e]
   have aw: ∀en:jO,lW (en.map λp=>(p.1,kY X F p.2)) t=if t∈en.map (·.1)then kY X F (lW en t)else .u:=by
    intro en;induction en with
    |nil=>rfl
    |cons s en ih=>
     obtain⟨s,v⟩:=s;simp only[kn,lW];cases hb:im s t with
     |true=>have:=jr hb;subst this;simp
     |false=>
      have ax:t≠s:=λe=>by subst e;rw[Nat.beq_refl]at hb;cases hb
      rw[cond_false,cond_false,ih];simp[ax]
   rw[av,aw];split
   .exact⟨a7 (Classical.choose_spec (a4 t)).1,(Classical.choose_spec (a4 t)).2⟩
   .exact⟨.u _,.u _⟩
  .exact .inr hE
 obtain⟨M,aq⟩:=(ak env).resolve_right (λh=>h he);refine⟨M,H',?_,λt=>(aq t ⟨_,rfl⟩).2,⟨af.obj,af.inj,af.own,λx h=>⟨(w.fr x h).1,(Y h).trans (w.fr x h).2⟩,λp x h=>w.nU p x (V h).2,by rw[a6];exact w.le⟩⟩;refine Ysx id (λx=> ∃p:Pos,p.of∈F/\pl p=U x) ⟨λa b _ _ _ _ h=>h,λa _=>⟨rfl,λh=> ?_⟩,λx o' T=> ?_⟩ rfl (λt=>(aq t ⟨_,rfl⟩).1)
 .simp only[hf]at h⊢;intro hn;rw[List.getElem?_eq_none_iff,a6]at hn;exact h (qb hn)
 .by_cases a5:Fr x
  .have ag:H'[x]?=U (U o'):=T;rw[Y a5]at ag;refine⟨λ⟨q,q1,Q⟩=>w.nU q x Q a5,o',ag,rfl,rfl,λi e e' I K=> ?_⟩;rw[I]at K;injection K with K;subst K
   refine⟨rfl,λj z z' h3 h4=> ?_⟩;rw[h3]at h4;injection h4 with h4;subst h4
   refine O_ (A:=Fr) (λy hy=> ?_) ((ab x a5).2 o' ((w.fr x a5).2.symm.trans ag) e (jc I) z (jc h3));obtain⟨⟨o,L⟩,_⟩:=ab y hy;exact⟨rfl,o,(Y hy).trans ((w.fr y hy).2.trans L)⟩
  obtain⟨⟨p,g⟩,hS⟩:=ah T a5;obtain⟨S,g2⟩:=V g;refine⟨λ⟨q,q1,Q⟩=>by have:=w.inj _ _ _ g2 Q;subst this;exact S q1,?_⟩;rcases hS with⟨a,cs,e,e',q1,Q,q3,q4,q5,q6,q7,q8,q9⟩| ⟨q,q1,Q,q3,q4⟩
  .refine⟨_,q4,by rw[q7],by rw[q7];rfl,λi E B I K=> ?_⟩;rw[q7]at K;cases i with
   |succ i=>simp at I
   |zero=>
    simp at I K;subst I;subst K;refine⟨q8.symm,λj z z' h3 h4=> ?_⟩;obtain⟨c,hc⟩:=lQ (l:=cs) q6 h3;exact a7 (q9 j c z z' hc h3 h4).1
  .refine⟨o',q4,rfl,rfl,λi E B I K=> ?_⟩;rw[I]at K;injection K with K;subst K
   refine⟨rfl,λj z z' h3 h4=> ?_⟩;rw[h3]at h4;injection h4 with h4;subst h4
   have ar:=w.own q x Q;have: ∃o,b_ X q.of=U o/\ ∀cs,o≠ .st cs:=by
    cases q with
    |m a=>obtain⟨o,L⟩:=ar;exact⟨o,L,λcs e=>q3 a cs rfl (by rw[L,e])⟩
    |n a i=>obtain⟨hd,c,v,h,l,L,_⟩:=ar;exact⟨_,L,λcs e=>by cases e⟩
   obtain⟨o,L,Z⟩:=this;exact a9 Z L ⟨q,rfl,Q⟩ q4 q1 E (jc I) z (jc h3)
end
end Go.Abs
namespace Go.Abs
open Go Go.RowKit
mutual
def oX:TV->AV
 | .i k n=>.v (.int k n)
 | .b x=>.v (.bool x)
 | .s x=>.v (.string x)
 | .l c v=>.rd c.width (v.map c.enc)
 | .ag x=>.agg (jC x)
 | .tp x=>.iZ (jC x)
 | .clo g x=>.clo g (jC x)
 | .ef x=>KE x
 |_=>.u
def jC:List TV->List AV
 | []=>[]
 |a::r=>oX a::jC r
end
theorem Cx: ∀l:List TV,jC l=l.map oX
 | []=>rfl
 |a::r=>by simp[jC,Cx r]
mutual
theorem Pb: ∀v:TV,NR (oX v)
 | .i _ _| .b _| .s _=>.v _
 | .l c v=>GI (.l c) v
 | .ag x=>.agg _ (λa h=>Fi x a h)
 | .tp x=>.iZ _ (λa h=>Fi x a h)
 | .clo g x=>.clo g _ (λa h=>Fi x a h)
 | .ef x=>by cases x;exact .v _;exact .er
 | .e _| .u| .v _| .nl| .ref _| .pre _ _| .sub _ _ _| .ptr _ _ _| .np _| .nq _ _ _ _ _| .rp _| .lt _=>.u
theorem Fi: ∀(l:List TV) (a:AV),a∈jC l->NR a
 | [],a,h=>by simp[jC]at h
 |v::r,a,h=>by
  simp only[jC,mT]at h;rcases h with rfl|h
  .exact Pb v
  .exact Fi r a h
end
section
variable{Fr:Nat->Prop}{H0:ic}{X:hZ}{pl:Pl}{H:ic}
theorem Pc{P:AV->AV->Prop}{cs:List TV}{as:List AV}(H:cs.length=as.length)(h: ∀(j:Nat) (c:TV) (a:AV),cs[j]?=U c->as[j]?=U a->P a (oX c)):
  as.length=(jC cs).length/\ ∀(j:Nat) (x X:AV),as[j]?=U x->(jC cs)[j]?=U X->P x X:=by
 refine⟨by simp[Cx,H],λj x X h1 h2=> ?_⟩;rw[Cx,jt,lS]at h2;grind
theorem Le{l:List TV}(h:qh l=zZ): ∀(j:Nat) (c:TV),l[j]?=U c->wb c=true:=by
 induction l with
 |nil=>simp
 |cons a r I=>
  simp only[qh,iI]at h;grind
theorem Y0{v:TV}{a:AV}(h:TR X pl v a):wb v=zZ->Coe a (oX v):=by
 induction h with
 |i k n=>exact λ_=>.refl _
 |b x=>exact λ_=>.refl _
 |uT=>exact λ_=>.refl _
 |mK=>exact λ_=>.refl _
 |s x=>exact λ_=>.refl _
 |l c v a h=>exact λ_=>h
 |ag cs as H h I=>
  intro hd;have:=Pc (P:=Coe) H (λj c a h1 h2=>I j c a h1 h2 (Le hd j c h1));exact .agg _ _ this.1 this.2
 |tp cs as H h I=>
  intro hd;have:=Pc (P:=Coe) H (λj c a h1 h2=>I j c a h1 h2 (Le hd j c h1));exact .iZ _ _ this.1 this.2
 |clo g cs as H h I=>
  intro hd;have:=Pc (P:=Coe) H (λj c a h1 h2=>I j c a h1 h2 (Le hd j c h1));exact .clo g _ _ this.1 this.2
 |_=>intro hd;cases hd
mutual
theorem Pd: ∀v:TV,wb v=zZ->TR X pl v (oX v)
 | .i _ _,_=>.i _ _
 | .b _,_=>.b _
 | .ef _,_=>.ef _
 | .s _,_=>.s _
 | .l c v,_=>.l c v _ (.refl _)
 | .ag x,h=>by have:=Hg x h;exact .ag _ _ this.1 this.2
 | .tp x,h=>by have:=Hg x h;exact .tp _ _ this.1 this.2
 | .clo g x,h=>by have:=Hg x h;exact .clo g _ _ this.1 this.2
 | .e _,h| .u,h| .v _,h| .nl,h| .ref _,h| .pre _ _,h| .sub _ _ _,h| .ptr _ _ _,h| .np _,h| .nq _ _ _ _ _,h| .rp _,h| .lt _,h=>by cases h
theorem Hg: ∀l:List TV,qh l=zZ->CT X pl l (jC l)
 | [],_=>.nil
 |a::r,h=>by
  simp only[qh,iI]at h;exact .cons (Pd a h.1) (Hg r h.2)
end
def hM.R(e:hM)(args:List AV)(r:AV):Prop:=
 ∃x y vs v,e.F x=U y/\e.args.read vs []=U x/\qh vs=zZ/\args=jC vs/\kH e.res (kp e.co y)=U (v,[])/\wb v=zZ/\r=oX v
structure Hh(T:iT)(C:Ctx):Prop where
 pf:C.pf=T.pf
 fn: ∀e∈T.fs,T.pf e.g=zZ-> ∀args r,e.R args r->C.C e.g args [] r []
def Pe:SV->Bool
 | .i _| .b| .s=>zZ
 |_=>zj
theorem Y1{S:SV}{l r:List Lf}{v:TV}(d:Pe S=zZ)(h:kH S l=U (v,r)): ∃x,oX v= .v x:=by
 cases S with
 |i k=>
  cases l with
  |nil=>trivial
  |cons f fs=>
   obtain⟨t,z⟩:=f;cases t with
   |i K=>
    obtain⟨_,H⟩:=iU h;injection H with H;injection H with H _;subst H;exact⟨_,rfl⟩
   |_=>trivial
 |b=>
  cases l with
  |nil=>trivial
  |cons f fs=>
   obtain⟨t,z⟩:=f;cases t with
   |b=>
    have H:U (TV.b z,fs)=U (v,r):=by trivial
    injection H with H;injection H with H _;subst H;exact⟨_,rfl⟩
   |_=>trivial
 |s=>
  cases l with
  |nil=>trivial
  |cons f fs=>
   obtain⟨t,z⟩:=f;cases t with
   |s=>
    have H:U (TV.s z,fs)=U (v,r):=by trivial
    injection H with H;injection H with H _;subst H;exact⟨_,rfl⟩
   |_=>trivial
 |_=>cases d
theorem YtP{d:SV}{l r:List Lf}{v:TV}(H:X3 d=zZ)(h:kH d l=U (v,r)):mY (oX v):=by
 have O:Pe d=zZ->mY (oX v):=λh1=>by
  obtain⟨x,q⟩:=Y1 h1 h;rw[q];exact .v x
 cases d with
 |i k=>exact O rfl
 |b=>exact O rfl
 |s=>exact O rfl
 |tp l'=>
  have K: ∀(S:List SV) (l r:List Lf) (vs:List TV),(∀y∈S,Pe y=zZ)->pn S l=U (vs,r)-> ∀a∈jC vs,∃x,a= .v x:=by
   intro S;induction S with
   |nil=>intro l r vs _ h;injection h with h;injection h with h _;subst h;intro a g;trivial
   |cons y S I=>
    intro l r vs H h;simp only[pn]at h;split at h
    .rename_i x R h1;split at h
     .rename_i xs w h2;injection h with h;injection h with h _;subst h
      intro a g;simp only[jC,mT]at g;rcases g with rfl|g
      .exact Y1 (H y (pM ..)) h1
      grind
     trivial
    trivial
  simp only[kH]at h;split at h
  .rename_i vs R h1;injection h with h;injection h with h _;subst h
   exact .iZ _ (K l' l R vs (λy p=>ly.1 (show l'.all _=zZ from H) y p) h1)
  trivial
 |_=>cases H
theorem Y2(z:ib Fr H0 X pl H){v w:TV}{a:AV}(h:E3 X v=U w)(B:TR X pl v a): ∃b,se (hf H) a b/\TR X pl w b:=by
 cases v<;>try trivial
 case ref x=>
  simp only[E3]at h;split at h
  .rename_i c l d;injection h with h;subst h
   obtain⟨y,n,rfl,p,g⟩:=py d B;injection g with g;subst g
   obtain⟨Y,el,E,A,C,q⟩:=z.obj x _ d;rw[p]at E;injection E with E;subst E
   refine⟨_,.inr ⟨y,0,l.length,⟨c.width,el⟩,rfl,A,by simp[q.1],rfl⟩,.l c l _ ?_⟩;simp only[vM,rW C];rw[<-q.1,rN];exact Fb q
  .rename_i s d;injection h with h;subst h
   obtain⟨y,n,rfl,p,g⟩:=py d B;injection g with g;subst g
   obtain⟨Y,E,A⟩:=z.obj x _ d;rw[p]at E;injection E with E;subst E
   refine⟨_,.inr ⟨y,0,s.size,⟨0,iM s⟩,rfl,A,by simp[iX],rfl⟩,.l U8 (od s) _ ?_⟩;simp;rw[<-iX,rN];exact kD (we s).rows
  trivial
 case pre x n=>
  simp only[E3]at h;split at h
  .rename_i c l d;injection h with h;subst h
   obtain⟨y,k,rfl,p,g,h0,F⟩:=E_ d B;injection g with g;subst g
   obtain⟨Y,el,E,A,C,q⟩:=z.obj x _ d;rw[p]at E;injection E with E;subst E
   refine⟨_,.inr ⟨y,0,n.toNat,⟨c.width,el⟩,rfl,A,by rw[q.1,mD];exact F,rfl⟩,.l c _ _ ?_⟩;simp only[vM,rW C];refine Fb ⟨by simp[q.1],λi e v h1 h2=> ?_⟩;rw[oU]at h1 h2;split at h1
   .rename_i D;rw[if_pos D]at h2;exact q.2 i e v h1 h2
   trivial
  trivial
 case sub x V i=>
  simp only[E3]at h;split at h
  .rename_i hd c ver' l d;have E:=jr (iU h).1;replace h:=(iU h).2;subst E;injection h with h;subst h
   rcases Co d B with⟨y,rfl,D,p⟩| ⟨rfl,p,h0⟩
   .obtain⟨L,I,_,_,K,_⟩:=z.obj x _ d;obtain⟨el,J,G⟩:=G5 z d D p;refine⟨_,.inr ⟨y,0,(kG hd c l i).length,⟨c.width,el⟩,rfl,J,by simp[G.1],rfl⟩,.l c _ _ ?_⟩;simp only[vM,rW K];rw[<-G.1,rN];exact Fb G
   .rw[h0];exact⟨.emp,.inl rfl,.l c [] _ (by exact .j_ _)⟩
  .cases h
theorem Y3(g:ib Fr H0 X pl H): ∀{cs ds:List TV} {t:Bool} {as:List AV},E4 X cs=(ds,t)->CT X pl cs as-> ∃B,jX (se (hf H)) as B/\CT X pl ds B/\ (t=zj->B=as)
 | [],ds,t,as,h,d=>by
   injection h with h1 h2;subst h1;subst h2
   have:=d.1;cases as with
   |nil=>exact⟨[],trivial,.nil,λ_=>rfl⟩
   |cons _ _=>trivial
 |a::r,ds,t,as,h,d=>by
  obtain⟨b,B,rfl,h1,h2⟩:=d.inv;cases q:E4 X r with
  |mk xs t'=>
   obtain⟨C,k,K,z⟩:=Y3 g q h2;simp only[E4,q]at h;split at h
   .rename_i x p;injection h with e1 e2;subst e1;subst e2
    obtain⟨w,G,y⟩:=Y2 g p h1;exact⟨w::C,⟨G,k⟩,.cons y K,λh=>by cases h⟩
   .split at h
    .injection h with e1 e2;subst e1;subst e2
     cases h1;exact⟨.emp::C,⟨.inl rfl,k⟩,.cons (.l _ _ _ (by exact .j_ _)) K,λh=>by grind⟩
    .injection h with e1 e2;subst e1;subst e2
     exact⟨b::C,⟨.inl rfl,k⟩,.cons h1 K,λh=>by grind⟩
theorem Pf(d:ib Fr H0 X pl H): ∀{cs ds:List TV} {t:Bool} {as:List AV},AB X cs=(ds,t)->CT X pl cs as-> ∃B,jX (vQ (hf H)) as B/\CT X pl ds B/\ (t=zj->B=as)
 | [],ds,t,as,h,p=>by
   injection h with h1 h2;subst h1;subst h2
   have:=p.1;cases as with
   |nil=>exact⟨[],trivial,.nil,λ_=>rfl⟩
   |cons _ _=>trivial
 |a::r,ds,t,as,h,p=>by
  obtain⟨b,B,rfl,h1,h2⟩:=p.inv;cases w:AB X r with
  |mk xs t'=>
   obtain⟨C,k,K,F⟩:=Pf d w h2;simp only[AB,w]at h;split at h
   .rename_i x y;injection h with e1 e2;subst e1;subst e2
    obtain⟨z,G,g⟩:=Y2 d y h1;exact⟨z::C,⟨.inl G,k⟩,.cons g K,λh=>by cases h⟩
   .split at h
    .rename_i ys A;injection h with e1 e2;subst e1;subst e2
     cases h1 with
     |ag _ Z D E=>
      cases q:E4 X ys with
      |mk ws T=>
       obtain⟨us,G,g,I⟩:=Y3 d q ⟨D,E⟩;refine⟨.agg us::C,⟨.inr ⟨Z,us,rfl,rfl,G⟩,k⟩,.cons (.ag _ _ g.1 g.2) K,λh=> ?_⟩;simp_all
    .injection h with e1 e2;subst e1;subst e2
     cases h1;exact⟨.emp::C,⟨.inl (.inl rfl),k⟩,.cons (.l _ _ _ (by exact .j_ _)) K,λh=>by grind⟩
    .injection h with e1 e2;subst e1;subst e2
     exact⟨b::C,⟨.inl (.inl rfl),k⟩,.cons h1 K,λh=>by grind⟩
theorem Y4{vs:List TV}: ∀{as:List AV},CT X pl vs as->qh vs=zZ->jX Coe as (jC vs):=by
 induction vs with
 |nil=>intro as h _;have:=h.1;cases as with
  |nil=>trivial
  |cons _ _=>trivial
 |cons v vs I=>
  intro as h hd;obtain⟨a,r,rfl,h1,h2⟩:=h.inv;simp only[qh,iI]at hd;exact⟨Y0 h1 hd.1,I h2 hd.2⟩
theorem Y5{g:Nat}{svs:List SV}: ∀{l:List hM} {e:hM},KL g svs l=U e->e∈l/\e.g=g/\svs=e.args.vs
 | [],e,h=>by cases h
 |a::l,e,h=>by
  simp only[KL]at h;cases H:(im a.g g&&SV.jW svs a.args.vs)with
  |true=>
   rw[H,cond_true]at h;injection h with h;subst h
   simp only[iI]at H;exact⟨pM ..,jr H.1,SV.jv H.2⟩
  |false=>
   rw[H,cond_false]at h;obtain⟨h1,h2⟩:=Y5 h;simp_all
variable{β:Type}{r:β}
theorem YtQ{T:iT}{C:Ctx}(k:Hh T C){g:Nat}{args:List TV}{as:List AV}{K:TV->hZ->Option β}(z:T.pf g=zZ)(h:OO T g args X K=U r)(A:CT X pl args as)(B:ib Fr H0 X pl H){KA:AV->ic->Prop}
  (D: ∀v V,K v X=U r->TR X pl v V->KA V H):Ai C g as H KA:=by
 unfold OO at h;cases p:AB X args with
 |mk ds L=>
  rw[p]at h;simp only at h;split at h
  .rename_i svs R;split at h
   .rename_i e F;obtain⟨d,E⟩:=iU h;simp at d;obtain⟨G,I,J⟩:=Y5 F;split at E
    .rename_i x M;cases q:e.F x with
     |none=>simp_all
     |some y=>
      rw[q]at E;simp at E;split at E
      .rename_i v w;obtain⟨hd,N⟩:=iU E;obtain⟨O,P,Q,S⟩:=Pf B p A;refine .inl ⟨by rw[k.pf];exact z,O,jC ds,oX v,P,?_,Y4 Q d.1,?_,D _ _ N (Pd v hd)⟩
       .cases L with
        |false=>simp_all
        |true=>exact .inr (.inl (YtP (by simp_all) w))
       .rw[<-I];exact k.fn e G (by simp_all) _ _ ⟨x,y,ds,v,q,M,d.1,rfl,w,hd,rfl⟩
      trivial
    trivial
   trivial
  trivial
end
end Go.Abs
namespace Go.Abs
open Go Go.RowKit
def tJ(X:hZ)(a:Nat):Nat:=match b_ X a with|some o=>(iz o).getD 0|none=>0
mutual
def kE(X:hZ)(pl:Pl):TV->AV
 | .i k n=>.v (.int k n)
 | .b x=>.v (.bool x)
 | .s x=>.v (.string x)
 | .l c v=>.rd c.width (v.map c.enc)
 | .ref a=>match pl (.m a)with|some x=>.ref x 0 (tJ X a)|none=>.u
 | .ptr a i j=>match pl (.m a)with|some x=>.ptr x i j|none=>.u
 | .np a=>match pl (.m a)with|some x=>.np x|none=>.u
 | .e _=>.emp
 | .nl=>.v (.pointer zz)
 | .ef x=>KE x
 | .ag x=>.agg (xc X pl x)
 | .tp x=>.iZ (xc X pl x)
 | .clo g x=>.clo g (xc X pl x)
 |_=>.u
def xc(X:hZ)(pl:Pl):List TV->List AV
 | []=>[]
 |a::r=>kE X pl a::xc X pl r
end
theorem Pg(X:hZ)(pl:Pl): ∀l:List TV,xc X pl l=l.map (kE X pl)
 | []=>rfl
 |a::r=>by simp[xc,Pg X pl r]
def rn(pl:Pl)(a:Nat)(hd:Hd)(c:Cs)(l:List (sn c hd.A).den):List (List AV):=
 (List.range l.length).map λi=>hd.A.enc (yI hd c l i)++[.ref ((pl (.n a i)).getD 0) 0 (kG hd c l i).length]
def pA(X:hZ)(pl:Pl)(a:Nat):iu:=
 match b_ X a with
 |some (.sq c l)=>⟨c.width,l.map c.enc⟩
 |some (.st cs)=>⟨cs.length,[xc X pl cs]⟩
 |some (.sb s)=>⟨0,iM s⟩
 |some (.fm hd c _ _ l)=>hd.obj (rn pl a hd c l)
 |_=>⟨1,[]⟩
def uZ(X:hZ)(pl:Pl):Pos->iu
 | .m a=>pA X pl a
 | .n a i=>match b_ X a with
   |some (.fm hd c _ _ l)=>⟨c.width,(kG hd c l i).map c.enc⟩
   |_=>⟨1,[]⟩
def pB:Option il->Nat
 |some (.fm _ _ _ _ l)=>l.length
 |_=>0
def mA:hZ->Nat->Nat
 | [],_=>0
 |_::_,0=>0
 |o::r,i+1=>pB o+mA r i
theorem Hi: ∀(X:hZ) (a:Nat),a<X.length->mA X (a+1)=mA X a+pB (b_ X a)
 |o::r,0,_=>by cases r<;>simp[mA,b_]
 |o::r,a+1,h=>by
  have:=Hi r a (by simpa using h);simp only[mA,b_]at this⊢;omega
theorem Ph(X:hZ): ∀{a b:Nat},a<=b->b<=X.length->mA X a<=mA X b:=by
 intro a b h H;induction b with
 |zero=>have:a=0:=by omega
        subst this;exact jG _
 |succ b I=>
  by_cases e:a=b+1
  .subst e;exact jG _
  .have:=I (by omega) (by omega);rw[Hi X b (by omega)];omega
theorem YtR(X:hZ){a i:Nat}(H:i<pB (b_ X a))(h:a<X.length):mA X a+i<mA X X.length:=by
 have:=Ph X (a:=a+1) (b:=X.length) (by omega) (jG _);rw[Hi X a h]at this;omega
theorem YtS(X:hZ){a b i j:Nat}(g:i<pB (b_ X a))(k:j<pB (b_ X b))(H:a<X.length)(d:b<X.length)(h:mA X a+i=mA X b+j):a=b/\i=j:=by
 rcases Nat.lt_trichotomy a b with e|e|e
 .have:=Ph X (a:=a+1) (b:=b) (by omega) (by omega);rw[Hi X a H]at this;omega
 .subst e;exact⟨rfl,by omega⟩
 .have:=Ph X (a:=b+1) (b:=a) (by omega) (by omega);rw[Hi X b d]at this;omega
def jx(pls:Pl)(k n:Nat)(X:hZ):Pl
 | .m i=>match b_ X i with
   |some _=>if i<k then pls (.m i)else U (n+(i-k))
   |none=>zz
 | .n a i=>if i<pB (b_ X a)then U (n+(X.length-k)+(mA X a+i))else zz
open Classical in
noncomputable def oD(Kp:Nat->Prop)(H:ic)(k:Nat)(X:hZ)(pl:Pl):ic:=
 (List.range (H.length+(X.length-k)+mA X X.length)).map λx=>if Kp x then(H[x]?).join else if h: ∃p,pl p=U x then U (uZ X pl (Classical.choose h))else zz
def hM.RI(e:hM)(args:List AV)(H:ic)(r:AV)(H':ic):Prop:=
 ∃(x:e.args.c.den) (y:e.co.den) (vs:List TV) (Xs:hZ) (pls:Pl) (Kp:Nat->Prop) (v:TV) (l:List Lf) (X2:hZ),e.F x=U y/\e.args.read vs Xs=U x/\yP Xs=zZ/\CT Xs pls vs args/\ib Kp H Xs pls H/\kZ Kp H/\
  (∀i o,b_ Xs i=U o-> ∃z,pls (.m i)=U z)/\
  kH e.res (kp e.co y)=U (v,l)/\ll e.os l=U (X2,[])/\Xs.length<=X2.length/\pq X2 v=zZ/\oC X2 X2=zZ/\ (∀i,i<Xs.length-> ∀o,b_ X2 i=U o-> ∃z,pls (.m i)=U z)/\
  r=kE X2 (jx pls Xs.length H.length X2) v/\H'=oD Kp H Xs.length X2 (jx pls Xs.length H.length X2)
section
variable{Fr:Nat->Prop}{H0:ic}
theorem YtT{X:hZ}{a i:Nat}(h:i<pB (b_ X a)):a<X.length:=by
 cases H:b_ X a with
 |none=>rw[H]at h;exact absurd h (Nat.not_lt_zero _)
 |some o=>exact ki H
theorem Fj{Xs:hZ}{pls:Pl}{H:ic}{Kp:Nat->Prop}(d:ib Kp H Xs pls H){X2:hZ}{i x:Nat}(h:jx pls Xs.length H.length X2 (.m i)=U x):(pls (.m i)=U x\/(H.length<=x/\x=H.length+(i-Xs.length)/\Xs.length<=i))/\x<H.length+(X2.length-Xs.length):=by
 simp only[jx]at h;split at h
 .rename_i o g;have:=ki g;split at h
  .exact⟨.inl h,by have:=d.bd h;omega⟩
  .injection h with h;exact⟨.inr ⟨by omega,h.symm,by omega⟩,by omega⟩
 .cases h
theorem yY{pls:Pl}{k n:Nat}{X2:hZ}{a i x:Nat}(h:jx pls k n X2 (.n a i)=U x):i<pB (b_ X2 a)/\x=n+(X2.length-k)+(mA X2 a+i)/\a<X2.length:=by
 simp only[jx]at h;split at h
 .rename_i H;injection h with h
  exact⟨H,h.symm,YtT H⟩
 .cases h
theorem Lg{Xs:hZ}{pls:Pl}{H:ic}{Kp:Nat->Prop}(d:ib Kp H Xs pls H){X2:hZ}{p q:Pos}{x:Nat}(k:jx pls Xs.length H.length X2 p=U x)(w:jx pls Xs.length H.length X2 q=U x):p=q:=by
 cases p with
 |n a i=>cases q with
  |n b j=>
   obtain⟨h1,h2,y⟩:=yY k;obtain⟨G,A,z⟩:=yY w;obtain⟨rfl,rfl⟩:=YtS X2 h1 G y z (by omega);rfl
  |m j=>
   obtain⟨h1,h2,y⟩:=yY k;have:=(Fj d w).2;omega
 |m i=>cases q with
  |n b j=>
   obtain⟨h1,h2,y⟩:=yY w;have:=(Fj d k).2;omega
  |m j=>
   rcases(Fj d k).1 with h| ⟨h1,h2,y⟩<;>rcases(Fj d w).1 with g| ⟨G,A,z⟩
   .exact d.inj _ _ _ h g
   .have:=d.bd h;omega
   .have:=d.bd g;omega
   .rw[show i=j by omega]
theorem Y6{pls:Pl}{k n:Nat}{X2:hZ}{p:Pos}{x:Nat}(h:jx pls k n X2 p=U x): ∃o,b_ X2 p.of=U o:=by
 cases p with
 |m i=>
  simp only[jx]at h;split at h
  .rename_i o H;exact⟨o,H⟩
  .cases h
 |n a i=>
  obtain⟨h1,_,_⟩:=yY h;cases H:b_ X2 a with
  |none=>rw[H]at h1;exact absurd h1 (Nat.not_lt_zero _)
  |some o=>exact⟨o,H⟩
theorem Pj{Xs:hZ}{pls:Pl}{H:ic}{Kp:Nat->Prop}(d:ib Kp H Xs pls H){X2:hZ}(w:Xs.length<=X2.length){p:Pos}{x:Nat}(k:jx pls Xs.length H.length X2 p=U x):
  (oD Kp H Xs.length X2 (jx pls Xs.length H.length X2))[x]?=U (U (uZ X2 (jx pls Xs.length H.length X2) p)):=by
 have y:x<H.length+(X2.length-Xs.length)+mA X2 X2.length/\ ¬Kp x:=by
  cases p with
  |m i=>
   obtain⟨h1,h2⟩:=Fj d k;refine⟨by omega,?_⟩;rcases h1 with h| ⟨h1,_,_⟩
   .exact d.nU _ _ h
   .intro q;have:=(d.fr x q).1;omega
  |n a i=>
   obtain⟨h1,h2,z⟩:=yY k;have:=YtR X2 h1 z;exact⟨by omega,λq=>by have:=(d.fr x q).1;omega⟩
 unfold oD;have g: ∃p,jx pls Xs.length H.length X2 p=U x:=⟨p,k⟩;have:=Lg d (Classical.choose_spec g) k;rw[jt,pO y.1];simp only[l_,if_neg y.2,dif_pos g,this]
theorem Lh{Xs:hZ}{pls:Pl}{H:ic}{Kp:Nat->Prop}(d:ib Kp H Xs pls H){X2:hZ}{x:Nat}(h:Kp x):(oD Kp H Xs.length X2 (jx pls Xs.length H.length X2))[x]?=H[x]?:=by
 have g:=(d.fr x h).1;unfold oD;rw[jt,pO (by omega)];simp only[l_,if_pos h,je g,Option.join_some]
theorem Y7{Xs:hZ}{pls:Pl}{H:ic}{Kp:Nat->Prop}{X2:hZ}{x:Nat}{o:iu}(h:(oD Kp H Xs.length X2 (jx pls Xs.length H.length X2))[x]?=U (U o)):
  (Kp x/\H[x]?=U (U o))\/(∃p,jx pls Xs.length H.length X2 p=U x/\o=uZ X2 (jx pls Xs.length H.length X2) p):=by
 have d:=(iP.1 h).1;unfold oD at h d;simp only[pQ,List.length_range]at d;rw[jt,pO d]at h;simp only[l_,Option.some.injEq]at h;split at h
 .rename_i k;refine .inl ⟨k,?_⟩;cases g:H[x]? with
  |none=>rw[g]at h;cases h
  |some y=>rw[g]at h;simpa using h
 .split at h
  .rename_i q;injection h with h
   exact .inr ⟨_,Classical.choose_spec q,h.symm⟩
  .cases h
theorem Hj(Kp:Nat->Prop)(H:ic)(k:Nat)(X:hZ)(pl:Pl):(oD Kp H k X pl).length=H.length+(X.length-k)+mA X X.length:=by simp[oD]
mutual
theorem Y8{X:hZ}{pl:Pl}(wj: ∀i o,b_ X i=U o-> ∃z,pl (.m i)=U z): ∀v:TV,pq X v=zZ->TR X pl v (kE X pl v)
 | .i k n,_=>.i k n
 | .b x,_=>.b x
 | .s x,_=>.s x
 | .l c w,_=>.l c w _ (.refl _)
 | .u,_=>.u _
 | .nl,_=>.nl
 | .ef x,_=>.ef x
 | .e c,_=>.e c
 | .ref a,h=>by
   simp only[pq]at h;split at h
   .rename_i c l ho;obtain⟨z,hz⟩:=wj a _ ho;simp only[kE,hz,tJ,ho,iz,qu];exact .ref a z _ l.length ho rfl hz
   .rename_i s ho;obtain⟨z,hz⟩:=wj a _ ho;simp only[kE,hz,tJ,ho,iz,qu];exact .ref a z _ s.size ho rfl hz
   .rename_i A nn c v hole l ho;obtain⟨z,hz⟩:=wj a _ ho;simp only[kE,hz,tJ,ho,iz,qu];exact .ref a z _ l.length ho rfl hz
   .cases h
 | .ptr a i j,h=>by
   simp only[pq,iI]at h;have hi:=jr h.1;subst hi;have h2:=h.2;split at h2
   .rename_i cs ho;obtain⟨z,hz⟩:=wj a _ ho;simp only[kE,hz];exact .ptr a 0 j z _ ho (by simp[lK]) hz
   .cases h2
 | .np a,h=>by
   simp only[pq]at h;split at h
   .rename_i cs ho;obtain⟨z,hz⟩:=wj a _ ho;simp only[kE,hz];exact .np a z _ ho hz
   .rename_i o n c v hole l ho;obtain⟨z,hz⟩:=wj a _ ho;simp only[kE,hz];exact .np a z _ ho hz
   .cases h
 | .ag x,h=>by have:=Hk wj x h;exact .ag _ _ this.1 this.2
 | .tp x,h=>by have:=Hk wj x h;exact .tp _ _ this.1 this.2
 | .clo g x,h=>by have:=Hk wj x h;exact .clo g _ _ this.1 this.2
 | .v _,h| .pre _ _,h| .sub _ _ _,h| .nq _ _ _ _ _,h| .rp _,h| .lt _,h=>by cases h
theorem Hk{X:hZ}{pl:Pl}(wj: ∀i o,b_ X i=U o-> ∃z,pl (.m i)=U z): ∀l:List TV,mM X l=zZ->CT X pl l (xc X pl l)
 | [],_=>.nil
 |a::r,h=>by
  simp only[mM,iI]at h;exact .cons (Y8 wj a h.1) (Hk wj r h.2)
end
theorem Fk{X:hZ}: ∀{Y:hZ} {i:Nat} {o:il},oC X Y=zZ->b_ Y i=U o->(∃c l,o= .sq c l/\0<c.width)\/(∃cs,o= .st cs/\0<cs.length/\mM X cs=zZ)\/(∃s,o= .sb s)\/ ∃hd c v l,o= .fm hd c v zz l/\0<c.width/\hd.nn=zZ
 | [],i,o,_,h=>by cases h
 |p::r,i,o,w,h=>by
  have d:oC X r=true:=by
   cases p with
   |none=>exact w
   |some q=>cases q with
    |sq c l=>simp only[oC,iI]at w;exact w.2
    |st cs=>simp only[oC,iI]at w;exact w.2
    |sb s=>exact w
    |fm _ _ _ _ _=>simp only[oC,iI]at w;exact w.2
  cases i with
  |succ i=>exact Fk d h
  |zero=>
   subst h;cases o with
   |sq c l=>simp only[oC,iI]at w;exact .inl ⟨c,l,rfl,by simp_all⟩
   |st cs=>simp only[oC,iI]at w;simp_all
   |sb s=>simp
   |fm hd c v H l=>
    simp only[oC,iI]at w;have h0:0<c.width:=by have:=w.1.1;simp_all
    cases H with
    |none=>exact .inr (.inr (.inr ⟨hd,c,v,l,rfl,h0,w.1.2.1⟩))
    |some _=>cases w.1.2.2
end
end Go.Abs
