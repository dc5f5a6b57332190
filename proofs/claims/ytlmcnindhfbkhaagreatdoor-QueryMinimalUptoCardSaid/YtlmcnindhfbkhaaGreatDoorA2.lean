/- Slices of own slices: how they come, take over an own slice, lend out an element. No condition. -/
import Derived.Test.YtlmcnindhfbkhaaGreatDoorA1
set_option linter.unusedVariables false
set_option linter.unusedSimpArgs false
set_option linter.unusedSectionVars false
open List renaming getElem?_eq_some_iff → YD4, mem_of_getElem? → YD5, getElem?_map → YD6, getElem?_eq_getElem → YD7, map_cons → YD8, getElem?_append_left → YD9, map_nil → YEa, getElem?_set_ne → YEb, getElem?_append_right → YEc, mem_cons → YEd, getElem?_set_self → YEe, length_eq_zero_iff → YEf, mem_cons_self → YEg, getElem?_take → YEh, mem_iff_getElem? → YEi, take_length → YEj, length_map → YEk, mem_singleton → YEl, length_cons → YEm, mem_cons_of_mem → YEn, all_eq_true → YEo, getElem?_eq_none → YEp, getElem?_drop → YEq, mem_map → YEr, drop_zero → YEt, getElem?_range → YEu, append_assoc → YEv, mem_append → YEw, cons_append → YEx, nil_append → YEy, map_map → YEz, length_nil → YEA, mem_filter → YEB, getElem?_replicate → YEC, ext_getElem? → YED, map_append → YEF, getElem?_cons_succ → YEG
open Nat renaming beq → YEH, le_refl → YEI, eq_of_beq_eq_true → YEJ, blt → YEK, ble → YEL, zero_add → YEM, lt_of_lt_of_le → YEN, le_trans → YEP, zero_le → YEQ, beq_eq → YES, beq_refl → YET, le_of_ble_eq_true → YEU
open Option renaming map_eq_some_iff → YEW, map_some → YEX, bind_some → YEY, getD_some → YEZ, isSome_iff_exists → YE0
open Bool renaming and_eq_true → YE3, or_eq_true → YE5, eq_iff_iff → YE6, and_self → YE8
open Int renaming toNat_natCast → YE9
open Array renaming getD_eq_getD_getElem? → YFa, getElem?_eq_getElem → YFe
open ByteArray renaming mk → YFf
namespace Go.Abs
open Go Go.RowKit
section
variable{Fr:Nat->Prop}{H0:Heap}{X:YzS}{pl:Pl}{H:Heap}
theorem HRel.build(hr:HRel Fr H0 X pl H){X':YzS}{pl':Pl}{H':Heap}(A:Nat->Prop)(hx:Ext X pl X' pl')
  (hX: ∀b,¬A b->vget X' b=vget X b) (hp: ∀p:Pos,¬A p.of->pl' p=pl p)
  (hH: ∀(p:Pos) x,¬A p.of->pl p=some x->H'[x]?=H[x]?)
  (obj: ∀b o,A b->vget X' b=some o->OR X' pl' H' b o)
  (own: ∀(p:Pos) x,A p.of->pl' p=some x->Live X' p)
  (src: ∀(p:Pos) x,A p.of->pl' p=some x->(∃q:Pos,pl q=some x/\A q.of)\/H.length<=x)
  (inj: ∀(p q:Pos) x,A p.of->A q.of->pl' p=some x->pl' q=some x->p=q)
  (frH: ∀x,Fr x->H'[x]?=H[x]?) (le:H.length<=H'.length):HRel Fr H0 X' pl' H':=by
 have mixed: ∀(p q:Pos) x,A p.of-> ¬A q.of->pl' p=some x->pl' q=some x->False:=by
  intro p q x h1 h2 h3 h4
  rw[hp q h2]at h4
  rcases src p x h1 h3 with⟨q',k1,k2⟩|k
  ·have:=hr.inj _ _ _ k1 h4
   subst this;exact h2 k2
  ·have:=hr.bd h4;omega
 refine⟨fun b o h1=> ?_,fun p q x h1 h2=> ?_,fun p x h1=> ?_,fun x h1=> ?_,fun p x h1=> ?_,YEP hr.le le⟩
 ·by_cases hb:A b
  ·exact obj b o hb h1
  ·rw[hX b hb]at h1
   exact(hr.obj b o h1).keep hx (fun p e=>hp p (by rw[e];exact hb)) (fun p x e e2=>hH p x (by rw[e];exact hb) e2)
 ·by_cases ha:A p.of<;>by_cases hb:A q.of
  ·exact inj p q x ha hb h1 h2
  ·exact(mixed p q x ha hb h1 h2).elim
  ·exact(mixed q p x hb ha h2 h1).elim
  ·rw[hp p ha]at h1;rw[hp q hb]at h2;exact hr.inj p q x h1 h2
 ·by_cases ha:A p.of
  ·exact own p x ha h1
  ·rw[hp p ha]at h1
   have:=hr.own p x h1
   cases p with
   |m b=>obtain⟨o,k⟩:=this;exact⟨o,by rw[hX b ha];exact k⟩
   |n b i=>obtain⟨c,v,h,l,k,k2⟩:=this;exact⟨c,v,h,l,by rw[hX b ha];exact k,k2⟩
 ·have:=hr.fr x h1
  exact⟨this.1,by rw[frH x h1];exact this.2⟩
 ·by_cases ha:A p.of
  ·rcases src p x ha h1 with⟨q,k1,k2⟩|k
   ·exact hr.nfr q x k1
   ·intro hf;have:=(hr.fr x hf).1;have:=hr.le;omega
  ·rw[hp p ha]at h1;exact hr.nfr p x h1
theorem Ycr(hr:HRel Fr H0 X pl H){a:Nat}{c:Cs}{ver:Nat}{hole:Option Nat}{l:List (List c.den)}(ha:vget X a=some (.fm c ver hole l)){p:Pos}{x:Nat}(hp:pl p=some x)(hpa:p.of=a):
  p= .m a\/ ∃i,p= .n a i/\i<l.length/\hole≠some i:=by
 have:=hr.own p x hp
 cases p with
 |m b=>simp only[Pos.of]at hpa;exact .inl (by rw[hpa])
 |n b i=>
  simp only[Pos.of]at hpa;subst hpa
  obtain⟨c',v,h,l',k,k1,k2⟩:=this
  rw[ha]at k;injection k with k;injection k with k0 k3 k4 k5
  subst k0;have k5:=eq_of_heq k5;subst k5;subst k4
  exact .inr ⟨i,rfl,k1,k2⟩
theorem Yiw(hr:HRel Fr H0 X pl H){a:Nat}{c:Cs}{l:List c.den}(ha:vget X a=some (.sq c l)){p:Pos}{x:Nat}(hp:pl p=some x)(hpa:p.of=a):p= .m a:=by
 have:=hr.own p x hp
 cases p with
 |m b=>simp only[Pos.of]at hpa;rw[hpa]
 |n b i=>
  simp only[Pos.of]at hpa;subst hpa
  obtain⟨c',v,h,l',k,_⟩:=this
  rw[ha]at k;injection k with k;cases k
theorem YpQ(hr:HRel Fr H0 X pl H){a x m y i:Nat}{c:Cs}{ver:Nat}{hole:Option Nat}{l:List (List c.den)}{lm:List c.den}{el:List (List AV)}
  (ha:vget X a=some (.fm c ver hole l)) (hp:pl (.m a)=some x) (hm:vget X m=some (.sq c lm)) (hpm:pl (.m m)=some y) (hne:m≠a) (hi:i<l.length) (hh:hole=none\/hole=some i) (hx:H[x]?=some (some ⟨1,el⟩)):
  ∃pl',HRel Fr H0 (vset (vset X m none) a (some (.fm c (ver+1) none (l.set i lm)))) pl' (H.set x (some ⟨1,el.set i [.ref y 0 lm.length]⟩))/\
   Ext X pl (vset (vset X m none) a (some (.fm c (ver+1) none (l.set i lm)))) pl':=by
 have hal:=Yag ha
 have hml:=Yag hm
 refine⟨fun q=>if q= .n a i then some y else if q.of=m then none else pl q,?_⟩
 have hgetm:vget (vset (vset X m none) a (some (.fm c (ver+1) none (l.set i lm)))) m=none:=by
  rw[Yak _ (Ne.symm hne)];exact Yap _ hml
 have hgeta:vget (vset (vset X m none) a (some (.fm c (ver+1) none (l.set i lm)))) a=some (.fm c (ver+1) none (l.set i lm)):=Yap _ (by rw[Yae];exact hal)
 have hgetb: ∀b,b≠a->b≠m->vget (vset (vset X m none) a (some (.fm c (ver+1) none (l.set i lm)))) b=vget X b:=fun b h1 h2=>by
  rw[Yak _ (Ne.symm h1),Yak _ (Ne.symm h2)]
 have hpa: ∀q:Pos,q.of≠a->q.of≠m->(if q= .n a i then some y else if q.of=m then none else pl q)=pl q:=fun q h1 h2=>by
  rw[if_neg (fun e=>by subst e;exact h1 rfl),if_neg h2]
 have hma:(if Pos.m a= .n a i then some y else if(Pos.m a).of=m then none else pl (.m a))=pl (.m a):=by
  rw[if_neg (fun e=>by cases e),if_neg (fun e=>hne e.symm)]
 have hxt:Ext X pl (vset (vset X m none) a (some (.fm c (ver+1) none (l.set i lm)))) (fun q=>if q= .n a i then some y else if q.of=m then none else pl q):=by
  refine⟨by rw[Yae,Yae];exact YEI _,fun b hb=> ?_⟩
  by_cases e1:b=a
  ·subst e1
   exact .inr ⟨_,_,ha,hgeta,by simp[elN],by simp[lenO],hma,rfl,fun c' v' h' l' e=>by
    injection e with e0 e1 e2 e3
    subst e0;subst e1;subst e2;have e3:=eq_of_heq e3;subst e3
    exact⟨ver,hole,l,rfl,by simp,.inl (by omega)⟩⟩
  ·by_cases e2:b=m
   ·subst e2;exact .inl hgetm
   ·rw[hgetb b e1 e2]
    cases h:vget X b with
    |none=>exact .inl rfl
    |some o=>exact .inr ⟨o,o,rfl,rfl,rfl,rfl,hpa _ e1 e2,rfl,fun c' v' h' l' e=>⟨v',h',l',e,rfl,.inr ⟨rfl,fun h=>⟨h,fun j=>⟨rfl,hpa _ e1 e2⟩⟩⟩⟩⟩
 refine⟨hr.build (fun b=>b=a\/b=m) hxt (fun b hb=>hgetb b (fun e=>hb (.inl e)) (fun e=>hb (.inr e))) (fun p hb=>hpa p (fun e=>hb (.inl e)) (fun e=>hb (.inr e))) (fun p z hb hz=> ?_) (fun b o hb ho=> ?_) (fun p z hb hz=> ?_) (fun p z hb hz=> ?_) (fun p q z hb hb' hz hz'=> ?_) (fun z hz=> ?_) (by simp),hxt⟩
 ·rw[YEb (fun e=> ?_)]
  subst e
  have:=hr.inj _ _ _ hz hp
  subst this;exact hb (.inl rfl)
 ·rcases hb with rfl|rfl
  ·rw[hgeta]at ho;injection ho with ho;subst ho
   obtain⟨x',el',h1,h2,h3,h4,h5,h6⟩:=hr.obj b _ ha
   rw[hp]at h1;injection h1 with h1;subst h1
   rw[hx]at h2;injection h2 with h2;injection h2 with h2;injection h2 with _ h2;subst h2
   have hxl:=(YD4.1 hx).1
   refine⟨x,_,hma.trans hp,YEe hxl,h3,by simp[h4],fun e he=> ?_,fun j e v k1 k2 _=> ?_⟩
   ·rcases List.mem_or_eq_of_mem_set he with he|rfl
    ·exact h5 e he
    ·rfl
   ·by_cases hj:j=i
    ·subst hj
     rw[YEe (by omega)]at k1 k2
     injection k1 with k1;injection k2 with k2;subst k1;subst k2
     obtain⟨y',el2,g1,g2,g3,g4⟩:=hr.obj m _ hm
     rw[hpm]at g1;injection g1 with g1;subst g1
     refine .inl ⟨y,el2,by simp,rfl,?_,g4⟩
     rw[YEb (fun e=>by subst e;have:=hr.inj _ _ _ hp hpm;injection this with this;exact hne this.symm)]
     exact g2
    ·rw[YEb (Ne.symm hj)]at k1 k2
     have hnj:hole≠some j:=by rcases hh with rfl|rfl<;>simp;omega
     have hpj:(if Pos.n b j= .n b i then some y else if(Pos.n b j).of=m then none else pl (.n b j))=pl (.n b j):=by
      rw[if_neg (fun e=>by injection e with _ e;exact hj e),if_neg (fun e=>hne e.symm)]
     rcases h6 j e v k1 k2 hnj with⟨y',el2,g1,g2,g3,g4⟩| ⟨g1,g2,g3⟩
     ·refine .inl ⟨y',el2,hpj.trans g1,g2,?_,g4⟩
      rw[YEb (fun e=>by subst e;have:=hr.inj _ _ _ hp g1;cases this)];exact g3
     ·exact .inr ⟨hpj.trans g1,g2,g3⟩
  ·rw[hgetm]at ho;cases ho
 ·skip
  split at hz
  ·rename_i e;subst e;exact⟨_,_,_,_,hgeta,by simpa using hi,by simp⟩
  ·split at hz
   ·cases hz
   ·rename_i e1 e2
    have hpa':p.of=a:=hb.resolve_right e2
    rcases Ycr hr ha hz hpa' with rfl| ⟨j,rfl,k1,k2⟩
    ·exact⟨_,hgeta⟩
    ·exact⟨_,_,_,_,hgeta,by simpa using k1,by simp⟩
 ·skip
  split at hz
  ·injection hz with hz;subst hz;exact .inl ⟨_,hpm,.inr rfl⟩
  ·split at hz
   ·cases hz
   ·exact .inl ⟨p,hz,hb⟩
 ·skip
  have key: ∀{p:Pos} {z},(if p= .n a i then some y else if p.of=m then none else pl p)=some z->p= .n a i/\z=y\/(p≠ .n a i/\p.of≠m/\pl p=some z):=by
   intro p z h
   split at h
   ·injection h with h;exact .inl ⟨by assumption,h.symm⟩
   ·split at h
    ·cases h
    ·exact .inr ⟨by assumption,by assumption,h⟩
  rcases key hz with⟨rfl,rfl⟩| ⟨h1,h2,h3⟩<;>rcases key hz' with⟨rfl,h4⟩| ⟨h4,h5,h6⟩
  ·rfl
  ·have:=hr.inj _ _ _ h6 hpm;subst this;exact absurd rfl h5
  ·subst h4;have:=hr.inj _ _ _ h3 hpm;subst this;exact absurd rfl h2
  ·exact hr.inj _ _ _ h3 h6
 ·rw[YEb (fun e=>hr.nfr _ _ hp (by rw[e];exact hz))]
theorem Yix(hr:HRel Fr H0 X pl H){a i:Nat}{c:Cs}{ver:Nat}{l:List (List c.den)}(ha:vget X a=some (.fm c ver none l)){H':Heap}(hlen:H'.length=H.length)
  (hH: ∀z,pl (.n a i)≠some z->H'[z]?=H[z]?):
  HRel Fr H0 (vset X a (some (.fm c ver (some i) l))) (plS pl (.n a i) none) H'/\Ext X pl (vset X a (some (.fm c ver (some i) l))) (plS pl (.n a i) none):=by
 have hal:=Yag ha
 have hgeta:vget (vset X a (some (.fm c ver (some i) l))) a=some (.fm c ver (some i) l):=Yap _ hal
 have hgetb: ∀b,b≠a->vget (vset X a (some (.fm c ver (some i) l))) b=vget X b:=fun b h=>Yak _ (Ne.symm h)
 have hpb: ∀p:Pos,p≠ .n a i->plS pl (.n a i) none p=pl p:=fun p h=>by unfold plS;rw[if_neg h]
 have hpo: ∀p:Pos,p.of≠a->p≠ .n a i:=fun p h e=>by subst e;exact h rfl
 have hz0: ∀{p:Pos} {z},plS pl (.n a i) none p=some z->p≠ .n a i/\pl p=some z:=by
  intro p z h
  unfold plS at h
  split at h
  ·cases h
  ·exact⟨by assumption,h⟩
 have hxt:Ext X pl (vset X a (some (.fm c ver (some i) l))) (plS pl (.n a i) none):=by
  refine⟨by rw[Yae];exact YEI _,fun b hb=> ?_⟩
  by_cases e1:b=a
  ·subst e1
   exact .inr ⟨_,_,ha,hgeta,rfl,rfl,hpb _ (fun e=>by cases e),rfl,fun c' v' h' l' e=>by
    injection e with e0 e1 e2 e3
    subst e0;subst e1;subst e2;have e3:=eq_of_heq e3;subst e3
    exact⟨ver,none,l,rfl,rfl,.inr ⟨rfl,fun h=>by cases h⟩⟩⟩
  ·rw[hgetb b e1]
   cases h:vget X b with
   |none=>exact .inl rfl
   |some o=>exact .inr ⟨o,o,rfl,rfl,rfl,rfl,hpb _ (hpo _ e1),rfl,fun c' v' h' l' e=>⟨v',h',l',e,rfl,.inr ⟨rfl,fun h=>⟨h,fun j=>⟨rfl,hpb _ (hpo _ e1)⟩⟩⟩⟩⟩
 have hHp: ∀{p:Pos} {z},p≠ .n a i->pl p=some z->H'[z]?=H[z]?:=fun h1 h2=>hH _ (fun e=>h1 (hr.inj _ _ _ h2 e))
 refine⟨hr.build (fun b=>b=a) hxt (fun b hb=>hgetb b hb) (fun p hb=>hpb p (hpo p hb)) (fun p z hb hz=>hHp (hpo p hb) hz) (fun b o hb ho=> ?_) (fun p z hb hz=> ?_) (fun p z hb hz=>.inl ⟨p,(hz0 hz).2,hb⟩) (fun p q z _ _ hz hz'=>hr.inj _ _ _ (hz0 hz).2 (hz0 hz').2) (fun z hz=> ?_) (by omega),hxt⟩
 ·subst hb
  rw[hgeta]at ho;injection ho with ho;subst ho
  obtain⟨x',el,h1,h2,h3,h4,h5,h6⟩:=hr.obj b _ ha
  refine⟨x',el,(hpb _ (fun e=>by cases e)).trans h1,(hHp (fun e=>by cases e) h1).trans h2,h3,h4,h5,fun j e v k1 k2 k3=> ?_⟩
  have hj:(Pos.n b j:Pos)≠ .n b i:=fun e=>by injection e with _ e;subst e;exact k3 rfl
  rcases h6 j e v k1 k2 (by simp)with⟨y',el2,g1,g2,g3,g4⟩| ⟨g1,g2,g3⟩
  ·exact .inl ⟨y',el2,(hpb _ hj).trans g1,g2,(hHp hj g1).trans g3,g4⟩
  ·exact .inr ⟨(hpb _ hj).trans g1,g2,g3⟩
 ·obtain⟨h1,h2⟩:=hz0 hz
  rcases Ycr hr ha h2 hb with rfl| ⟨j,rfl,k1,_⟩
  ·exact⟨_,hgeta⟩
  ·exact⟨_,_,_,_,hgeta,k1,fun e=>h1 (by injection e with e;rw[e])⟩
 ·refine hH z (fun e=>hr.nfr _ _ e hz)
theorem YpR(hr:HRel Fr H0 X pl H){a i y:Nat}{c:Cs}{ver:Nat}{l:List (List c.den)}(ha:vget X a=some (.fm c ver none l))(hi:i<l.length)(hp:pl (.n a i)=some y){lm:List c.den}(hlm:lm.length=(l.getD i []).length)
  {el:List (List AV)} (hrow:Rows el c lm):
  HRel Fr H0 (vset X a (some (.fm c ver none (l.set i lm)))) pl (H.set y (some ⟨c.width,el⟩))/\Ext X pl (vset X a (some (.fm c ver none (l.set i lm)))) pl:=by
 have hal:=Yag ha
 have hgeta:vget (vset X a (some (.fm c ver none (l.set i lm)))) a=some (.fm c ver none (l.set i lm)):=Yap _ hal
 have hgetb: ∀b,b≠a->vget (vset X a (some (.fm c ver none (l.set i lm)))) b=vget X b:=fun b h=>Yak _ (Ne.symm h)
 have hgd:l.getD i []=l[i]:=by simp[List.getD,hi]
 have hxt:Ext X pl (vset X a (some (.fm c ver none (l.set i lm)))) pl:=by
  refine⟨by rw[Yae];exact YEI _,fun b hb=> ?_⟩
  by_cases e1:b=a
  ·subst e1
   exact .inr ⟨_,_,ha,hgeta,by simp[elN],by simp[lenO],rfl,rfl,fun c' v' h' l' e=>by
    injection e with e0 e1 e2 e3
    subst e0;subst e1;subst e2;have e3:=eq_of_heq e3;subst e3
    refine⟨ver,none,l,rfl,by simp,.inr ⟨rfl,fun _=>⟨rfl,fun j=>⟨?_,rfl⟩⟩⟩⟩
    by_cases hj:j=i
    ·subst hj;rw[<-hlm];simp[List.getD,hi]
    ·simp[List.getD,YEb (Ne.symm hj)]⟩
  ·rw[hgetb b e1]
   cases h:vget X b with
   |none=>exact .inl rfl
   |some o=>exact .inr ⟨o,o,rfl,rfl,rfl,rfl,rfl,rfl,fun c' v' h' l' e=>⟨v',h',l',e,rfl,.inr ⟨rfl,fun h=>⟨h,fun j=>⟨rfl,rfl⟩⟩⟩⟩⟩
 have hne: ∀{p:Pos} {z},p≠ .n a i->pl p=some z->(H.set y (some ⟨c.width,el⟩))[z]?=H[z]?:=fun h1 h2=>by
  rw[YEb (fun e=>h1 (by subst e;exact hr.inj _ _ _ h2 hp))]
 refine⟨hr.build (fun b=>b=a) hxt (fun b hb=>hgetb b hb) (fun p _=>rfl) (fun p z hb hz=>hne (fun e=>by subst e;exact hb rfl) hz) (fun b o hb ho=> ?_) (fun p z hb hz=> ?_) (fun p z hb hz=>.inl ⟨p,hz,hb⟩) (fun p q z _ _ hz hz'=>hr.inj _ _ _ hz hz') (fun z hz=> ?_) (by simp),hxt⟩
 ·subst hb
  rw[hgeta]at ho;injection ho with ho;subst ho
  obtain⟨x',el0,h1,h2,h3,h4,h5,h6⟩:=hr.obj b _ ha
  refine⟨x',el0,h1,(hne (fun e=>by cases e) h1).trans h2,h3,by simpa using h4,h5,fun j e v k1 k2 k3=> ?_⟩
  by_cases hj:j=i
  ·subst hj
   rw[YEe hi]at k2;injection k2 with k2;subst k2
   rcases h6 j e l[j] k1 (YD7 hi) (by simp)with⟨y',el2,g1,g2,g3,g4⟩| ⟨g1,_⟩
   ·rw[hp]at g1;injection g1 with g1;subst g1
    exact .inl ⟨y,el,hp,by rw[g2,hlm,hgd],YEe (YD4.1 g3).1,hrow⟩
   ·rw[hp]at g1;cases g1
  ·rw[YEb (Ne.symm hj)]at k2
   have hpj:(Pos.n b j:Pos)≠ .n b i:=fun e=>by injection e with _ e;exact hj e
   rcases h6 j e v k1 k2 (by simp)with⟨y',el2,g1,g2,g3,g4⟩| ⟨g1,g2,g3⟩
   ·exact .inl ⟨y',el2,g1,g2,(hne hpj g1).trans g3,g4⟩
   ·exact .inr ⟨g1,g2,g3⟩
 ·rcases Ycr hr ha hz hb with rfl| ⟨j,rfl,k1,_⟩
  ·exact⟨_,hgeta⟩
  ·exact⟨_,_,_,_,hgeta,by simpa using k1,by simp⟩
 ·rw[YEb (fun e=>hr.nfr _ _ hp (by rw[e];exact hz))]
end
end Go.Abs
namespace Go.Abs
open Go Go.RowKit
def er3(ps:List (Nat×Nat×VOpd)):List (Nat×Nat×Opd):=ps.map fun p=>(p.1,p.2.1,p.2.2.er)
def er2(ps:List (Nat×VOpd)):List (Nat×Opd):=ps.map fun p=>(p.1,p.2.er)
def kstr:Option IntKind->Bool
 |none=>true
 |some _=>false
def mzA(ag:Bool)(V:Cs):AV:=
 match ag with
 |true=>.agg (V.zeros.map zc)
 |false=>match V.zeros.map zc with
  | [x]=>x
  |_=>.u
def VOp.aop:VOp->AOp
 | .mm mx xs=>.pv (.mm mx) (xs.map VOpd.er)
 | .emz x lo hi mx=>.pv .emz [x.er,lo.er,hi.er,mx.er]
 | .mv x=>.mv x.er
 | .pick c a b=>.pick c.er a.er b.er
 | .box x=>.box x.er
 | .alloc z=>.alloc (z.map K1.val)
 | .build z ps=>.build (z.map K1.val) (er3 ps)
 | .bsl c n ps=>.bsl c.width c.zeros n (er2 ps)
 | .load g n x=>.load g n x.er
 | .loadR g n x=>.loadR g n x.er
 | .store n x y=>.store n x.er y.er
 | .nilc x=>.nilc x.er
 | .bin op x y=>.bin op x.er y.er
 | .beq ng x y=>.beq ng x.er y.er
 | .eqa ng ks x y=>.eqa ng ks x.er y.er
 | .not x=>.not x.er
 | .neg x=>.neg x.er
 | .conv k x=>.conv k x.er
 | .cvs x=>.cvs x.er
 | .fad off x=>.fad off x.er
 | .fld g off n x=>.fld g off n x.er
 | .iad es x i=>.iad es x.er i.er
 | .iada es n x i=>.iada es n x.er i.er
 | .idx x i=>.idx x.er i.er
 | .slcS x lo hi=>.slcS x.er (lo.map VOpd.er) (hi.map VOpd.er)
 | .slcR es x lo hi=>.slcR es x.er (lo.map VOpd.er) (hi.map VOpd.er)
 | .ext x i=>.ext x.er i
 | .len x=>.len x.er
 | .lenS x=>.lenS x.er
 | .app c _ s x=>.app c.width s.er x.er
 | .mksl c _ n cp=>.mksl c.width c.zeros n.er cp.er
 | .call f xs=>.call f (xs.map VOpd.er)
 | .dyn x xs=>.dyn x.er (xs.map VOpd.er)
 | .dynP x xs=>.dynP x.er (xs.map VOpd.er)
 | .callN f xs d=>.callN f (xs.map VOpd.er) d
 | .mkf f xs=>.mkf f (xs.map VOpd.er)
 | .lit c xs=>.px (.lit c.width) (xs.map VOpd.er)
 | .appD c s x=>.px (.appD c.width) [s.er,x.er]
 | .apps s x=>.px .apps [s.er,x.er]
 | .appb s x=>.px .appb [s.er,x.er]
 | .appDb s x=>.px .appDb [s.er,x.er]
 | .litb xs=>.px .litb (xs.map VOpd.er)
 | .bstr x=>.px .bstr [x.er]
 | .bld=>.px .bld []
 | .sbyt x=>.pv .sbyt [x.er]
 | .isp ng x=>.pv (.isp ng) [x.er]
 | .add64 xs=>.pv .add64 (xs.map VOpd.er)
 | .sub64 xs=>.pv .sub64 (xs.map VOpd.er)
 | .mkm o t V ag=>.px (.mkm (knd ag) (mapC o t V).width) []
 | .mget o t V ag ok m k=>.px (.mget (kstr o) (knd ag) ok) [m.er,k.er,.c (mzA ag (.cons t V))]
 | .mput o t V ag m k v=>.px (.mput (kstr o) (knd ag) (mapC o t V).width) [m.er,k.er,v.er]
 | .mdel o t V m k=>.px (.mdel (kstr o) (mapC o t V).width) [m.er,k.er]
 | .mlen m=>.px .mlen [m.er]
 | .mrng m=>.px .mrng [m.er]
 | .ment _ _ _ _ it=>.px .ment [it.er]
 | .mnxt it=>.px .mnxt [it.er]
 | .cpy c d s=>.px (.cpy c.width) [d.er,s.er]
section
variable{Fr:Nat->Prop}{H0:Heap}{X:YzS}{pl:Pl}{H:Heap}{β:Type}{r:β}{env:VEnv}{ae:Env}
def Nxt(Fr:Nat->Prop)(H0:Heap)(X:YzS)(pl:Pl)(H:Heap)(v:TV)(X':YzS)(va:AV)(us:List Upd):Prop:=
 ∃pl',TR X' pl' v va/\ (HRel Fr H0 X' pl' (Yz5 H us)/\Ext X pl X' pl')/\
  (X'.length=X.length\/(X'.length=X.length+1/\pl' (.m X.length)=some H.length))
theorem Nxt.same(hr:HRel Fr H0 X pl H){v:TV}{va:AV}(h:TR X pl v va):Nxt Fr H0 X pl H v X va []:=⟨pl,h,⟨hr,Ext.refl _ _⟩,.inl rfl⟩
theorem Yat{x:Nat}{o:AObj}(h:H[x]?=some (some o)){K:AObj->Prop}(hk:K o):objK (hf H) x K:=⟨o,h,hk⟩
theorem Ycs{c:Cs}{l:List c.den}{i:Nat}(h:i<l.length):l[i]?=some (getI c l i):=by
 rw[YD7 h];simp[getI,List.getD,h]
theorem strA_len'(s:ByteArray):(strA s).length=s.size:=by
 simp[strA,YaN]
theorem YpS{s:ByteArray}{i:Nat}(h:i<s.size):(strA s)[i]?=some [.v (.int .u8 (YzT s i))]:=by
 have h':i<s.data.size:=h
 unfold strA YzT
 rw[YaN,YD6,Array.getElem?_toList,YFe h',YE9,YFa,YFe h']
 rfl
theorem Yiy{g:Bool}{n:Nat}{x:TV}{ax:AV}{K:TV->YzS->Option β}(h:YCl g n x X K=some r)(hx:TR X pl x ax)(hr:HRel Fr H0 X pl H){KA:AV->Prop}
  (hk: ∀v va,K v X=some r->TR X pl v va->KA va):
  (match(generalizing:=false) ax with
   | .rp cs=>YAA g n cs KA
   | .ptr a i j=>objK (hf H) a fun o=> ∃e,o.el[i]?=some e/\YAA g n (e.drop j) KA
   |_=>False):=by
 have lc: ∀{cs:List TV} {as:List AV},(match YA5 g n cs with|some a=>K a X|none=>none)=some r->CT X pl cs as->YAA g n as KA:=by
  intro cs as h hc
  split at h
  ·rename_i v hv;exact Yir hv hc (fun a ha=>hk v a h ha)
  ·cases h
 unfold YCl at h
 split at h
 ·cases hx with
  |rp _ as hl hc=>exact lc h ⟨hl,hc⟩
 ·rename_i a i j
  cases ho:vget X a with
  |none=>simp[ho]at h
  |some o=>
   cases hx with
   |ptrD _ _ _ _ hd=>rw[ho]at hd;cases hd
   |ptr _ _ _ x o' ho' hi hp=>
    rw[ho]at ho';injection ho' with ho';subst ho'
    have hob:=hr.obj a o ho
    rw[ho]at h
    cases o with
    |sq c l=>
     obtain⟨x',el,h1,h2,h3,h4⟩:=hob
     rw[hp]at h1;injection h1 with h1;subst h1
     simp only[elN]at hi
     have hie:i<el.length:=by rw[h4.1];exact hi
     refine Yat h2 ⟨el[i],YD7 hie,lc h ?_⟩
     exact(Ybx c _ (h4.2 i _ _ (YD7 hie) (Ycs hi))).drop j
    |st cs=>
     obtain⟨x',e,h1,h2,h3,h4⟩:=hob
     rw[hp]at h1;injection h1 with h1;subst h1
     simp only at h
     obtain⟨e1,e2⟩:=Yab h
     have:=YEJ e1;subst this
     exact Yat h2 ⟨e,rfl,lc e2 (h4.drop j)⟩
    |sb s=>
     obtain⟨x',h1,h2⟩:=hob
     rw[hp]at h1;injection h1 with h1;subst h1
     simp only[elN]at hi
     simp only at h
     split at h
     ·exact Yat h2 ⟨_,YpS hi,_,rfl,hk _ _ h (.i _ _)⟩
     ·cases h
    |fm c ver hole l=>
     obtain⟨x',el,h1,h2,h3,h4,h5,h6⟩:=hob
     rw[hp]at h1;injection h1 with h1;subst h1
     simp only at h
     split at h
     ·simp only[elN]at hi
      have hie:i<el.length:=by omega
      refine Yat h2 ⟨el[i],YD7 hie,?_⟩
      have hgd:l.getD i []=l[i]:=by simp[List.getD,hi]
      rcases h6 i _ _ (YD7 hie) (YD7 hi) (by simp)with⟨y,el',g1,g2,g3,g4⟩| ⟨g1,g2,g3⟩
      ·rw[g2]
       exact⟨_,rfl,hk _ _ h (by rw[<-hgd];exact .sub a ver i y c l ho hi g1)⟩
      ·rw[g3]
       exact⟨_,rfl,hk _ _ h (.sube a ver i c l ho hi g1 (hgd.trans g2))⟩
     ·cases h
 ·rename_i a ver i k j
  split at h
  ·rename_i c ver' l ho
   obtain⟨e1,e2⟩:=Yab h
   have:=YEJ e1;subst this
   cases hx with
   |ptiD _ _ _ _ _ _ hd=>
    obtain⟨c',v',h',l',e,hd⟩:=hd _ ho
    injection e with e0 e1 e2 e3
    subst e1;subst e2
    rcases hd with hd| ⟨_,hd⟩
    ·omega
    ·exact absurd rfl hd
   |pti _ _ _ _ _ y c' l' ho' hi hkk hp=>
    rw[ho]at ho';injection ho' with ho';injection ho' with e0 _ _ e3
    subst e0;have e3:=eq_of_heq e3;subst e3
    obtain⟨x',el,h1,h2,h3,h4,h5,h6⟩:=hr.obj a _ ho
    have hie:i<el.length:=by omega
    have hgd:l.getD i []=l[i]:=by simp[List.getD,hi]
    rcases h6 i _ _ (YD7 hie) (YD7 hi) (by simp)with⟨y',el',g1,g2,g3,g4⟩| ⟨g1,_⟩
    ·rw[hp]at g1;injection g1 with g1;subst g1
     rw[hgd]at hkk
     have hke:k<el'.length:=by rw[g4.1];exact hkk
     refine Yat g3 ⟨el'[k],YD7 hke,lc e2 ?_⟩
     rw[hgd]
     exact(Ybx c _ (g4.2 k _ _ (YD7 hke) (Ycs hkk))).drop j
    ·rw[hp]at g1;cases g1
  ·cases h
 ·cases h
theorem Ybe{a i j:Nat}{ax:AV}{o:VObj}(ho:vget X a=some o)(h:TR X pl (.ptr a i j) ax): ∃x,ax= .ptr x i j/\pl (.m a)=some x/\i<elN o:=by
 cases h with
 |ptrD _ _ _ _ hd=>rw[ho]at hd;cases hd
 |ptr _ _ _ x o' ho' hi hp=>rw[ho]at ho';injection ho' with ho';subst ho';exact⟨x,rfl,hp,hi⟩
theorem Yam{a:Nat}{ax:AV}{o:VObj}(ho:vget X a=some o)(h:TR X pl (.ref a) ax): ∃x n,ax= .ref x 0 n/\pl (.m a)=some x/\lenO o=some n:=by
 cases h with
 |refD _ _ hd=>rw[ho]at hd;cases hd
 |ref _ x o' n ho' hn hp=>rw[ho]at ho';injection ho' with ho';subst ho';exact⟨x,n,rfl,hp,hn⟩
theorem YbM{a:Nat}{m:Int}{ax:AV}{o:VObj}(ho:vget X a=some o)(h:TR X pl (.pre a m) ax): ∃x n,ax= .ref x 0 m.toNat/\pl (.m a)=some x/\lenO o=some n/\0<=m/\m.toNat<=n:=by
 cases h with
 |preD _ _ _ hd=>rw[ho]at hd;cases hd
 |pre _ x _ o' n ho' hn hp h0 hm=>rw[ho]at ho';injection ho' with ho';subst ho';exact⟨x,n,rfl,hp,hn,h0,hm⟩
theorem Ye5{a ver i:Nat}{ax:AV}{c:Cs}{l:List (List c.den)}(ho:vget X a=some (.fm c ver none l))(h:TR X pl (.sub a ver i) ax):
  i<l.length/\ ((∃y,ax= .ref y 0 (l.getD i []).length/\pl (.n a i)=some y)\/(ax= .emp/\pl (.n a i)=none/\l.getD i []=[])):=by
 cases h with
 |subD _ _ _ _ hd=>
  obtain⟨c',v',h',l',e,hd⟩:=hd _ ho
  injection e with e0 e1 e2 e3
  subst e1;subst e2
  rcases hd with hd| ⟨_,hd⟩
  ·omega
  ·exact absurd rfl hd
 |sub _ _ _ y c' l' ho' hi hp=>
  rw[ho]at ho';injection ho' with ho';injection ho' with e0 _ _ e3
  subst e0;have e3:=eq_of_heq e3;subst e3
  exact⟨hi,.inl ⟨y,rfl,hp⟩⟩
 |sube _ _ _ c' l' ho' hi hp h0=>
  rw[ho]at ho';injection ho' with ho';injection ho' with e0 _ _ e3
  subst e0;have e3:=eq_of_heq e3;subst e3
  exact⟨hi,.inr ⟨rfl,hp,h0⟩⟩
theorem Ye6{a ver i k j:Nat}{ax:AV}{c:Cs}{l:List (List c.den)}(ho:vget X a=some (.fm c ver none l))(h:TR X pl (.pti a ver i k j) ax):
  ∃y,ax= .ptr y k j/\i<l.length/\k< (l.getD i []).length/\pl (.n a i)=some y:=by
 cases h with
 |ptiD _ _ _ _ _ _ hd=>
  obtain⟨c',v',h',l',e,hd⟩:=hd _ ho
  injection e with e0 e1 e2 e3
  subst e1;subst e2
  rcases hd with hd| ⟨_,hd⟩
  ·omega
  ·exact absurd rfl hd
 |pti _ _ _ _ _ y c' l' ho' hi hkk hp=>
  rw[ho]at ho';injection ho' with ho';injection ho' with e0 _ _ e3
  subst e0;have e3:=eq_of_heq e3;subst e3
  exact⟨y,rfl,hi,hkk,hp⟩
theorem Yiz{el:List (List AV)}{c:Cs}{l:List c.den}{i:Nat}{e:List AV}{v:c.den}(h:Rows el c l)(he:CC e (c.enc v)):Rows (el.set i e) c (l.set i v):=by
 refine⟨by simp[h.1],fun k f w h1 h2=> ?_⟩
 by_cases hk:k=i
 ·subst hk
  have hkl:=(YD4.1 h1).1
  simp only[List.length_set]at hkl
  rw[YEe hkl]at h1
  rw[YEe (by rw[<-h.1];exact hkl)]at h2
  injection h1 with h1;injection h2 with h2;subst h1;subst h2;exact he
 ·rw[YEb (Ne.symm hk)]at h1 h2
  exact h.2 k f w h1 h2
theorem YbN{y:TV}{ay:AV}{cs:List TV}(hc:YzZ X y=some cs)(hy:TR X pl y ay){K:List AV->Prop}(hk: ∀as,CT X pl cs as->K as):YAY ay K:=by
 obtain⟨as,h1,h2⟩:=Ye4 hc hy
 exact⟨as,h1,hk as h2⟩
theorem YpT{n:Nat}{x y:TV}{ax ay:AV}{K:TV->YzS->Option β}(h:YBV n x y X K=some r)(hx:TR X pl x ax)(hy:TR X pl y ay)(hr:HRel Fr H0 X pl H){KA:AV->List Upd->Prop}
  (hk: ∀v X' va us,K v X'=some r->Nxt Fr H0 X pl H v X' va us->KA va us):
  (match(generalizing:=false) ax with
   | .ptr a i j=>objK (hf H) a fun o=> ∃e,o.el[i]?=some e/\YAY ay fun cs=>cs.length=n/\j+n<=e.length/\KA .u [.set a (some ⟨o.es,o.el.set i (splice e j cs)⟩)]
   |_=>False):=by
 unfold YBV at h
 split at h
 ·rename_i a i j
  cases ho:vget X a with
  |none=>simp[ho]at h
  |some o=>
   obtain⟨x,rfl,hp,hi⟩:=Ybe ho hx
   have hob:=hr.obj a o ho
   rw[ho]at h
   cases o with
   |sq c l=>
    obtain⟨x',el,h1,h2,h3,h4⟩:=hob
    rw[hp]at h1;injection h1 with h1;subst h1
    simp only[elN]at hi h
    have hie:i<el.length:=by rw[h4.1];exact hi
    split at h
    ·rename_i cs hcs
     obtain⟨e1,e2⟩:=Yab h
     simp only[YE3]at e1
     split at e2
     ·rename_i e' he'
      have hcc:=h4.2 i _ _ (YD7 hie) (Ycs hi)
      refine Yat h2 ⟨el[i],YD7 hie,YbN hcs hy (fun as has=>⟨by rw[<-has.1];exact YEJ e1.1,?_,?_⟩)⟩
      ·rw[hcc.1,Ybd];simpa using e1.2
      ·refine hk .u _ .u _ e2 ⟨pl,.u _,?_,.inl (Yae _ _ _)⟩
       exact Ybw hr ho hp _ (by simp[elN]) (by simp[lenO]) (fun _ _ _ _ e=>by cases e) (fun _ _ _ _ e=>by cases e) (fun hx=>⟨x,_,hp,YEe (YD4.1 h2).1,h3,Yiz h4 (Ycp he' ((Ybx c _ hcc).spl has j))⟩)
     ·cases e2
    ·cases h
   |st ds=>
    obtain⟨x',e,h1,h2,h3,h4⟩:=hob
    rw[hp]at h1;injection h1 with h1;subst h1
    simp only at h
    split at h
    ·rename_i cs hcs
     obtain⟨e1,e2⟩:=Yab h
     simp only[YE3]at e1
     have:=YEJ e1.1.1;subst this
     have hn:=YEJ e1.1.2
     have hjn:j+n<=ds.length:=by simpa using e1.2
     refine Yat h2 ⟨e,rfl,YbN hcs hy (fun as has=>⟨by rw[<-has.1];exact hn,by rw[<-h4.1];exact hjn,?_⟩)⟩
     refine hk .u _ .u _ e2 ⟨pl,.u _,?_,.inl (Yae _ _ _)⟩
     have hlen:(spl ds j cs).length=ds.length:=by simp[spl];omega
     exact Ybw hr ho hp _ rfl rfl (fun _ _ _ _ e=>by cases e) (fun _ _ _ _ e=>by cases e) (fun hx=>⟨x,splice e j as,hp,by rw[hlen];exact YEe (YD4.1 h2).1,by rw[hlen];exact h3,(h4.spl has j).ext hx⟩)
    ·cases h
   |sb s=>cases h
   |fm c ver hole l=>
    obtain⟨x',el,h1,h2,h3,h4,h5,h6⟩:=hob
    rw[hp]at h1;injection h1 with h1;subst h1
    simp only[elN]at hi h
    obtain⟨e1,e2⟩:=Yab h
    simp only[YE3]at e1
    have hj:=YEJ e1.1;subst hj
    have hn:=YEJ e1.2;subst hn
    split at e2
    ·rename_i m
     cases hma:YEH m a with
     |true=>rw[hma,cond_true]at e2;cases e2
     |false=>
      rw[hma,cond_false]at e2
      have hne:m≠a:=fun e=>by subst e;rw[YET]at hma;cases hma
      split at e2
      ·rename_i c' lm hm
       split at e2
       ·rename_i lm' hlm
        obtain⟨rfl,rfl⟩:=YaM hlm
        obtain⟨y,n,rfl,hpm,hn⟩:=Yam hm hy
        simp only[lenO]at hn;injection hn with hn;subst hn
        have hie:i<el.length:=by omega
        have hel1:=h5 _ (List.getElem_mem hie)
        have key:(hole=none\/hole=some i)->K .u (vset (vset X m none) a (some (.fm c' (ver+1) none (l.set i lm))))=some r->
          objK (hf H) x fun o=> ∃e,o.el[i]?=some e/\YAY (.ref y 0 lm.length) fun cs=>cs.length=1/\0+1<=e.length/\KA .u [.set x (some ⟨o.es,o.el.set i (splice e 0 cs)⟩)]:=by
         intro hh hK
         obtain⟨pl',k1,k2⟩:=YpQ hr ho hp hm hpm hne hi hh h2
         refine Yat h2 ⟨el[i],YD7 hie,[.ref y 0 lm.length],rfl,rfl,by omega,?_⟩
         have:splice el[i] 0 [AV.ref y 0 lm.length]=[.ref y 0 lm.length]:=by
          unfold splice;rw[List.drop_of_length_le (by simp;omega)];simp
         rw[this]
         exact hk .u _ .u _ hK ⟨pl',.u _,⟨k1,k2⟩,.inl (by rw[Yae,Yae])⟩
        split at e2
        ·exact key (.inl rfl) e2
        ·rename_i hh
         obtain⟨e3,e4⟩:=Yai e2
         subst e3
         exact key (.inr rfl) e4
       ·cases e2
      ·cases e2
    ·cases e2
 ·rename_i a ver i k j
  split at h
  ·rename_i c ver' l ho
   split at h
   ·rename_i cs hcs
    obtain⟨e1,e2⟩:=Yab h
    simp only[YE3]at e1
    have:=YEJ e1.1.1;subst this
    obtain⟨y',rfl,hi,hkk,hp⟩:=Ye6 ho hx
    split at e2
    ·rename_i e' he'
     obtain⟨x',el,h1,h2,h3,h4,h5,h6⟩:=hr.obj a _ ho
     have hie:i<el.length:=by omega
     have hgd:l.getD i []=l[i]:=by simp[List.getD,hi]
     rcases h6 i _ _ (YD7 hie) (YD7 hi) (by simp)with⟨y2,el',g1,g2,g3,g4⟩| ⟨g1,_⟩
     ·rw[hp]at g1;injection g1 with g1;subst g1
      rw[<-hgd]at g4
      have hke:k<el'.length:=by rw[g4.1];exact hkk
      have hcc:=g4.2 k _ _ (YD7 hke) (Ycs hkk)
      refine Yat g3 ⟨el'[k],YD7 hke,YbN hcs hy (fun as has=>⟨by rw[<-has.1];exact YEJ e1.1.2,?_,?_⟩)⟩
      ·rw[hcc.1,Ybd];simpa using e1.2
      ·refine hk .u _ .u _ e2 ⟨pl,.u _,?_,.inl (Yae _ _ _)⟩
       exact YpR hr ho hi hp (by simp) (Yiz g4 (Ycp he' ((Ybx c _ hcc).spl has j)))
     ·rw[hp]at g1;cases g1
    ·cases e2
   ·cases h
  ·cases h
 ·cases h
theorem YpU{es:Nat}{x i:TV}{ax ai:AV}{K:TV->YzS->Option β}(h:viad es x i X K=some r)(hx:TR X pl x ax)(hi:TR X pl i ai)(hr:HRel Fr H0 X pl H){KA:AV->Prop}
  (hk: ∀v va,K v X=some r->TR X pl v va->KA va):
  intK ai fun n=>(match(generalizing:=false) ax with
   | .rd es' l=>es'=es/\0<=n/\ ∃e,l[n.toNat]?=some e/\KA (.rp e)
   | .ref a off len=>objK (hf H) a fun o=>wd o.es=es/\off+len<=o.el.length/\0<=n/\n<len/\KA (.ptr a (off+n.toNat) 0)
   |_=>False):=by
 unfold viad at h
 split at h
 ·rename_i k n
  cases hi
  refine⟨k,n,rfl,?_⟩
  split at h
  ·rename_i c v
   obtain⟨e1,e2⟩:=Yab h
   obtain⟨e3,e4⟩:=Yai e2
   have hw:=YEJ e1
   have hlt:n.toNat<v.length:=by omega
   cases hx with
   |l _ _ _ hc=>
    rcases YaL hc with⟨rfl,hb⟩| ⟨l0,rfl,hl,hcc⟩
    ·have:=congrArg List.length hb;simp at this;subst this;simp at hlt
    ·simp only[YEk]at hl
     have hlt0:n.toNat<l0.length:=by omega
     refine⟨hw,e3.1,l0[n.toNat],YD7 hlt0,hk _ _ e4 ?_⟩
     have:=Ybx (X:=X) (pl:=pl) c (getI c v n.toNat) (hcc _ _ _ (YD7 hlt0) (by rw[YD6,Ycs hlt];rfl))
     exact .rp _ _ this.1 this.2
  ·rename_i a
   split at h
   ·rename_i c l ho
    obtain⟨e1,e2⟩:=Yab h
    obtain⟨e3,e4⟩:=Yai e2
    obtain⟨x,n',rfl,hp,hn⟩:=Yam ho hx
    simp only[lenO]at hn;injection hn with hn;subst hn
    obtain⟨x',el,h1,h2,h3,h4⟩:=hr.obj a _ ho
    rw[hp]at h1;injection h1 with h1;subst h1
    refine Yat h2 ⟨(YaB h3).trans (YEJ e1),by simp[h4.1],e3.1,e3.2,hk _ _ e4 ?_⟩
    rw[YEM]
    exact .ptr a _ 0 x _ ho (by simp only[elN];omega) hp
   ·rename_i c ver hole l ho
    obtain⟨e1,e2⟩:=Yab h
    obtain⟨e3,e4⟩:=Yai e2
    obtain⟨x,n',rfl,hp,hn⟩:=Yam ho hx
    simp only[lenO]at hn;injection hn with hn;subst hn
    obtain⟨x',el,h1,h2,h3,h4,_⟩:=hr.obj a _ ho
    rw[hp]at h1;injection h1 with h1;subst h1
    refine Yat h2 ⟨(YEJ e1).symm,by simp[h4],e3.1,e3.2,hk _ _ e4 ?_⟩
    rw[YEM]
    exact .ptr a _ 0 x _ ho (by simp only[elN];omega) hp
   ·rename_i s ho
    obtain⟨e1,e2⟩:=Yab h
    obtain⟨e3,e4⟩:=Yai e2
    obtain⟨x,n',rfl,hp,hn⟩:=Yam ho hx
    simp only[lenO]at hn;injection hn with hn;subst hn
    obtain⟨x',h1,h2⟩:=hr.obj a _ ho
    rw[hp]at h1;injection h1 with h1;subst h1
    refine Yat h2 ⟨(YEJ e1).symm,by rw[YEM,strA_len'];exact YEI _,e3.1,e3.2,hk _ _ e4 ?_⟩
    rw[YEM]
    exact .ptr a _ 0 x _ ho (by simp only[elN];omega) hp
   ·cases h
  ·rename_i a m
   split at h
   ·rename_i c l ho
    obtain⟨e1,e2⟩:=Yab h
    obtain⟨e3,e4⟩:=Yai e2
    obtain⟨x,n',rfl,hp,hn,h0,hm⟩:=YbM ho hx
    simp only[lenO]at hn;injection hn with hn;subst hn
    obtain⟨x',el,h1,h2,h3,h4⟩:=hr.obj a _ ho
    rw[hp]at h1;injection h1 with h1;subst h1
    refine Yat h2 ⟨(YaB h3).trans (YEJ e1),by rw[h4.1,YEM];exact hm,e3.1,by omega,hk _ _ e4 ?_⟩
    rw[YEM]
    exact .ptr a _ 0 x _ ho (by simp only[elN];omega) hp
   ·cases h
  ·rename_i a ver i
   split at h
   ·rename_i c ver' l ho
    obtain⟨e1,e2⟩:=Yab h
    obtain⟨e3,e4⟩:=Yai e2
    simp only[YE3]at e1
    have:=YEJ e1.2;subst this
    obtain⟨hi,h1| ⟨rfl,_,h0⟩⟩:=Ye5 ho hx
    ·obtain⟨y,rfl,hp⟩:=h1
     obtain⟨x',el,k1,k2,k3,k4,k5,k6⟩:=hr.obj a _ ho
     have hie:i<el.length:=by omega
     have hgd:l.getD i []=l[i]:=by simp[List.getD,hi]
     rcases k6 i _ _ (YD7 hie) (YD7 hi) (by simp)with⟨y2,el',g1,g2,g3,g4⟩| ⟨g1,_⟩
     ·rw[hp]at g1;injection g1 with g1;subst g1
      rw[<-hgd]at g4
      refine Yat g3 ⟨(YaB k3).trans (YEJ e1.1),by simp[g4.1],e3.1,e3.2,hk _ _ e4 ?_⟩
      rw[YEM]
      exact .pti a _ i _ 0 y c l ho hi (by omega) hp
     ·rw[hp]at g1;cases g1
    ·rw[h0]at e3;simp at e3;omega
   ·cases h
  ·cases h
 ·cases h
end
end Go.Abs
namespace Go.Abs
open Go Go.RowKit
section
variable{Fr:Nat->Prop}{H0:Heap}{X:YzS}{pl:Pl}{H:Heap}
theorem YpV(hr:HRel Fr H0 X pl H){a x m y:Nat}{c:Cs}{ver:Nat}{l:List (List c.den)}{lm:List c.den}{el:List (List AV)}
  (ha:vget X a=some (.fm c ver none l)) (hp:pl (.m a)=some x) (hm:vget X m=some (.sq c lm)) (hpm:pl (.m m)=some y) (hne:m≠a) (hx:H[x]?=some (some ⟨1,el⟩)):
  ∃pl',HRel Fr H0 (vset (vset X m none) a none++[some (.fm c 0 none (l++[lm]))]) pl' (H.set x none++[some ⟨1,el++[[.ref y 0 lm.length]]⟩])/\
   Ext X pl (vset (vset X m none) a none++[some (.fm c 0 none (l++[lm]))]) pl'/\pl' (.m X.length)=some H.length:=by
 have hal:=Yag ha
 have hml:=Yag hm
 have hXl:(vset (vset X m none) a none).length=X.length:=by rw[Yae,Yae]
 have hxl:=(YD4.1 hx).1
 obtain⟨x',el2,h1,h2,h3,h4,h5,h6⟩:=hr.obj a _ ha
 rw[hp]at h1;injection h1 with h1;subst h1
 rw[hx]at h2;injection h2 with h2;injection h2 with h2;injection h2 with _ h2;subst h2
 obtain⟨y',elm,g1,g2,g3,g4⟩:=hr.obj m _ hm
 rw[hpm]at g1;injection g1 with g1;subst g1
 let pl':Pl:=fun q=>if q.of=X.length then(match q with| .m _=>some H.length| .n _ i=>if i<l.length then pl (.n a i)else if i=l.length then some y else none)else if q.of=a\/q.of=m then none else pl q
 have hgn:vget (vset (vset X m none) a none++[some (.fm c 0 none (l++[lm]))]) X.length=some (.fm c 0 none (l++[lm])):=by
  have:=Yal (vset (vset X m none) a none) (some (.fm c 0 none (l++[lm])))
  rwa[hXl]at this
 have hga: ∀b,b≠X.length->(b=a\/b=m)->vget (vset (vset X m none) a none++[some (.fm c 0 none (l++[lm]))]) b=none:=fun b h1 h2=>by
  by_cases e:b=a
  ·subst e;rw[Yaq (by rw[hXl];exact hal)];exact Yap _ (by rw[Yae];exact hal)
  ·have e2:=h2.resolve_left e
   subst e2
   rw[Yaq (by rw[hXl];exact hml),Yak _ (Ne.symm e)];exact Yap _ hml
 have hgb: ∀b,b≠X.length->b≠a->b≠m->vget (vset (vset X m none) a none++[some (.fm c 0 none (l++[lm]))]) b=vget X b:=fun b h0 h1 h2=>by
  by_cases hb:b<X.length
  ·rw[Yaq (by rw[hXl];exact hb),Yak _ (Ne.symm h1),Yak _ (Ne.symm h2)]
  ·rw[Yan (by simp[hXl];omega),Yan (by omega)]
 have hpb: ∀q:Pos,q.of≠X.length->q.of≠a->q.of≠m->pl' q=pl q:=fun q h0 h1 h2=>by
  show(if _ then _ else if _ then _ else _)=_
  rw[if_neg h0,if_neg (fun h=>h.elim h1 h2)]
 have hpn: ∀q:Pos,q.of≠X.length->(q.of=a\/q.of=m)->pl' q=none:=fun q h0 h1=>by
  show(if _ then _ else if _ then _ else _)=_
  rw[if_neg h0,if_pos h1]
 have hpm':pl' (.m X.length)=some H.length:=if_pos rfl
 have hpi: ∀i,pl' (.n X.length i)=if i<l.length then pl (.n a i)else if i=l.length then some y else none:=fun i=>if_pos rfl
 have hxt:Ext X pl (vset (vset X m none) a none++[some (.fm c 0 none (l++[lm]))]) pl':=by
  refine⟨by simp[hXl],fun b hb=> ?_⟩
  have hbn:b≠X.length:=by omega
  by_cases e1:b=a\/b=m
  ·exact .inl (hga b hbn e1)
  ·rw[hgb b hbn (fun e=>e1 (.inl e)) (fun e=>e1 (.inr e))]
   have hh: ∀p:Pos,p.of=b->pl' p=pl p:=fun p h=>hpb p (by rw[h];exact hbn) (by rw[h];exact fun e=>e1 (.inl e)) (by rw[h];exact fun e=>e1 (.inr e))
   cases h:vget X b with
   |none=>exact .inl rfl
   |some o=>exact .inr ⟨o,o,rfl,rfl,rfl,rfl,hh _ rfl,rfl,fun c' v' h' l' e=>⟨v',h',l',e,rfl,.inr ⟨rfl,fun h=>⟨h,fun j=>⟨rfl,hh _ rfl⟩⟩⟩⟩⟩
 have hnew: ∀{p:Pos} {z},(p.of=X.length\/p.of=a\/p.of=m)->pl' p=some z->(p= .m X.length/\z=H.length)\/(∃i,p= .n X.length i/\i<l.length/\pl (.n a i)=some z)\/(p= .n X.length l.length/\z=y):=by
  intro p z h1 h2
  by_cases e:p.of=X.length
  ·cases p with
   |m b=>
    simp only[Pos.of]at e;subst e
    rw[hpm']at h2;injection h2 with h2;exact .inl ⟨rfl,h2.symm⟩
   |n b i=>
    simp only[Pos.of]at e;subst e
    rw[hpi]at h2
    split at h2
    ·exact .inr (.inl ⟨i,rfl,by assumption,h2⟩)
    ·split at h2
     ·rename_i e;subst e;injection h2 with h2;exact .inr (.inr ⟨rfl,h2.symm⟩)
     ·cases h2
  ·rw[hpn p e (h1.resolve_left e)]at h2;cases h2
 have hne2: ∀{p:Pos} {z},p≠ .m a->pl p=some z->(H.set x none++[some ⟨1,el++[[AV.ref y 0 lm.length]]⟩])[z]?=H[z]?:=fun h1 h2=>by
  rw[YD9 (by simpa using hr.bd h2),YEb (fun e=>h1 (by subst e;exact hr.inj _ _ _ h2 hp))]
 refine⟨pl',hr.build (fun b=>b=X.length\/b=a\/b=m) hxt (fun b hb=>hgb b (fun e=>hb (.inl e)) (fun e=>hb (.inr (.inl e))) (fun e=>hb (.inr (.inr e)))) (fun p hb=>hpb p (fun e=>hb (.inl e)) (fun e=>hb (.inr (.inl e))) (fun e=>hb (.inr (.inr e))))
  (fun p z hb hz=>hne2 (fun e=>by subst e;exact hb (.inr (.inl rfl))) hz) (fun b o hb ho=> ?_) (fun p z hb hz=> ?_) (fun p z hb hz=> ?_) (fun p q z hb hb' hz hz'=> ?_) (fun z hz=> ?_) (by simp),hxt,hpm'⟩
 ·by_cases e:b=X.length
  ·subst e
   rw[hgn]at ho;injection ho with ho;subst ho
   refine⟨H.length,el++[[.ref y 0 lm.length]],hpm',by rw[YEc (by simp)];simp,h3,by simp[h4],fun e he=> ?_,fun i e v k1 k2 _=> ?_⟩
   ·rcases YEw.1 he with he|he
    ·exact h5 e he
    ·simp only[YEl]at he;subst he;rfl
   ·rw[hpi]
    by_cases hi:i<l.length
    ·rw[YD9 (by omega)]at k1
     rw[YD9 hi]at k2
     rw[if_pos hi]
     rcases h6 i e v k1 k2 (by simp)with⟨y2,el3,q1,q2,q3,q4⟩| ⟨q1,q2,q3⟩
     ·exact .inl ⟨y2,el3,q1,q2,(hne2 (fun e=>by cases e) q1).trans q3,q4⟩
     ·exact .inr ⟨q1,q2,q3⟩
    ·have hil:i=l.length:=by
      have:=(YD4.1 k2).1;simp at this;omega
     subst hil
     rw[<-h4]at k1
     rw[YEc (YEI _)]at k1 k2
     simp only[Nat.sub_self,List.getElem?_cons_zero]at k1 k2
     injection k1 with k1;injection k2 with k2;subst k1;subst k2
     rw[if_neg (by omega),if_pos rfl]
     exact .inl ⟨y,elm,rfl,rfl,(hne2 (fun e=>by injection e with e;exact hne e) hpm).trans g2,g4⟩
  ·rw[hga b e (hb.resolve_left e)]at ho;cases ho
 ·rcases hnew hb hz with⟨rfl,_⟩| ⟨i,rfl,h,_⟩| ⟨rfl,_⟩
  ·exact⟨_,hgn⟩
  ·exact⟨_,_,_,_,hgn,by simp;omega,by simp⟩
  ·exact⟨_,_,_,_,hgn,by simp,by simp⟩
 ·rcases hnew hb hz with⟨rfl,rfl⟩| ⟨i,rfl,h,hz'⟩| ⟨rfl,rfl⟩
  ·exact .inr (YEI _)
  ·exact .inl ⟨_,hz',.inr (.inl rfl)⟩
  ·exact .inl ⟨_,hpm,.inr (.inr rfl)⟩
 ·rcases hnew hb hz with⟨rfl,rfl⟩| ⟨i,rfl,h,k1⟩| ⟨rfl,rfl⟩<;>rcases hnew hb' hz' with⟨rfl,k2⟩| ⟨j,rfl,h',k2⟩| ⟨rfl,k2⟩
  ·rfl
  ·have:=hr.bd k2;omega
  ·have:=hr.bd hpm;omega
  ·have:=hr.bd k1;omega
  ·have:=hr.inj _ _ _ k1 k2;injection this with _ this;rw[this]
  ·subst k2;have:=hr.inj _ _ _ k1 hpm;cases this
  ·have:=hr.bd hpm;omega
  ·have:=hr.inj _ _ _ k2 hpm;cases this
  ·rfl
 ·have:=(hr.fr z hz).1;have:=hr.le
  rw[YD9 (by simp;omega),YEb (fun e=>hr.nfr _ _ hp (by rw[e];exact hz))]
theorem YpW(hr:HRel Fr H0 X pl H){m y:Nat}{c:Cs}{lm:List c.den}(hm:vget X m=some (.sq c lm))(hpm:pl (.m m)=some y):
  ∃pl',HRel Fr H0 (vset X m none++[some (.fm c 0 none [lm])]) pl' (H++[some ⟨1,[[.ref y 0 lm.length]]⟩])/\
   Ext X pl (vset X m none++[some (.fm c 0 none [lm])]) pl'/\pl' (.m X.length)=some H.length:=by
 have hml:=Yag hm
 have hXl:(vset X m none).length=X.length:=Yae _ _ _
 obtain⟨y',elm,g1,g2,g3,g4⟩:=hr.obj m _ hm
 rw[hpm]at g1;injection g1 with g1;subst g1
 let pl':Pl:=fun q=>if q= .m X.length then some H.length else if q= .n X.length 0 then some y else if q.of=m then none else pl q
 have hgn:vget (vset X m none++[some (.fm c 0 none [lm])]) X.length=some (.fm c 0 none [lm]):=by
  have:=Yal (vset X m none) (some (.fm c 0 none [lm]))
  rwa[hXl]at this
 have hgm:vget (vset X m none++[some (.fm c 0 none [lm])]) m=none:=by
  rw[Yaq (by rw[hXl];exact hml)];exact Yap _ hml
 have hgb: ∀b,b≠X.length->b≠m->vget (vset X m none++[some (.fm c 0 none [lm])]) b=vget X b:=fun b h0 h2=>by
  by_cases hb:b<X.length
  ·rw[Yaq (by rw[hXl];exact hb),Yak _ (Ne.symm h2)]
  ·rw[Yan (by simp[hXl];omega),Yan (by omega)]
 have hpb: ∀q:Pos,q.of≠X.length->q.of≠m->pl' q=pl q:=fun q h0 h2=>by
  show(if _ then _ else if _ then _ else if _ then _ else _)=_
  rw[if_neg (fun e=>h0 (by rw[e];rfl)),if_neg (fun e=>h0 (by rw[e];rfl)),if_neg h2]
 have hpm':pl' (.m X.length)=some H.length:=if_pos rfl
 have hp0:pl' (.n X.length 0)=some y:=by
  simp[pl']
 have hxt:Ext X pl (vset X m none++[some (.fm c 0 none [lm])]) pl':=by
  refine⟨by simp[hXl],fun b hb=> ?_⟩
  have hbn:b≠X.length:=by omega
  by_cases e1:b=m
  ·subst e1;exact .inl hgm
  ·rw[hgb b hbn e1]
   have hh: ∀p:Pos,p.of=b->pl' p=pl p:=fun p h=>hpb p (by rw[h];exact hbn) (by rw[h];exact e1)
   cases h:vget X b with
   |none=>exact .inl rfl
   |some o=>exact .inr ⟨o,o,rfl,rfl,rfl,rfl,hh _ rfl,rfl,fun c' v' h' l' e=>⟨v',h',l',e,rfl,.inr ⟨rfl,fun h=>⟨h,fun j=>⟨rfl,hh _ rfl⟩⟩⟩⟩⟩
 have hnew: ∀{p:Pos} {z},(p.of=X.length\/p.of=m)->pl' p=some z->(p= .m X.length/\z=H.length)\/(p= .n X.length 0/\z=y):=by
  intro p z h1 h2
  by_cases e:p= .m X.length
  ·subst e;rw[hpm']at h2;injection h2 with h2;exact .inl ⟨rfl,h2.symm⟩
  ·by_cases e2:p= .n X.length 0
   ·subst e2;rw[hp0]at h2;injection h2 with h2;exact .inr ⟨rfl,h2.symm⟩
   ·have h2':(if p.of=m then none else pl p)=some z:=by
     simpa only[pl',e,e2,if_false]using h2
    split at h2'
    ·cases h2'
    ·rename_i e3
     have e4:=h1.resolve_right e3
     have:=hr.dead (p:=p) (by rw[e4];exact Yan (YEI _))
     rw[this]at h2';cases h2'
 have hne2: ∀{p:Pos} {z},pl p=some z->(H++[some ⟨1,[[AV.ref y 0 lm.length]]⟩])[z]?=H[z]?:=fun h2=>by
  rw[YD9 (hr.bd h2)]
 refine⟨pl',hr.build (fun b=>b=X.length\/b=m) hxt (fun b hb=>hgb b (fun e=>hb (.inl e)) (fun e=>hb (.inr e))) (fun p hb=>hpb p (fun e=>hb (.inl e)) (fun e=>hb (.inr e)))
  (fun p z hb hz=>hne2 hz) (fun b o hb ho=> ?_) (fun p z hb hz=> ?_) (fun p z hb hz=> ?_) (fun p q z hb hb' hz hz'=> ?_) (fun z hz=> ?_) (by simp),hxt,hpm'⟩
 ·by_cases e:b=X.length
  ·subst e
   rw[hgn]at ho;injection ho with ho;subst ho
   refine⟨H.length,[[.ref y 0 lm.length]],hpm',by rw[YEc (YEI _)];simp,g3,by simp,fun e he=>by simp at he;subst he;rfl,fun i e v k1 k2 _=> ?_⟩
   cases i with
   |zero=>
    simp at k1 k2;subst k1;subst k2
    exact .inl ⟨y,elm,hp0,rfl,(hne2 hpm).trans g2,g4⟩
   |succ i=>simp at k1
  ·have:=hb.resolve_left e;subst this;rw[hgm]at ho;cases ho
 ·rcases hnew hb hz with⟨rfl,_⟩| ⟨rfl,_⟩
  ·exact⟨_,hgn⟩
  ·exact⟨_,_,_,_,hgn,by simp,by simp⟩
 ·rcases hnew hb hz with⟨rfl,rfl⟩| ⟨rfl,rfl⟩
  ·exact .inr (YEI _)
  ·exact .inl ⟨_,hpm,.inr rfl⟩
 ·rcases hnew hb hz with⟨rfl,rfl⟩| ⟨rfl,rfl⟩<;>rcases hnew hb' hz' with⟨rfl,k2⟩| ⟨rfl,k2⟩
  ·rfl
  ·have:=hr.bd hpm;omega
  ·have:=hr.bd hpm;omega
  ·rfl
 ·have:=(hr.fr z hz).1;have:=hr.le
  rw[YD9 (by omega)]
variable{β:Type}{r:β}
theorem YiA{c:Cs}{x:TV}{ax:AV}{m:List c.den}(h:srcV c x=some m)(hx:TR X pl x ax):(ax= .emp/\m=[])\/ ∃l,ax= .rd c.width l/\Rows l c m:=by
 unfold srcV at h
 split at h
 ·rename_i c' v
  obtain⟨rfl,rfl⟩:=YaM h
  cases hx with
  |l _ _ _ hc=>
   rcases YaL hc with⟨rfl,hb⟩| ⟨l0,rfl,hl,hcc⟩
   ·exact .inl ⟨rfl,by simpa using hb⟩
   ·exact .inr ⟨l0,rfl,by simpa using hl,fun i e w h1 h2=>hcc i e _ h1 (by rw[YD6,h2];rfl)⟩
 ·injection h with h;subst h;cases hx;exact .inl ⟨rfl,rfl⟩
 ·rename_i els
  cases hx with
  |lt es _ as hl h0 hz hz' hc=>
   have hce:CE X pl els as:=⟨hl,fun i e f h1 h2=>⟨by rw[hz e (YD5 h1),hz' f (YD5 h2)],fun j c a h3 h4=>hc i j e f c a h1 h2 h3 h4⟩⟩
   have hr:=Ycq h hce
   have hw:es=c.width:=by
    cases els with
    |nil=>exact absurd rfl h0
    |cons e els=>
     simp only[YA4]at h
     split at h
     ·rename_i x y hx hy;rw[<-Yiq hx,hz e (YEg ..)]
     ·cases h
   exact .inr ⟨as,by rw[hw],hr⟩
 ·cases h
theorem Ydu{c:Cs}{x:TV}{ax s:AV}{m:List c.den}{es:Nat}(hes:c.width=es)(h:srcV c x=some m)(hx:TR X pl x ax){h':HF}{nid:Nat}{KA:AV->List Upd->Prop}
  (hk: ∀l,Rows l c m->(∀e∈l,e.length=es)->appK es s l h' nid KA):
  (match(generalizing:=false) ax with| .rd es' l=>es'=es/\appK es s l h' nid KA| .emp=>appK es s [] h' nid KA|_=>False):=by
 rcases YiA h hx with⟨rfl,rfl⟩| ⟨l,rfl,hl⟩
 ·exact hk [] ⟨rfl,fun i e v h=>by simp at h⟩ (fun e h=>by simp at h)
 ·refine⟨hes,hk l hl (fun e he=> ?_)⟩
  obtain⟨i,hi⟩:=YEi.1 he
  have hil:=(YD4.1 hi).1
  have him:i<m.length:=by rw[<-hl.1];exact hil
  rw[(hl.2 i e m[i] hi (YD7 him)).1,Ybd,hes]
theorem Yby{a b:List (List AV)}{c:Cs}{l m:List c.den}(h:Rows a c l)(k:Rows b c m):Rows (a++b) c (l++m):=by
 refine⟨by simp[h.1,k.1],fun i e v h1 h2=> ?_⟩
 by_cases hi:i<l.length
 ·rw[YD9 (by rw[h.1];exact hi)]at h1
  rw[YD9 hi]at h2
  exact h.2 i e v h1 h2
 ·rw[YEc (by rw[h.1];omega),h.1]at h1
  rw[YEc (by omega)]at h2
  exact k.2 _ e v h1 h2
theorem YpX{c:Cs}{w:Nat}{s x:TV}{as ax:AV}{K:TV->YzS->Option β}(h:vapp c w s x X K=some r)(hs:TR X pl s as)(hx:TR X pl x ax)(hr:HRel Fr H0 X pl H){KA:AV->List Upd->Prop}
  (hk: ∀v X' va us,K v X'=some r->Nxt Fr H0 X pl H v X' va us->KA va us):
  (match(generalizing:=false) ax with| .rd es' l=>es'=c.width/\appK c.width as l (hf H) H.length KA| .emp=>appK c.width as [] (hf H) H.length KA|_=>False):=by
 have push: ∀{c':Cs} {m:List c'.den} {l:List (List AV)},0<c'.width->Rows l c' m->K (.ref X.length) (X++[some (.sq c' m)])=some r->KA (.ref H.length 0 l.length) [.push (some ⟨c'.width,l⟩)]:=by
  intro c' m l h0 hl hK
  have hn:=Yal X (some (.sq c' m))
  obtain⟨k1,k2⟩:=Yar hr (.sq c' m) ⟨c'.width,l⟩ (fun _=>⟨H.length,l,by unfold plS;rw[if_pos rfl],by simp,h0,hl⟩)
  exact hk _ _ _ _ hK ⟨_,.ref X.length H.length _ _ hn (by simp[lenO,hl.1]) (by unfold plS;rw[if_pos rfl]),⟨k1,k2⟩,.inr ⟨by simp[Yae],by unfold plS;rw[if_pos rfl]⟩⟩
 unfold vapp at h
 split at h
 ·rename_i a
  split at h
  ·rename_i c' l ho
   split at h
   ·rename_i m hm
    obtain⟨e1,e2⟩:=Yab h
    obtain⟨e3,e4⟩:=Yai e2
    have hw:=YEJ e1
    obtain⟨x,n,rfl,hp,hn⟩:=Yam ho hs
    simp only[lenO]at hn;injection hn with hn;subst hn
    obtain⟨x',el,h1,h2,h3,h4⟩:=hr.obj a _ ho
    rw[hp]at h1;injection h1 with h1;subst h1
    refine Ydu hw.symm hm hx (fun L hL hLe=>Yat h2 ⟨rfl,h4.1.symm,hw.symm,by rw[h4.1,hL.1];exact e3,hLe,?_⟩)
    obtain⟨k1,k2⟩:=Yco hr ho hp
    have hXl:(vset X a none).length=X.length:=Yae _ _ _
    have hHl:(H.set x none).length=H.length:=by simp
    obtain⟨k3,k4⟩:=Yar k1 (.sq c' (l++m)) ⟨c'.width,el++L⟩ (fun _=>⟨H.length,el++L,by unfold plS;rw[if_pos rfl,hHl],by rw[<-hHl];simp,h3,Yby h4 hL⟩)
    rw[hXl,hHl]at k3 k4
    rw[hw]
    refine hk _ _ _ _ e4 ⟨_,?_,⟨k3,k2.trans k4⟩,.inr ⟨by simp[Yae],by unfold plS;rw[if_pos rfl]⟩⟩
    refine .ref X.length H.length (.sq c' (l++m)) _ ?_ (by simp[lenO,h4.1,hL.1]) (by unfold plS;rw[if_pos rfl])
    have:=Yal (vset X a none) (some (.sq c' (l++m)));rwa[hXl]at this
   ·cases h
  ·rename_i c' ver l ho
   split at h
   ·rename_i m
    cases hb:(YEH m a|| !(YEH c.width 1))with
    |true=>rw[hb,cond_true]at h;cases h
    |false=>
     rw[hb,cond_false]at h
     simp only[Bool.or_eq_false_iff,Bool.not_eq_false']at hb
     have hw:=YEJ hb.2
     have hne:m≠a:=fun e=>by have:=hb.1;subst e;rw[YET]at this;cases this
     split at h
     ·rename_i c2 lm hm
      split at h
      ·rename_i lm' hlm
       obtain⟨rfl,rfl⟩:=YaM hlm
       obtain⟨e3,e4⟩:=Yai h
       obtain⟨x,n,rfl,hp,hn⟩:=Yam ho hs
       simp only[lenO]at hn;injection hn with hn;subst hn
       obtain⟨x',el,h1,h2,h3,h4,_⟩:=hr.obj a _ ho
       rw[hp]at h1;injection h1 with h1;subst h1
       cases hx with
       |lt es _ asx hl h0 hz hz' hc=>
        cases asx with
        |nil=>simp at hl
        |cons f fs=>
         have hfs:fs=[]:=by simp at hl;exact hl
         subst hfs
         have hes:es=1:=(hz [TV.ref m] (YEg ..)).symm
         have hf1:=hz' f (YEg ..)
         rw[hes]at hf1
         match f,hf1 with
         | [av],_=>
           have hav:=hc 0 0 [.ref m] [av] (.ref m) av rfl rfl rfl rfl
           obtain⟨y,n',rfl,hpm,hn'⟩:=Yam hm hav
           simp only[lenO]at hn';injection hn' with hn';subst hn'
           refine⟨by rw[hes,hw],Yat h2 ⟨rfl,h4.symm,by rw[hw],by rw[h4];exact e3,fun e he=>by simp at he;subst he;rw[hw];rfl,?_⟩⟩
           obtain⟨pl',k1,k2,k3⟩:=YpV hr ho hp hm hpm hne h2
           rw[hw]
           refine hk _ _ _ _ e4 ⟨pl',?_,⟨k1,k2⟩,.inr ⟨by simp[Yae],k3⟩⟩
           have hXl:(vset (vset X m none) a none).length=X.length:=by rw[Yae,Yae]
           refine .ref X.length H.length (.fm c2 0 none (l++[lm])) _ ?_ (by simp[lenO,h4]) k3
           have:=Yal (vset (vset X m none) a none) (some (.fm c2 0 none (l++[lm])));rwa[hXl]at this
      ·cases h
     ·cases h
   ·cases h
  ·cases h
 ·rename_i c0
  cases hs
  split at h
  ·obtain⟨e1,e2⟩:=Yab h
   split at e2
   ·rename_i m hm
    obtain⟨e3,e4⟩:=Yai e2
    refine Ydu rfl hm hx (fun L hL hLe=>⟨by rw[hL.1];exact e3,hLe,fun h0=>absurd (show 0<c.width by simpa using e1) (by rw[h0];exact Nat.lt_irrefl 0),push (by simpa using e1) hL e4⟩)
   ·cases e2
  ·cases h
  ·split at h
   ·rename_i c' m
    split at h
    ·rename_i c2 lm hm
     split at h
     ·rename_i lm' hlm
      obtain⟨rfl,rfl⟩:=YaM hlm
      cases hx with
      |lt es _ asx hl h0 hz hz' hc=>
       cases asx with
       |nil=>simp at hl
       |cons f fs=>
        have hfs:fs=[]:=by simp at hl;exact hl
        subst hfs
        have hes:es=1:=(hz [TV.ref m] (YEg ..)).symm
        have hf1:=hz' f (YEg ..)
        rw[hes]at hf1
        match f,hf1 with
        | [av],_=>
          have hav:=hc 0 0 [.ref m] [av] (.ref m) av rfl rfl rfl rfl
          obtain⟨y,n',rfl,hpm,hn'⟩:=Yam hm hav
          simp only[lenO]at hn';injection hn' with hn';subst hn'
          refine⟨by rw[hes];rfl,by simp[maxEl],fun e he=>by simp at he;subst he;rfl,fun h0=>by simp,?_⟩
          obtain⟨pl',k1,k2,k3⟩:=YpW hr hm hpm
          refine hk _ _ _ _ h ⟨pl',?_,⟨k1,k2⟩,.inr ⟨by simp[Yae],k3⟩⟩
          have hXl:(vset X m none).length=X.length:=Yae _ _ _
          refine .ref X.length H.length (.fm c2 0 none [lm]) _ ?_ rfl k3
          have:=Yal (vset X m none) (some (.fm c2 0 none [lm]));rwa[hXl]at this
     ·cases h
    ·cases h
   ·cases h
 ·rename_i a ver i
  split at h
  ·rename_i c' ver' l ho
   split at h
   ·rename_i m hm
    obtain⟨e1,e2⟩:=Yab h
    obtain⟨e3,e4⟩:=Yai e2
    simp only[YE3]at e1
    have:=YEJ e1.2;subst this
    have hw:=YEJ e1.1
    obtain⟨hi,hsub⟩:=Ye5 ho hs
    obtain⟨x',el,k1,k2,k3,k4,k5,k6⟩:=hr.obj a _ ho
    have hie:i<el.length:=by omega
    have hgd:l.getD i []=l[i]:=by simp[List.getD,hi]
    have hXl:(vset X a (some (.fm c' ver (some i) l))).length=X.length:=Yae _ _ _
    have hgn:=fun o=>Yal (vset X a (some (.fm c' ver (some i) l))) o
    rw[hXl]at hgn
    rcases hsub with⟨y,rfl,hp⟩| ⟨rfl,hp,h0⟩
    ·rcases k6 i _ _ (YD7 hie) (YD7 hi) (by simp)with⟨y2,el',g1,g2,g3,g4⟩| ⟨g1,_⟩
     ·rw[hp]at g1;injection g1 with g1;subst g1
      rw[<-hgd]at g4
      refine Ydu hw.symm hm hx (fun L hL hLe=>Yat g3 ⟨rfl,g4.1.symm,hw.symm,by rw[g4.1,hL.1];exact e3,hLe,?_⟩)
      have hHl:(H.set y none).length=H.length:=by simp
      obtain⟨q1,q2⟩:=Yix hr (i:=i) ho hHl (fun z hz=>YEb (fun e=>hz (by rw[hp,e])))
      obtain⟨q3,q4⟩:=Yar q1 (.sq c' (l.getD i []++m)) ⟨c'.width,el'++L⟩ (fun _=>⟨H.length,el'++L,by unfold plS;rw[if_pos rfl,hHl],by rw[<-hHl];simp,k3,Yby g4 hL⟩)
      rw[hXl,hHl]at q3 q4
      rw[hw]
      exact hk _ _ _ _ e4 ⟨_,.ref X.length H.length (.sq c' (l.getD i []++m)) _ (hgn _) (by simp[lenO,g4.1,hL.1]) (by unfold plS;rw[if_pos rfl]),⟨q3,q2.trans q4⟩,.inr ⟨by simp[Yae],by unfold plS;rw[if_pos rfl]⟩⟩
     ·rw[hp]at g1;cases g1
    ·refine Ydu hw.symm hm hx (fun L hL hLe=>⟨by rw[h0]at e3;simpa[hL.1]using e3,hLe,fun h0=>absurd h0 (by rw[hw];omega),?_⟩)
     obtain⟨q1,q2⟩:=Yix hr (i:=i) ho rfl (fun z _=>rfl)
     obtain⟨q3,q4⟩:=Yar q1 (.sq c' (l.getD i []++m)) ⟨c'.width,L⟩ (fun _=>⟨H.length,L,by unfold plS;rw[if_pos rfl],by simp,k3,by rw[h0];exact hL⟩)
     rw[hXl]at q3 q4
     rw[hw]
     exact hk _ _ _ _ e4 ⟨_,.ref X.length H.length (.sq c' (l.getD i []++m)) _ (hgn _) (by simp only[lenO,h0];simp[hL.1]) (by unfold plS;rw[if_pos rfl]),⟨q3,q2.trans q4⟩,.inr ⟨by simp[Yae],by unfold plS;rw[if_pos rfl]⟩⟩
   ·cases h
  ·cases h
 ·cases h
end
end Go.Abs
namespace Go.Abs
open Go Go.RowKit
section
variable{Fr:Nat->Prop}{H0:Heap}{X:YzS}{pl:Pl}{H:Heap}{β:Type}{r:β}{env:VEnv}{ae:Env}
def RowsB(l:List (List AV))(v:List Int):Prop:=l.length=v.length/\ ∀(i:Nat) (e:List AV) (n:Int),l[i]?=some e->v[i]?=some n->e=[.v (.int .u8 n)]
theorem RowsB.rows{l:List (List AV)}{v:List Int}(h:RowsB l v):Rows l U8 v:=by
 refine⟨h.1,fun i e n h1 h2=> ?_⟩
 have:=h.2 i e n h1 h2
 subst this
 exact⟨rfl,fun j x x' h1 h2=>by
  match j,h1,h2 with
  |0,h1,h2=>simp[Cs.enc,Ty.enc,fstP]at h1 h2;subst h1;subst h2;exact .refl _
  |j+1,h1,h2=>simp at h1⟩
theorem RowsB.of{l:List (List AV)}{v:List Int}(h:Rows l U8 v):RowsB l v:=by
 refine⟨h.1,fun i e n h1 h2=> ?_⟩
 have h0:=h.2 i e n h1 h2
 have hl:e.length=1:=h0.1
 match e,hl with
 | [a],_=>
   have ha:=h0.2 0 a _ rfl rfl
   have:a= .v (.int .u8 n):=YaH ha
   rw[this]
theorem RowsB.app{a b:List (List AV)}{l m:List Int}(h:RowsB a l)(k:RowsB b m):RowsB (a++b) (l++m):=RowsB.of (Yby h.rows k.rows)
theorem YaU(s:ByteArray):RowsB (strA s) (strL s):=by
 refine⟨by simp[strA,strL],fun i e v h1 h2=> ?_⟩
 unfold strA at h1
 unfold strL at h2
 rw[YD6,YEW]at h1 h2
 obtain⟨b,hb,rfl⟩:=h1
 obtain⟨b',hb',rfl⟩:=h2
 rw[hb]at hb';injection hb' with hb';subst hb'
 rfl
theorem Ye7: ∀{l:List (List AV)} {v:List Int},RowsB l v->YAw l=some (v.map fun n=>UInt8.ofNat n.toNat)
 | [],v,h=>by
   have:v=[]:=YEf.1 h.1.symm
   subst this;rfl
 |e::l,[],h=>by have:=h.1;simp at this
 |e::l,n::v,h=>by
  have h0:=h.2 0 e n rfl rfl
  subst h0
  have ih:=Ye7 (l:=l) (v:=v) ⟨by have:=h.1;simpa using this,fun i e w h1 h2=>h.2 (i+1) e w (by simpa using h1) (by simpa using h2)⟩
  simp only[YAw,YCj,ih,YD8]
theorem YiB{m:List Int}(h:inB m=true){l:List (List AV)}(hr:RowsB l m):l=strA (Yz3 m):=by
 unfold strA Yz3
 have hd:(⟨(m.map fun n=>UInt8.ofNat n.toNat).toArray⟩:ByteArray).toList=m.map fun n=>UInt8.ofNat n.toNat:=by
  rw[YaN]
 rw[hd]
 refine YED fun i=> ?_
 rw[YD6,YD6]
 cases hl:l[i]? with
 |none=>
  have:m[i]?=none:=by rw[List.getElem?_eq_none_iff]at hl⊢;rw[<-hr.1];exact hl
  rw[this];rfl
 |some e=>
  have hi:=(YD4.1 hl).1
  have him:i<m.length:=by rw[<-hr.1];exact hi
  rw[YD7 him]
  rw[hr.2 i e m[i] hl (YD7 him)]
  unfold inB at h
  have:=YEo.1 h m[i] (List.getElem_mem him)
  simp only[YE3,decide_eq_true_eq]at this
  simp only[YEX,Option.some.injEq,List.cons.injEq,and_true,AV.v.injEq,Value.int.injEq,true_and]
  rw[UInt8.toNat_ofNat']
  omega
theorem YpY(s:ByteArray):YAw (strA s)=some s.toList:=by
 unfold strA
 induction s.toList with
 |nil=>rfl
 |cons b l ih=>
  simp only[YD8,YAw,ih,YCj]
  simp
theorem YpZ(s t:ByteArray):strA (s++t)=strA s++strA t:=by
 unfold strA
 rw[YaN,YaN,YaN,<-YEF]
 simp
theorem Ybz{l:List (List AV)}{c:Cs}{v:List c.den}(h:Rows l c v): ∀e∈l,e.length=c.width:=fun e he=>by
 obtain⟨i,hi⟩:=YEi.1 he
 have hil:=(YD4.1 hi).1
 have him:i<v.length:=by rw[<-h.1];exact hil
 rw[(h.2 i e v[i] hi (YD7 him)).1,Ybd]
theorem Yct{l:List (List AV)}{n:Nat}(h: ∀e∈l,e.length=n):(l.all fun e=>YEH e.length n)=true:=by
 rw[YEo];intro e he;rw[h e he];exact YET n
theorem beqT{n:Nat}:YEH n n=true:=YET n
theorem bleT{n m:Nat}(h:n<=m):YEL n m=true:=Nat.ble_eq_true_of_le h
theorem Ye8{os es:Nat}{l:List (List AV)}{h:HF}{nid:Nat}(h1: ∀e∈l,e.length=es)(h2:l.length<=maxEl)(h3:0<os\/0<l.length):apX os es .emp l h nid=some (⟨os,l⟩,[]):=by
 unfold apX
 rw[Yct h1,cond_true]
 simp only
 have:(YEK 0 os|| !l.isEmpty)=true:=by
  rcases h3 with h3|h3
  ·have:YEK 0 os=true:=by simpa[YEK]using(show 1<=os from h3)
   rw[this];rfl
  ·cases l with
   |nil=>simp at h3
   |cons _ _=>simp
 rw[bleT h2,this,YE8,cond_true]
theorem Ye9{os es a:Nat}{l:List (List AV)}{o:AObj}{nid:Nat}(h1: ∀e∈l,e.length=es)(ho:H[a]?=some (some o))(hes:o.es=os)(h2:o.el.length+l.length<=maxEl):apX os es (.ref a 0 o.el.length) l (hf H) nid=some (⟨os,o.el++l⟩,[.set a none]):=by
 unfold apX
 rw[Yct h1,cond_true]
 simp only[hf,ho,hes,beqT,bleT h2,YE8,cond_true]
theorem Yfa: ∀{cs:List TV} {as:List AV} {els:List (List TV)},YAz X cs=some els->CT X pl cs as-> ∃l,cellsAll as=some l/\CE X pl els l
 | [],as,els,h,hc=>by
   simp only[YAz]at h;injection h with h;subst h
   have:as=[]:=YEf.1 hc.1.symm
   subst this
   exact⟨[],rfl,rfl,fun i e f h=>by simp at h⟩
 |c::cs,as,els,h,hc=>by
  simp only[YAz]at h
  split at h
  ·rename_i x xs hx hxs
   injection h with h;subst h
   obtain⟨a,r,rfl,h1,h2⟩:=hc.inv
   obtain⟨l,h3,h4⟩:=Yfa hxs h2
   obtain⟨b,h5,h6⟩:=Ye4 hx h1
   refine⟨b::l,by simp only[cellsAll,h5,h3],by simp[h4.1],fun i e f g1 g2=> ?_⟩
   cases i with
   |zero=>simp at g1 g2;subst g1;subst g2;exact h6
   |succ i=>exact h4.2 i e f (by simpa using g1) (by simpa using g2)
  ·cases h
theorem rows_coe'{es:Nat}{L:List (List AV)}{c:Cs}{l:List c.den}(h:Rows L c l):Coe (.rd es L) (.rd es (l.map c.enc)):=by
 refine .rd es L _ (by simpa using h.1) (fun i e e' h1 h2=> ?_) (fun i e e' j x x' h1 h2 h3 h4=> ?_)
 ·rw[YD6,YEW]at h2
  obtain⟨v,hv,rfl⟩:=h2
  exact(h.2 i e v h1 hv).1
 ·rw[YD6,YEW]at h2
  obtain⟨v,hv,rfl⟩:=h2
  exact(h.2 i e v h1 hv).2 j x x' h3 h4
theorem Ycu(hr:HRel Fr H0 X pl H):HRel Fr H0 X pl (H++[none]):=by
 refine⟨fun a o ho=> ?_,hr.inj,hr.own,fun x hx=> ?_,hr.nfr,by have:=hr.le;simp;omega⟩
 ·refine(hr.obj a o ho).keep (Ext.refl _ _) (fun _ _=>rfl) (fun p x _ hp=> ?_)
  rw[YD9 (hr.bd hp)]
 ·have h1:=hr.fr x hx
  refine⟨h1.1,?_⟩
  have:=hr.le
  rw[YD9 (by omega)];exact h1.2
theorem YiC(hr:HRel Fr H0 X pl H){a:Nat}{c:Cs}{l:List c.den}(ho:vget X a=some (.sq c l)){s:AV}(hs:TR X pl (.ref a) s):
  ∃x el,pl (.m a)=some x/\H[x]?=some (some ⟨c.width,el⟩)/\0<c.width/\Rows el c l/\s= .ref x 0 el.length:=by
 obtain⟨x,n,rfl,hp,hn⟩:=Yam ho hs
 simp only[lenO]at hn;injection hn with hn;subst hn
 obtain⟨x',el,h1,h2,h3,h4⟩:=hr.obj a _ ho
 rw[hp]at h1;injection h1 with h1;subst h1
 exact⟨x,el,hp,h2,h3,h4,by rw[h4.1]⟩
theorem Ycv{c:Cs}{x:TV}{ax:AV}{m:List c.den}(h:srcV c x=some m)(hx:TR X pl x ax): ∃l,srcA ax=some l/\YAL c.width ax=true/\Rows l c m:=by
 rcases YiA h hx with⟨rfl,rfl⟩| ⟨l,rfl,hl⟩
 ·exact⟨[],rfl,rfl,rfl,fun i e v h=>by simp at h⟩
 ·exact⟨l,rfl,beqT,hl⟩
theorem Yp0{c:Cs}{s x:TV}{as ax:AV}{K:TV->YzS->Option β}(hw0:0<c.width)(h:YCO c s x X K=some r)(hs:TR X pl s as)(hx:TR X pl x ax)(hr:HRel Fr H0 X pl H){KA:AV->List Upd->Prop}
  (hk: ∀v X' va us,K v X'=some r->Nxt Fr H0 X pl H v X' va us->KA va us): ∃v us,xF (.appD c.width) [as,ax] (hf H) H.length=some (v,us)/\KA v us:=by
 unfold YCO at h
 split at h
 ·split at h
  ·rename_i m hm
   obtain⟨h1,h2⟩:=Yai h
   obtain⟨l,k1,k2,k3⟩:=Ycv hm hx
   cases hs with
   |e=>
   refine⟨.rd c.width l,[.push none],?_,hk _ _ _ _ h2 ⟨pl,.l c m _ (rows_coe' k3),⟨?_,Ext.refl _ _⟩,.inl rfl⟩⟩
   ·simp only[xF,k1,k2,cond_true,Ye8 (Ybz k3) (by rw[k3.1];exact h1) (.inl hw0),YEy,show YEK 0 c.width=true by simpa[YEK]using(show 1<=c.width from hw0),YE8]
   ·exact Ycu hr
  ·cases h
 ·rename_i a
  split at h
  ·rename_i c' l ho
   split at h
   ·rename_i m hm
    obtain⟨e1,e2⟩:=Yab h
    obtain⟨h1,h2⟩:=Yai e2
    have hw:=YEJ e1
    obtain⟨lx,k1,k2,k3⟩:=Ycv hm hx
    obtain⟨y,el,hp,hy,h0,hrow,rfl⟩:=YiC hr ho hs
    have hap:=Ye9 (nid:=H.length) (Ybz k3) hy rfl (by show el.length+_<=_;rw[hrow.1,k3.1];exact h1)
    obtain⟨g1,g2⟩:=Yco hr ho hp
    refine⟨.rd c'.width (el++lx),[.set y none,.push none],?_,hk _ _ _ _ h2 ⟨_,.l c' (l++m) _ (rows_coe' (Yby hrow k3)),⟨?_,g2⟩,.inl (Yae _ _ _)⟩⟩
    ·rw[hw]at hw0⊢
     simp only[xF,k1,k2,cond_true,hap,YEx,YEy,show YEK 0 c'.width=true by simpa[YEK]using(show 1<=c'.width from hw0),YE8]
    ·exact Ycu g1
   ·cases h
  ·cases h
 ·cases h
theorem Ydv(hr:HRel Fr H0 X pl H){a:Nat}{b:ByteArray}(ho:vget X a=some (.sb b)){s:AV}(hs:TR X pl (.ref a) s):
  ∃x,pl (.m a)=some x/\H[x]?=some (some ⟨0,strA b⟩)/\s= .ref x 0 (strA b).length:=by
 obtain⟨x,n,rfl,hp,hn⟩:=Yam ho hs
 simp only[lenO]at hn;injection hn with hn;subst hn
 obtain⟨x',h1,h2⟩:=hr.obj a _ ho
 rw[hp]at h1;injection h1 with h1;subst h1
 exact⟨x,hp,h2,by rw[strA_len']⟩
theorem YiD(hr:HRel Fr H0 X pl H)(b:ByteArray):Nxt Fr H0 X pl H (.ref X.length) (X++[some (.sb b)]) (.ref H.length 0 (strA b).length) [.push (some ⟨0,strA b⟩)]:=by
 obtain⟨k1,k2⟩:=Yar hr (.sb b) ⟨0,strA b⟩ (fun _=>⟨H.length,by unfold plS;rw[if_pos rfl],by simp⟩)
 exact⟨_,.ref X.length H.length _ _ (Yal X _) (by simp only[lenO];rw[strA_len']) (by unfold plS;rw[if_pos rfl]),⟨k1,k2⟩,.inr ⟨by simp,by unfold plS;rw[if_pos rfl]⟩⟩
theorem Yp1(hr:HRel Fr H0 X pl H){a y:Nat}{s:VObj}(b:ByteArray)(ho:vget X a=some s)(hp:pl (.m a)=some y)(hf:isFm s=false):
  Nxt Fr H0 X pl H (.ref X.length) (vset X a none++[some (.sb b)]) (.ref H.length 0 (strA b).length) [.set y none,.push (some ⟨0,strA b⟩)]:=by
 obtain⟨g1,g2⟩:=Yco hr ho hp
 have hXl:(vset X a none).length=X.length:=Yae _ _ _
 have hHl:(H.set y none).length=H.length:=by simp
 obtain⟨k3,k4⟩:=Yar g1 (.sb b) ⟨0,strA b⟩ (fun _=>⟨H.length,by unfold plS;rw[if_pos rfl,hHl],by rw[<-hHl];simp⟩)
 rw[hXl,hHl]at k3 k4
 refine⟨_,?_,⟨k3,g2.trans k4⟩,.inr ⟨by simp[Yae],by unfold plS;rw[if_pos rfl]⟩⟩
 refine .ref X.length H.length (.sb b) _ ?_ (by simp only[lenO];rw[strA_len']) (by unfold plS;rw[if_pos rfl])
 have:=Yal (vset X a none) (some (.sb b));rwa[hXl]at this
theorem YiE{s:TV}{b:ByteArray}{as:AV}{L:List (List AV)}{K:TV->YzS->Option β}(hL:L=strA b)
  (h:(match s with
   | .e _=>chk (0<b.size/\b.size<=maxEl) (K (.ref X.length) (X++[some (.sb b)]))
   | .ref a=>match vget X a with
     |some (.sb s)=>chk (s.size+b.size<=maxEl) (K (.ref X.length) (vset X a none++[some (.sb (s++b))]))
     |_=>none
   |_=>none)=some r) (hs:TR X pl s as) (hr:HRel Fr H0 X pl H) {KA:AV->List Upd->Prop}
  (hk: ∀v X' va us,K v X'=some r->Nxt Fr H0 X pl H v X' va us->KA va us):
  ∃o us,apX 0 1 as L (hf H) H.length=some (o,us)/\KA (.ref H.length 0 o.el.length) (us++[.push (some o)]):=by
 subst hL
 have hbl: ∀e∈strA b,e.length=1:=Ybz (YaU b).rows
 split at h
 ·obtain⟨h1,h2⟩:=Yai h
  cases hs with
  |e=>exact⟨_,_,Ye8 hbl (by rw[strA_len'];exact h1.2) (.inr (by rw[strA_len'];exact h1.1)),hk _ _ _ _ h2 (YiD hr b)⟩
 ·rename_i a
  split at h
  ·rename_i s' ho
   obtain⟨h1,h2⟩:=Yai h
   obtain⟨y,hp,hy,rfl⟩:=Ydv hr ho hs
   refine⟨_,_,Ye9 (o:=⟨0,strA s'⟩) hbl hy rfl (by show(strA s').length+_<=_;rw[strA_len',strA_len'];exact h1),?_⟩
   have:=Yp1 hr (s'++b) ho hp rfl
   rw[YpZ]at this
   exact hk _ _ _ _ h2 this
  ·cases h
 ·cases h
theorem Yp2{s:TV}{b:ByteArray}{as:AV}{K:TV->YzS->Option β}(h:YDi s b X K=some r)(hs:TR X pl s as)(hr:HRel Fr H0 X pl H){KA:AV->List Upd->Prop}
  (hk: ∀v X' va us,K v X'=some r->Nxt Fr H0 X pl H v X' va us->KA va us): ∃v us,xF .apps [as,.v (.string b)] (hf H) H.length=some (v,us)/\KA v us:=by
 obtain⟨o,us,h1,h2⟩:=YiE (b:=b) rfl h hs hr hk
 exact⟨_,_,by simp only[xF,h1],h2⟩
theorem Yp3(m:List Int):(Yz3 m).size=m.length:=by simp[Yz3,ByteArray.size]
theorem Yp4{s x:TV}{as ax:AV}{K:TV->YzS->Option β}(h:YCP s x X K=some r)(hs:TR X pl s as)(hx:TR X pl x ax)(hr:HRel Fr H0 X pl H){KA:AV->List Upd->Prop}
  (hk: ∀v X' va us,K v X'=some r->Nxt Fr H0 X pl H v X' va us->KA va us): ∃v us,xF .appb [as,ax] (hf H) H.length=some (v,us)/\KA v us:=by
 unfold YCP at h
 split at h
 ·rename_i m hm
  obtain⟨hb,h⟩:=Yab h
  obtain⟨l,k1,k2,k3⟩:=Ycv hm hx
  have hl:=YiB hb (RowsB.of k3)
  obtain⟨o,us,h1,h2⟩:=YiE (b:=Yz3 m) hl (by rw[Yp3];exact h) hs hr hk
  have k2':YAL 1 ax=true:=k2
  exact⟨_,_,by simp only[xF,k1,k2',cond_true,h1],h2⟩
 ·cases h
theorem Yp5{s x:TV}{as ax:AV}{K:TV->YzS->Option β}(h:YBW s x X K=some r)(hs:TR X pl s as)(hx:TR X pl x ax)(hr:HRel Fr H0 X pl H){KA:AV->List Upd->Prop}
  (hk: ∀v X' va us,K v X'=some r->Nxt Fr H0 X pl H v X' va us->KA va us): ∃v us,xF .appDb [as,ax] (hf H) H.length=some (v,us)/\KA v us:=by
 unfold YBW at h
 split at h
 ·rename_i m hm
  obtain⟨l,k1,k2,k3⟩:=Ycv hm hx
  have k2':YAL 1 ax=true:=k2
  have hll: ∀e∈l,e.length=1:=Ybz k3
  split at h
  ·obtain⟨h1,h2⟩:=Yai h
   cases hs with
   |e=>
   refine⟨.rd 1 l,[.push none],?_,hk _ _ _ _ h2 ⟨pl,.l U8 m _ (rows_coe' k3),⟨Ycu hr,Ext.refl _ _⟩,.inl rfl⟩⟩
   simp only[xF,k1,k2',cond_true,Ye8 (os:=0) hll (by rw[k3.1];exact h1.2) (.inr (by rw[k3.1];exact h1.1)),YEy]
  ·rename_i a
   split at h
   ·rename_i s' ho
    obtain⟨h1,h2⟩:=Yai h
    obtain⟨y,hp,hy,rfl⟩:=Ydv hr ho hs
    obtain⟨g1,g2⟩:=Yco hr ho hp
    have hap:=Ye9 (os:=0) (nid:=H.length) (o:=⟨0,strA s'⟩) hll hy rfl (by show(strA s').length+_<=_;rw[strA_len',k3.1];exact h1)
    refine⟨.rd 1 (strA s'++l),[.set y none,.push none],?_,hk _ _ _ _ h2 ⟨_,.l U8 (strL s'++m) _ (rows_coe' ((YaU s').app (RowsB.of k3)).rows),⟨Ycu g1,g2⟩,.inl (Yae _ _ _)⟩⟩
    simp only[xF,k1,k2',cond_true,hap,YEx,YEy]
   ·cases h
  ·cases h
 ·cases h
theorem Yp6{cs:List TV}{as:List AV}{e:List TV}{els:List (List TV)}{l:List Int}(hc:YAz X cs=some (e::els))(hp:YA4 U8 (e::els)=some l)(hb:inB l=true)(hm:els.length+1<=1000000)(hct:CT X pl cs as)(hr:HRel Fr H0 X pl H):
  ∃va us,xF .litb as (hf H) H.length=some (va,us)/\Nxt Fr H0 X pl H (.ref X.length) (X++[some (.sb (Yz3 l))]) va us:=by
 obtain⟨L,h1,h2⟩:=Yfa hc hct
 have hrow:Rows L U8 l:=Ycq (c:=U8) hp h2
 have hL:=h2.1
 have hb:=YiB hb (RowsB.of hrow)
 cases L with
 |nil=>simp at hL
 |cons f fs=>
  have hlen:(f::fs).length<=maxEl:=by rw[<-hL];simp only[YEm,maxEl];omega
  refine⟨_,_,?_,hb▸YiD hr (Yz3 l)⟩
  simp only[xF,h1,Yct (n:=1) (Ybz hrow),bleT hlen,YE8,cond_true]
theorem Yp7{x:TV}{ax:AV}{K:TV->YzS->Option β}(h:YCQ x X K=some r)(hx:TR X pl x ax)(hr:HRel Fr H0 X pl H){KA:AV->List Upd->Prop}
  (same: ∀v va,K v X=some r->TR X pl v va->KA va []): ∃v us,xF .bstr [ax] (hf H) H.length=some (v,us)/\KA v us:=by
 unfold YCQ at h
 split at h
 ·cases hx with
  |e=>exact⟨_,[],rfl,same _ _ h (.s _)⟩
 ·rename_i c v
  split at h
  ·rename_i l hl
   obtain⟨rfl,rfl⟩:=YaM hl
   cases hx with
   |l _ _ _ hc=>
    rcases YaL hc with⟨rfl,hb⟩| ⟨l0,rfl,hl,hcc⟩
    ·have hv:v=[]:=by simpa using hb
     subst hv
     exact⟨_,[],rfl,same _ _ h (.s _)⟩
    ·have hrow:Rows l0 U8 v:=⟨by simpa using hl,fun i e w h1 h2=>hcc i e _ h1 (by rw[YD6,h2];rfl)⟩
     refine⟨.v (.string (Yz3 v)),[],?_,same _ _ h (.s _)⟩
     simp only[xF,show U8.width=1 from rfl,beqT,cond_true,Ye7 (RowsB.of hrow)]
     rfl
  ·cases h
 ·rename_i a
  split at h
  ·rename_i c' l ho
   split at h
   ·rename_i l' hl
    obtain⟨rfl,hl2⟩:=YaM hl
    have hl2:=hl2.symm
    subst hl2
    obtain⟨y,el,hp,hy,h0,hrow,rfl⟩:=YiC hr ho hx
    refine⟨.v (.string (Yz3 l')),[],?_,same _ _ h (.s _)⟩
    simp only[xF,hf,hy,show wd U8.width=1 from rfl,beqT,bleT (YEI _),YE8,cond_true,YEj,Ye7 (RowsB.of hrow)]
    rfl
   ·cases h
  ·rename_i s' ho
   obtain⟨y,hp,hy,rfl⟩:=Ydv hr ho hx
   refine⟨.v (.string s'),[],?_,same _ _ h (.s _)⟩
   simp only[xF,hf,hy,show wd 0=1 from rfl,beqT,bleT (YEI _),YE8,cond_true,YEj,YpY]
   have:(⟨s'.toList.toArray⟩:ByteArray)=s':=by rw[YaN]
   rw[this]
  ·cases h
 ·cases h
theorem Yp8{c:Cs}{cs:List TV}{as:List AV}{e:List TV}{els:List (List TV)}{l:List c.den}(hc:YAz X cs=some (e::els))(hp:YA4 c (e::els)=some l)(h0:0<c.width)(hm:els.length+1<=1000000)(hct:CT X pl cs as)(hr:HRel Fr H0 X pl H):
  ∃va us,xF (.lit c.width) as (hf H) H.length=some (va,us)/\Nxt Fr H0 X pl H (.ref X.length) (X++[some (.sq c l)]) va us:=by
 obtain⟨L,h1,h2⟩:=Yfa hc hct
 have hrow:=Ycq hp h2
 have hL:=h2.1
 cases L with
 |nil=>simp at hL
 |cons f fs=>
  obtain⟨k1,k2⟩:=Yar hr (.sq c l) ⟨c.width,f::fs⟩ (fun _=>⟨H.length,f::fs,by unfold plS;rw[if_pos rfl],by simp,h0,hrow⟩)
  refine⟨.ref H.length 0 (f::fs).length,[.push (some ⟨c.width,f::fs⟩)],?_,_,.ref X.length H.length _ _ (Yal X _) (by simp[lenO,<-hrow.1]) (by unfold plS;rw[if_pos rfl]),⟨k1,k2⟩,.inr ⟨by simp,by unfold plS;rw[if_pos rfl]⟩⟩
  have hlen:(f::fs).length<=maxEl:=by rw[<-hL];simp only[YEm,maxEl];omega
  have hblt:YEK 0 c.width=true:=by simpa[YEK]using(show 1<=c.width from h0)
  simp only[xF,h1,hblt,Yct (Ybz hrow),bleT hlen,YE8,cond_true]
theorem Yp9(hr:HRel Fr H0 X pl H):Nxt Fr H0 X pl H (.ptr X.length 0 0) (X++[some (.st [.np X.length,.v (.slice none 0 0)])]) (.ptr H.length 0 0) [.push (some ⟨2,[[.np H.length,.v (.slice none 0 0)]]⟩)]:=by
 obtain⟨k1,k2⟩:=Yar hr (.st [.np X.length,.v (.slice none 0 0)]) ⟨2,[[.np H.length,.v (.slice none 0 0)]]⟩ (fun hx=>⟨H.length,[.np H.length,.v (.slice none 0 0)],by unfold plS;rw[if_pos rfl],by simp,Nat.zero_lt_succ _,
  .cons (.np X.length H.length _ (Yal X _) (by unfold plS;rw[if_pos rfl])) (.cons (.v _) .nil)⟩)
 exact⟨_,.ptr X.length 0 0 H.length _ (Yal X _) (by simp[elN]) (by unfold plS;rw[if_pos rfl]),⟨k1,k2⟩,.inr ⟨by simp,by unfold plS;rw[if_pos rfl]⟩⟩
theorem YaO{a:Nat}{ax:AV}{o:VObj}(ho:vget X a=some o)(h:TR X pl (.np a) ax): ∃x,ax= .np x/\pl (.m a)=some x:=by
 cases h with
 |np a x o h hp=>exact⟨x,rfl,hp⟩
 |npD a av h ha=>rw[ho]at h;cases h
theorem YiF{b:ByteArray}{a:AV}(h:TR X pl (.s b) a):a= .v (.string b):=by cases h;rfl
theorem YiG{l:List TV}{as:List AV}{x y c:Int}(hl:l=[.i .u64 x,.i .u64 y,.i .u64 c])(hc:CT X pl l as):as=[.v (.int .u64 x),.v (.int .u64 y),.v (.int .u64 c)]:=by
 subst hl
 obtain⟨a,r,rfl,h1,h2⟩:=hc.inv
 obtain⟨b,r,rfl,h3,h4⟩:=h2.inv
 obtain⟨d,r,rfl,h5,h6⟩:=h4.inv
 have:r=[]:=YEf.1 h6.1.symm
 subst this
 cases h1;cases h3;cases h5;rfl
end
end Go.Abs
namespace Go.Abs
open Go Go.RowKit
section
variable{Fr:Nat->Prop}{H0:Heap}{X:YzS}{pl:Pl}{H:Heap}{β:Type}{r:β}{env:VEnv}{ae:Env}
def keyV:(o:Option IntKind)->(kty o).den->Value
 |none,s=>.string s
 |some k,n=>.int k n
theorem keq_iff{o:Option IntKind}{a b:(kty o).den}:keq o a b=true↔a=b:=by
 cases o with
 |none=>
  have: ∀a b:ByteArray,decide (a=b)=true↔a=b:=fun a b=>by simp
  exact this a b
 |some k=>
  have: ∀a b:Int,decide (a=b)=true↔a=b:=fun a b=>by simp
  exact this a b
theorem Yqa{o:Option IntKind}(a b:(kty o).den):YBQ (kstr o) (keyV o a) (keyV o b)=some (keq o a b):=by
 cases o with
 |none=>
  have: ∀a b:ByteArray,some (a==b)=some (decide (a=b)):=fun a b=>by
   congr 1
   by_cases e:a=b
   ·rw[(MapKept.bytes_beq a b).2 e,decide_eq_true e]
   ·rw[decide_eq_false e]
    cases h:(a==b)with
    |false=>rfl
    |true=>exact absurd ((MapKept.bytes_beq a b).1 h) e
  exact this a b
 |some k=>
  have: ∀a b:Int,(if k=k then some (a==b)else none)=some (decide (a=b)):=fun a b=>by
   rw[if_pos rfl];rfl
  exact this a b
theorem Ydw(o:Option IntKind)(k:(kty o).den):keyK (kstr o) (keyV o k)=true:=by cases o<;>rfl
theorem Yfb{o:Option IntKind}{tv:TV}{a:AV}{k:(kty o).den}(h:toD (kty o) tv=some k)(hr:TR X pl tv a):a= .v (keyV o k):=by
 have:=Yip h hr
 cases o with
 |none=>exact YaH this
 |some q=>exact YaH this
theorem YiH(o:Option IntKind)(t:Ty)(V:Cs)(x:(mapC o t V).den):(mapC o t V).enc x= .v (.int .i64 x.1):: .v (keyV o x.2.1)::(Cs.cons t V).enc x.2.2:=by
 have:(kty o).enc x.2.1= .v (keyV o x.2.1):=by cases o<;>(simp only[kty,Ty.enc];rfl)
 rw[<-this]
 simp only[Cs.enc,Ty.enc]
 rfl
theorem YiI{o:Option IntKind}{t:Ty}{V:Cs}{e:List AV}{x:(mapC o t V).den}(h:CC e ((mapC o t V).enc x)): ∃r,e= .v (.int .i64 x.1):: .v (keyV o x.2.1)::r/\CC r ((Cs.cons t V).enc x.2.2):=by
 rw[YiH]at h
 have hl:=h.1
 match e,hl with
 | [],hl=>simp at hl
 | [_],hl=>simp at hl
 |b::k::r,hl=>
  have hb:b= .v (.int .i64 x.1):=YaH (h.2 0 b _ rfl rfl)
  have hk:k= .v (keyV o x.2.1):=YaH (h.2 1 k _ rfl rfl)
  subst hb;subst hk
  exact⟨r,rfl,by simpa using hl,fun j y y' h1 h2=>h.2 (j+2) y y' (by simpa using h1) (by simpa using h2)⟩
theorem YiJ{o:Option IntKind}{t:Ty}{V:Cs}{r:List AV}(b:Int)(k:(kty o).den){v:(Cs.cons t V).den}(h:CC r ((Cs.cons t V).enc v)):CC (.v (.int .i64 b):: .v (keyV o k)::r) ((mapC o t V).enc (b,(k,v))):=by
 have key:CC (.v (.int .i64 b):: .v (keyV o k)::r) (.v (.int .i64 b):: .v (keyV o k)::(Cs.cons t V).enc v):=by
  refine⟨by simp[h.1],fun j y y' h1 h2=> ?_⟩
  match j,h1,h2 with
  |0,h1,h2=>simp at h1 h2;subst h1;subst h2;exact .refl _
  |1,h1,h2=>simp at h1 h2;subst h1;subst h2;exact .refl _
  |j+2,h1,h2=>exact h.2 j y y' (by simpa using h1) (by simpa using h2)
 exact Eq.mpr (congrArg (CC _) (YiH o t V _)) key
theorem Rows.tl{el:List (List AV)}{c:Cs}{e:List AV}{x:c.den}{l:List c.den}(h:Rows (e::el) c (x::l)):CC e (c.enc x)/\Rows el c l:=
 ⟨h.2 0 e x rfl rfl,by simpa using h.1,fun i e v h1 h2=>h.2 (i+1) e v (by simpa using h1) (by simpa using h2)⟩
theorem Rows.cons{el:List (List AV)}{c:Cs}{e:List AV}{x:c.den}{l:List c.den}(h:CC e (c.enc x))(k:Rows el c l):Rows (e::el) c (x::l):=by
 refine⟨by simp[k.1],fun i e' v h1 h2=> ?_⟩
 cases i with
 |zero=>simp at h1 h2;subst h1;subst h2;exact h
 |succ i=>exact k.2 i e' v (by simpa using h1) (by simpa using h2)
theorem Rows.none(c:Cs):Rows [] c []:=⟨rfl,fun i e v h=>by simp at h⟩
theorem YCq{o:Option IntKind}{t:Ty}{V:Cs}(k:(kty o).den): ∀(el:List (List AV)) (l:List (mapC o t V).den) (i:Nat),Rows el (mapC o t V) l->
  (mfd (keq o) k l=none/\YAi (kstr o) (keyV o k) el i=some none/\ (∀(c:Int) (d:(Cs.cons t V).den),mpt (keq o) c k d l=List.append l [(c,(k,d))])/\mdl (keq o) k l=l)\/
  (∃p r v,mfd (keq o) k l=some v/\YAi (kstr o) (keyV o k) el i=some (some (i+p,r))/\CC r ((Cs.cons t V).enc v)/\
   (∀c d r',CC r' ((Cs.cons t V).enc d)->Rows (el.modify p (putE (.v (keyV o k)) r')) (mapC o t V) (mpt (keq o) c k d l))/\Rows (el.eraseIdx p) (mapC o t V) (mdl (keq o) k l))
 | [],[],i,_=>.inl ⟨rfl,rfl,fun _ _=>rfl,rfl⟩
 | [],_::_,i,h=>by have:=h.1;simp at this
 |_::_,[],i,h=>by have:=h.1;simp at this
 |e::el,x::l,i,h=>by
  obtain⟨h1,h2⟩:=h.tl
  obtain⟨r,rfl,hr⟩:=YiI h1
  simp only[YAi,Yqa]
  cases hq:keq o k x.2.1 with
  |true=>
   have hk:k=x.2.1:=keq_iff.1 hq
   refine .inr ⟨0,r,x.2.2,by simp only[mfd,hq,cond_true],rfl,hr,fun c d r' hr'=> ?_,?_⟩
   ·simp only[mpt,hq,cond_true]
    exact Rows.cons (YiJ x.1 k hr') h2
   ·simp only[mdl,hq,cond_true]
    exact h2
  |false=>
   rcases YCq k el l (i+1) h2 with⟨g1,g2,g3,g4⟩| ⟨p,r2,v,g1,g2,g3,g4,g5⟩
   ·refine .inl ⟨by simp only[mfd,hq,cond_false];exact g1,g2,fun c d=> ?_,?_⟩
    ·simp only[mpt,hq,cond_false,g3];rfl
    ·show(bif keq o k x.2.1 then l else x::mdl (keq o) k l)=x::l
     rw[hq,g4];rfl
   ·refine .inr ⟨p+1,r2,v,by simp only[mfd,hq,cond_false];exact g1,by rw[g2,show i+1+p=i+(p+1) by omega],g3,fun c d r' hr'=> ?_,?_⟩
    ·simp only[mpt,hq,cond_false,List.modify_succ_cons]
     exact Rows.cons h1 (g4 c d r' hr')
    ·simp only[mdl,hq,cond_false,List.eraseIdx_cons_succ]
     exact Rows.cons h1 g5
theorem Yqb{κ ν:Type}(n:Int)(e:Int× (κ×ν))(l:List (Int× (κ×ν))):mbf n (e::l)=if e.1=n then some e.2 else mbf n l:=by
 show(bif decide (e.1=n)then some e.2 else mbf n l)=_
 by_cases h:e.1=n<;>simp[h]
theorem Yqc(n b:Int)(r:List AV)(el:List (List AV)):YBc n ((.v (.int .i64 b)::r)::el)=if b=n then some (.v (.int .i64 b)::r)else YBc n el:=by
 simp only[YBc,YBo]
 by_cases h:b=n<;>simp[h]
theorem YCI{o:Option IntKind}{t:Ty}{V:Cs}(n:Int): ∀(el:List (List AV)) (l:List (mapC o t V).den),Rows el (mapC o t V) l-> ∀e,mbf n l=some e->
  ∃b r,YBc n el=some (b:: .v (keyV o e.1)::r)/\CC r ((Cs.cons t V).enc e.2)
 | [],[],_,e,h=>by cases h
 | [],_::_,h,_,_=>by have:=h.1;simp at this
 |_::_,[],h,_,_=>by have:=h.1;simp at this
 |e0::el,x::l,h,e,he=>by
  obtain⟨h1,h2⟩:=h.tl
  obtain⟨r,rfl,hr⟩:=YiI h1
  have he':=(@Yqb (kty o).den (Cs.cons t V).den n x l).symm.trans he
  have ef:=Yqc n x.1 (.v (keyV o x.2.1)::r) el
  split at he'
  ·rename_i hc
   injection he' with he';subst he'
   exact⟨_,r,by rw[ef,if_pos hc],hr⟩
  ·rename_i hc
   rw[ef,if_neg hc]
   exact YCI n el l h2 e he'
theorem Yfc(hr:HRel Fr H0 X pl H){a x:Nat}{cs:List TV}(ho:vget X a=some (.st cs))(hp:pl (.m a)=some x): ∃e,H[x]?=some (some ⟨cs.length,[e]⟩)/\0<cs.length/\CT X pl cs e:=by
 obtain⟨x',e,h1,h2,h3,h4⟩:=hr.obj a _ ho
 rw[hp]at h1;injection h1 with h1;subst h1
 exact⟨e,h2,h3,h4⟩
theorem Yfd{c:Cs}{l:List c.den}{R:AV}(h:TR X pl (.l c l) R): ∃el,YBn R=some el/\Rows el c l:=by
 cases h with
 |l _ _ _ h=>
  rcases YaL h with⟨rfl,h1⟩| ⟨l0,rfl,h2,h3⟩
  ·have:l=[]:=by simpa using h1
   subst this
   exact⟨[],rfl,Rows.none c⟩
  ·refine⟨l0,rfl,by simpa using h2,fun i e v k1 k2=> ?_⟩
   exact h3 i e _ k1 (by rw[YD6,k2];rfl)
theorem Ydx{a x:Nat}{n:Int}{c:Cs}{l:List c.den}{tags:List TV}(hr:HRel Fr H0 X pl H)(ho:vget X a=some (.st (.i .i64 n:: .l c l::tags)))(hp:pl (.m a)=some x)(hl:tags.length=1\/tags.length=2):
  ∃el atags R,H[x]?=some (some ⟨tags.length+2,[.v (.int .i64 n)::R::atags]⟩)/\mapO ⟨tags.length+2,[.v (.int .i64 n)::R::atags]⟩=some (n,el,atags)/\Rows el c l/\CT X pl tags atags:=by
 obtain⟨e,h1,h2,h3⟩:=Yfc hr ho hp
 obtain⟨c0,e1,rfl,k1,k2⟩:=h3.inv
 obtain⟨R,at',rfl,k3,k4⟩:=k2.inv
 cases k1
 obtain⟨el,k5,k6⟩:=Yfd k3
 refine⟨el,at',R,by simpa using h1,?_,k6,k4⟩
 unfold mapO
 simp only[k5]
 rcases hl with h|h<;>rw[h]<;>rfl
theorem Ydy{o:Option IntKind}{t:Ty}{V:Cs}{x:TV}{ax:AV}{a:Nat}{n:Int}{l:List (mapC o t V).den}{tags:List TV}(h:vmap o t V X x=some (a,n,l,tags))(hx:TR X pl x ax)(hr:HRel Fr H0 X pl H):
  ∃y el atags R,x= .np a/\ax= .np y/\pl (.m a)=some y/\vget X a=some (.st (.i .i64 n:: .l (mapC o t V) l::tags))/\ (tags.length=1\/tags.length=2)/\
   H[y]?=some (some ⟨tags.length+2,[.v (.int .i64 n)::R::atags]⟩)/\mapO ⟨tags.length+2,[.v (.int .i64 n)::R::atags]⟩=some (n,el,atags)/\Rows el (mapC o t V) l/\CT X pl tags atags:=by
 unfold vmap at h
 split at h
 ·rename_i a'
  split at h
  ·rename_i n' c l' tags' ho
   split at h
   ·rename_i l2 hl
    obtain⟨e1,e2⟩:=Yab h
    injection e2 with e2;injection e2 with e3 e2;injection e2 with e4 e2;injection e2 with e5 e6
    subst e3;subst e4;subst e5;subst e6
    obtain⟨ec,el⟩:=YaM hl
    subst ec;subst el
    simp only[YE5,YES]at e1
    obtain⟨y,rfl,hp⟩:=YaO ho hx
    obtain⟨el,at',R,k1,k2,k3,k4⟩:=Ydx hr ho hp e1
    exact⟨y,el,at',R,rfl,rfl,hp,ho,e1,k1,k2,k3,k4⟩
   ·cases h
  ·cases h
 ·cases h
theorem Yfe{ag:Bool}{t:Ty}{V:Cs}{v:(Cs.cons t V).den}{rr:List AV}(hk:knk ag V=true)(h:CC rr ((Cs.cons t V).enc v)): ∃y,mval (knd ag) rr=some y/\TR X pl (mvT ag (.cons t V) v) y:=by
 have hct:=Ybx (X:=X) (pl:=pl) (Cs.cons t V) v h
 cases ag with
 |true=>exact⟨.agg rr,rfl,.ag _ _ hct.1 hct.2⟩
 |false=>
  have hV:V.width=0:=YEJ hk
  cases V with
  |cons _ _=>simp[Cs.width]at hV
  |nil=>
   have hl:=h.1
   match rr,hl with
   | [a],_=>
     refine⟨a,rfl,?_⟩
     obtain⟨a',h1,h2⟩:=hct.get (j:=0) (c:=tvOf t (fstP .nil v)) rfl
     simp at h1;subst h1
     exact h2
theorem Yqd{o:Option IntKind}{t:Ty}{V:Cs}{ag ok:Bool}{m k:TV}{am ak:AV}{K:TV->YzS->Option β}(h:YCR o t V ag ok m k X K=some r)(hm:TR X pl m am)(hk:TR X pl k ak)(hr:HRel Fr H0 X pl H)
  (hz:CC ((Cs.cons t V).zeros.map zc) ((Cs.cons t V).enc (Cs.cons t V).dft)) {KA:AV->List Upd->Prop} (hK: ∀v va,K v X=some r->TR X pl v va->KA va []):
  ∃v us,xF (.mget (kstr o) (knd ag) ok) [am,ak,mzA ag (.cons t V)] (hf H) H.length=some (v,us)/\KA v us:=by
 unfold YCR at h
 split at h
 ·rename_i a n l tags k' hv hk'
  obtain⟨y,el,at',R,rfl,rfl,hp,ho,hl,hy,hmo,hrow,htag⟩:=Ydy hv hm hr
  obtain⟨e1,e2⟩:=Yab h
  simp only[YE3,YES]at e1
  obtain⟨e1,e3⟩:=e1
  have hak:=Yfb hk' hk
  subst hak
  have hyf:hf H y=some (some ⟨tags.length+2,[.v (.int .i64 n)::R::at']⟩):=hy
  have hb:(YEH (tags.length+2) (knd ag+2)&&keyK (kstr o) (keyV o k'))=true:=by rw[e1,YET,Ydw];rfl
  have mz: ∃z,TR X pl (mvT ag (.cons t V) (Cs.cons t V).dft) z/\mzA ag (.cons t V)=z:=by
   obtain⟨z,h1,h2⟩:=Yfe (X:=X) (pl:=pl) e3 hz
   refine⟨z,h2,?_⟩
   cases ag with
   |true=>simp only[knd,mval]at h1;injection h1
   |false=>
    have hV:V.width=0:=YEJ e3
    cases V with
    |cons _ _=>simp[Cs.width]at hV
    |nil=>simp only[knd,Cs.zeros,YD8,YEa,mval]at h1;injection h1
  have fin: ∀(v:TV) (va:AV) (is:Bool),TR X pl v va->vres ok v is X K=some r->KA (mres ok va is) []:=by
   intro v va is hv h
   cases ok with
   |true=>exact hK _ _ h (.tp _ _ rfl (fun j c a h1 h2=>by
    match j,h1,h2 with
    |0,h1,h2=>simp at h1 h2;subst h1;subst h2;exact hv
    |1,h1,h2=>simp at h1 h2;subst h1;subst h2;exact .b _
    |j+2,h1,h2=>simp at h1))
   |false=>exact hK _ _ h hv
  rcases YCq k' el l 0 hrow with⟨g1,g2,_,_⟩| ⟨p,rr,v,g1,g2,g3,_,_⟩
  ·obtain⟨z,hz1,hz2⟩:=mz
   refine⟨mres ok z false,[],?_,fin _ _ _ hz1 ?_⟩
   ·simp only[xF,hyf,hmo,hb,cond_true,g2,hz2]
   ·simpa only[mgt,mhs,g1]using e2
  ·obtain⟨yv,q1,q2⟩:=Yfe (X:=X) (pl:=pl) e3 g3
   refine⟨mres ok yv true,[],?_,fin _ _ _ q2 ?_⟩
   ·simp only[xF,hyf,hmo,hb,cond_true,g2,q1]
   ·simpa only[mgt,mhs,g1]using e2
 ·cases h
theorem Ydz(hr:HRel Fr H0 X pl H){a y:Nat}{cs ds:List TV}{e':List AV}(ho:vget X a=some (.st cs))(hp:pl (.m a)=some y){e:List AV}(hy:H[y]?=some (some ⟨cs.length,[e]⟩))(hl:ds.length=cs.length)(h0:0<ds.length)(hct:CT X pl ds e'):
  Nxt Fr H0 X pl H .u (vset X a (some (.st ds))) .u [.set y (some ⟨cs.length,[e']⟩)]:=by
 refine⟨pl,.u _,?_,.inl (Yae _ _ _)⟩
 exact Ybw hr ho hp _ rfl rfl (fun _ _ _ _ e=>by cases e) (fun _ _ _ _ e=>by cases e) (fun hx=>⟨y,e',hp,by rw[hl];exact YEe (YD4.1 hy).1,h0,hct.ext hx⟩)
theorem YbA{c:Cs}{l:List c.den}{el:List (List AV)}(h:Rows el c l):TR X pl (.l c l) (.rd c.width el):=.l c l _ (rows_coe' h)
theorem Yqe{a x:AV}(hna: ∀ds,a≠ .agg ds)(h:cellsOf a=some [x]):YBm 1 a=some [x]:=by
 cases a<;>first|exact absurd rfl (hna _)| (simp only[YBm,h])
theorem Yqf{o:Option IntKind}{t:Ty}{V:Cs}{ag:Bool}{m k v:TV}{am ak av:AV}{K:TV->YzS->Option β}(h:YCS o t V ag m k v X K=some r)(hm:TR X pl m am)(hk:TR X pl k ak)(hv:TR X pl v av)(hr:HRel Fr H0 X pl H)
  {KA:AV->List Upd->Prop} (hK: ∀v X' va us,K v X'=some r->Nxt Fr H0 X pl H v X' va us->KA va us):
  ∃w us,xF (.mput (kstr o) (knd ag) (mapC o t V).width) [am,ak,av] (hf H) H.length=some (w,us)/\KA w us:=by
 unfold YCS at h
 split at h
 ·rename_i a n l tags k' hvm hk'
  obtain⟨y,el,at',R,rfl,rfl,hp,ho,hl,hy,hmo,hrow,htag⟩:=Ydy hvm hm hr
  obtain⟨e1,e2⟩:=Yab h
  simp only[YE3,YES]at e1
  obtain⟨e1,e3,e4⟩:=e1
  have hak:=Yfb hk' hk
  subst hak
  split at e2
  ·rename_i cs hcs
   split at e2
   ·rename_i d hd
    obtain⟨as,ha1,ha2⟩:=Ye4 hcs hv
    have hcc:=Ycp hd ha2
    have hcell:YBm (knd ag) av=some as:=by
     cases ag with
     |true=>
      cases v<;>simp[isAg]at e3
      cases hv
      simp only[cellsOf]at ha1
      injection ha1 with ha1;subst ha1
      rfl
     |false=>
      have hV:V.width=0:=YEJ e4
      have hlen:as.length=1:=by rw[hcc.1,Ybd];simp[Cs.width,hV]
      match as,hlen with
      | [x],_=>
        have hna: ∀ds,av≠ .agg ds:=by
         intro ds e
         subst e
         cases hv with
         |l c w _ hco=>rcases YaL hco with⟨h,_⟩| ⟨_,h,_⟩<;>cases h
         |u=>simp[YzZ]at hcs
         |refD a'=>rename_i hq _;simp[YzZ,hq]at hcs
         |preD a' m=>rename_i hq _;simp[YzZ,hq]at hcs
         |subD=>simp[YzZ]at hcs
         |ptrD a' i j=>rename_i hq _;simp[YzZ,hq]at hcs
         |ptiD=>simp[YzZ]at hcs
         |npD a'=>rename_i hq _;simp[YzZ,hq]at hcs
         |ag=>simp[isAg]at e3
        exact Yqe hna ha1
    have hyf:hf H y=some (some ⟨tags.length+2,[.v (.int .i64 n)::R::at']⟩):=hy
    have hb:(YEH (tags.length+2) (knd ag+2)&&keyK (kstr o) (keyV o k'))=true:=by rw[e1,YET,Ydw];rfl
    have hlen:(.i .i64 n:: .l (mapC o t V) l::tags:List TV).length=tags.length+2:=by simp
    rcases YCq k' el l 0 hrow with⟨g1,g2,g3,_⟩| ⟨p,rr,v0,g1,g2,g3,g4,_⟩
    ·refine⟨.u,_,by simp only[xF,hyf,hmo,hb,cond_true,hcell,g2];rfl,hK _ _ _ _ e2 ?_⟩
     have:=Ydz (ds:=.i .i64 (mck (keq o) n k' l):: .l (mapC o t V) (mpt (keq o) n k' d l)::tags) (e':=.v (.int .i64 (n+1)):: .rd (mapC o t V).width (el++[.v (.int .i64 n):: .v (keyV o k')::as])::at') hr ho hp (by rw[hlen];exact hy) (by simp) (by simp)
      (by
       simp only[mck,g1]
       refine CT.cons (.i _ _) (CT.cons (YbA ?_) htag)
       rw[g3]
       exact Yby hrow (Rows.cons (YiJ n k' hcc) (Rows.none _)))
     rw[hlen]at this
     exact this
    ·refine⟨.u,_,by simp only[xF,hyf,hmo,hb,cond_true,hcell,g2];rfl,hK _ _ _ _ e2 ?_⟩
     have:=Ydz (ds:=.i .i64 (mck (keq o) n k' l):: .l (mapC o t V) (mpt (keq o) n k' d l)::tags) (e':=.v (.int .i64 n):: .rd (mapC o t V).width (el.modify (0+p) (putE (.v (keyV o k')) as))::at') hr ho hp (by rw[hlen];exact hy) (by simp) (by simp)
      (by
       simp only[mck,g1]
       refine CT.cons (.i _ _) (CT.cons (YbA ?_) htag)
       rw[YEM]
       exact g4 n d as hcc)
     rw[hlen]at this
     exact this
   ·cases e2
  ·cases e2
 ·cases h
theorem Yqg{o:Option IntKind}{t:Ty}{V:Cs}{m k:TV}{am ak:AV}{K:TV->YzS->Option β}(h:YCT o t V m k X K=some r)(hm:TR X pl m am)(hk:TR X pl k ak)(hr:HRel Fr H0 X pl H)
  {KA:AV->List Upd->Prop} (hK: ∀v X' va us,K v X'=some r->Nxt Fr H0 X pl H v X' va us->KA va us):
  ∃w us,xF (.mdel (kstr o) (mapC o t V).width) [am,ak] (hf H) H.length=some (w,us)/\KA w us:=by
 unfold YCT at h
 split at h
 ·rename_i a n l tags k' hvm hk'
  obtain⟨y,el,at',R,rfl,rfl,hp,ho,hl,hy,hmo,hrow,htag⟩:=Ydy hvm hm hr
  have hak:=Yfb hk' hk
  subst hak
  have hyf:hf H y=some (some ⟨tags.length+2,[.v (.int .i64 n)::R::at']⟩):=hy
  have hlen:(.i .i64 n:: .l (mapC o t V) l::tags:List TV).length=tags.length+2:=by simp
  rcases YCq k' el l 0 hrow with⟨g1,g2,_,g3⟩| ⟨p,rr,v0,g1,g2,g3,_,g4⟩
  ·refine⟨.u,_,by simp only[xF,hyf,hmo,Ydw,cond_true,g2];rfl,hK _ _ _ _ h ?_⟩
   have:=Ydz (ds:=.i .i64 n:: .l (mapC o t V) (mdl (keq o) k' l)::tags) (e':=.v (.int .i64 n):: .rd (mapC o t V).width el::at') hr ho hp (by rw[hlen];exact hy) (by simp) (by simp)
    (by rw[g3];exact CT.cons (.i _ _) (CT.cons (YbA hrow) htag))
   rw[hlen]at this
   exact this
  ·refine⟨.u,_,by simp only[xF,hyf,hmo,Ydw,cond_true,g2];rfl,hK _ _ _ _ h ?_⟩
   have:=Ydz (ds:=.i .i64 n:: .l (mapC o t V) (mdl (keq o) k' l)::tags) (e':=.v (.int .i64 n):: .rd (mapC o t V).width (el.eraseIdx (0+p))::at') hr ho hp (by rw[hlen];exact hy) (by simp) (by simp)
    (by rw[YEM];exact CT.cons (.i _ _) (CT.cons (YbA g4) htag))
   rw[hlen]at this
   exact this
 ·cases h
theorem Yqh(o:Option IntKind)(t:Ty)(V:Cs)(ag:Bool)(hr:HRel Fr H0 X pl H):
  Nxt Fr H0 X pl H (.np X.length) (X++[some (.st (.i .i64 0:: .l (mapC o t V) []::List.replicate (knd ag) (.b false)))]) (.np H.length) [.push (some ⟨knd ag+2,[.v (.int .i64 0):: .rd (mapC o t V).width []::List.replicate (knd ag) (.v (.bool false))]⟩)]:=by
 obtain⟨k1,k2⟩:=Yar hr (.st (.i .i64 0:: .l (mapC o t V) []::List.replicate (knd ag) (.b false))) ⟨knd ag+2,[.v (.int .i64 0):: .rd (mapC o t V).width []::List.replicate (knd ag) (.v (.bool false))]⟩
  (fun _=>⟨H.length,.v (.int .i64 0):: .rd (mapC o t V).width []::List.replicate (knd ag) (.v (.bool false)),by unfold plS;rw[if_pos rfl],by simp,by simp,CT.cons (.i _ _) (CT.cons (YbA (Rows.none _)) ⟨by simp,fun j c a h1 h2=>by
   rw[YEC]at h1 h2
   split at h1
   ·rename_i hj
    rw[if_pos hj]at h2
    injection h1 with h1;injection h2 with h2;subst h1;subst h2;exact .b _
   ·cases h1⟩)⟩)
 exact⟨_,.np X.length H.length _ (Yal X _) (by unfold plS;rw[if_pos rfl]),⟨k1,k2⟩,.inr ⟨by simp,by unfold plS;rw[if_pos rfl]⟩⟩
theorem Yqi{a y:Nat}{n:Int}{c:Cs}{l:List c.den}{tags:List TV}(hr:HRel Fr H0 X pl H)(ho:vget X a=some (.st (.i .i64 n:: .l c l::tags)))(hp:pl (.m a)=some y)(hl:tags.length=1\/tags.length=2):
  ∃va us,xF .mrng [.np y] (hf H) H.length=some (va,us)/\Nxt Fr H0 X pl H (.np X.length) (X++[some (.st [.np a,.i .i64 n,.i .i64 n,.l I64 [],.b false])]) va us:=by
 obtain⟨el,at',R,hy,hmo,hrow,htag⟩:=Ydx hr ho hp hl
 have hyf:hf H y=some (some ⟨tags.length+2,[.v (.int .i64 n)::R::at']⟩):=hy
 refine⟨.np H.length,_,by simp only[xF,hyf,hmo];rfl,?_⟩
 obtain⟨k1,k2⟩:=Yar hr (.st [.np a,.i .i64 n,.i .i64 n,.l I64 [],.b false]) ⟨5,[[.np y,.v (.int .i64 n),.v (.int .i64 n),.rd 1 [],.v (.bool false)]]⟩
  (fun hx=>⟨H.length,[.np y,.v (.int .i64 n),.v (.int .i64 n),.rd 1 [],.v (.bool false)],by unfold plS;rw[if_pos rfl],by simp,by simp,CT.cons ((TR.np a y _ ho hp).ext hx) (CT.cons (.i _ _) (CT.cons (.i _ _) (CT.cons (show TR _ _ (.l I64 []) (.rd 1 [])from YbA (c:=I64) (Rows.none _)) (CT.cons (.b _) CT.nil))))⟩)
 exact⟨_,.np X.length H.length _ (Yal X _) (by unfold plS;rw[if_pos rfl]),⟨k1,k2⟩,.inr ⟨by simp,by unfold plS;rw[if_pos rfl]⟩⟩
theorem Yqj{o:Option IntKind}{t:Ty}{V:Cs}{ag:Bool}{it:TV}{ai:AV}{K:TV->YzS->Option β}(h:YCU o t V ag it X K=some r)(hi:TR X pl it ai)(hr:HRel Fr H0 X pl H)
  {KA:AV->List Upd->Prop} (hK: ∀v va,K v X=some r->TR X pl v va->KA va []):
  ∃w us,xF .ment [ai] (hf H) H.length=some (w,us)/\KA w us:=by
 unfold YCU at h
 split at h
 ·rename_i i
  split at h
  ·rename_i a s tm c seen tg hoi
   split at h
   ·rename_i a' n l tags seen' hvm hs
    obtain⟨ec,es⟩:=YaM hs
    subst ec;subst es
    obtain⟨e1,e2⟩:=Yab h
    simp only[YE3,YES]at e1
    obtain⟨e1,e3⟩:=e1
    obtain⟨rfl,e4⟩:=Yai e2
    obtain⟨yi,rfl,hpi⟩:=YaO hoi hi
    obtain⟨e,h1,_,h3⟩:=Yfc hr hoi hpi
    obtain⟨a0,r1,rfl,q0,h3⟩:=h3.inv
    obtain⟨a1,r2,rfl,q1,h3⟩:=h3.inv
    obtain⟨a2,r3,rfl,q2,h3⟩:=h3.inv
    obtain⟨a3,r4,rfl,q3,h3⟩:=h3.inv
    obtain⟨a4,r5,rfl,q4,h3⟩:=h3.inv
    have:r5=[]:=YEf.1 h3.1.symm
    subst this
    obtain⟨y,el,at',R,e5,rfl,hp,ho,hl,hy,hmo,hrow,htag⟩:=Ydy hvm q0 hr
    cases q1;cases q2
    obtain⟨bl,g1,g2⟩:=Yfd q3
    split at e4
    ·rename_i b hb
     split at e4
     ·rename_i en hen
      obtain⟨bb,rr,f1,f2⟩:=YCI b el l hrow en hen
      obtain⟨yv,f3,f4⟩:=Yfe (X:=X) (pl:=pl) e3 f2
      have hif:hf H yi=some (some ⟨5,[[.np y,.v (.int .i64 s),.v (.int .i64 tm),a3,a4]]⟩):=h1
      have hyf:hf H y=some (some ⟨tags.length+2,[.v (.int .i64 tm)::R::at']⟩):=hy
      have hio:YBd ⟨5,[[.np y,.v (.int .i64 s),.v (.int .i64 tm),a3,a4]]⟩=some (y,s,tm,bl):=by
       unfold YBd;simp only[g1];rfl
      have hlast:bl.getLast?=some [.v (.int .i64 b)]:=by
       rw[List.getLast?_eq_getElem?]at hb⊢
       have hlen:bl.length=seen.length:=g2.1
       rw[hlen]
       obtain⟨e',he'⟩:=Yac (l:=bl) (l':=seen) hlen hb
       rw[he']
       have hcc:=g2.2 _ e' b he' hb
       have hl1:=hcc.1
       match e',hl1 with
       | [z],_=>
         have:=hcc.2 0 z _ rfl rfl
         rw[show z= .v (.int .i64 b)from YaH this]
      refine⟨_,[],by simp only[xF,hif,hio,hyf,hlast,hmo,decide_true,cond_true,f1,show tags.length+2-2=knd ag by omega,f3];rfl,hK _ _ e4 ?_⟩
      refine .tp _ _ rfl (fun j c a h1 h2=> ?_)
      match j,h1,h2 with
      |0,h1,h2=>
       simp at h1 h2;subst h1;subst h2
       cases o with
       |none=>exact .s _
       |some q=>exact .i _ _
      |1,h1,h2=>simp at h1 h2;subst h1;subst h2;exact f4
      |j+2,h1,h2=>simp at h1
     ·cases e4
    ·cases e4
   ·cases h
  ·cases h
 ·cases h
theorem Yqk{a:Nat}{c c':Cs}{l:List c'.den}{m0:List c.den}{m:List c'.den}{x:TV}{ad ax:AV}(hr:HRel Fr H0 X pl H)(ho:vget X a=some (.sq c' l))(hd:TR X pl (.ref a) ad)(hs:srcV c x=some m0)(hx:TR X pl x ax)(hm:asL c c' m0=some m)(h0:0<c.width):
  ∃va us,xF (.cpy c.width) [ad,ax] (hf H) H.length=some (va,us)/\Nxt Fr H0 X pl H (.i .i64 ((min m.length l.length:Nat):Int)) (vset X a (some (.sq c' (m.take (min m.length l.length)++l.drop (min m.length l.length))))) va us:=by
 obtain⟨ec,em⟩:=YaM hm
 subst ec;subst em
 obtain⟨y,n,rfl,hp,hn⟩:=Yam ho hd
 simp only[lenO]at hn;injection hn with hn;subst hn
 obtain⟨y',el,h1,h2,h3,h4⟩:=hr.obj a _ ho
 rw[hp]at h1;injection h1 with h1;subst h1
 obtain⟨sl,g1,g2,g3⟩:=Ycv hs hx
 have hyf:hf H y=some (some ⟨c.width,el⟩):=h2
 have hb:((YAL c.width ax&& (YEH 0 0&&YEH l.length el.length))&& (YEH c.width c.width&& ((sl.all fun e=>YEH e.length c.width)&&YEK 0 c.width)))=true:=by
  rw[g2,h4.1,YET,YET,Yct (Ybz g3)]
  have:YEK 0 c.width=true:=by simpa[YEK]using(show 1<=c.width from h0)
  rw[this,YET];rfl
 refine⟨.v (.int .i64 ((min sl.length l.length:Nat):Int)),[.set y (some ⟨c.width,sl.take (min sl.length l.length)++el.drop (min sl.length l.length)⟩)],by simp only[xF,hyf,g1,hb,cond_true],?_⟩
 have hlen:sl.length=m0.length:=g3.1
 refine⟨pl,by rw[hlen];exact .i _ _,?_,.inl (Yae _ _ _)⟩
 have hle:min m0.length l.length<=l.length:=Nat.min_le_right _ _
 have hle2:min m0.length l.length<=m0.length:=Nat.min_le_left _ _
 refine Ybw hr ho hp _ (by simp[elN];omega) (by simp[lenO];omega) (fun _ _ _ _ e=>by cases e) (fun _ _ _ _ e=>by cases e) (fun hx=>⟨y,_,hp,YEe (YD4.1 h2).1,h3,?_⟩)
 rw[hlen]
 refine Yby ⟨by simp[hlen],fun i e v k1 k2=> ?_⟩ ⟨by simp[h4.1],fun i e v k1 k2=> ?_⟩
 ·rw[YEh]at k1 k2
  split at k1
  ·rename_i hi
   rw[if_pos hi]at k2
   exact g3.2 i e v k1 k2
  ·cases k1
 ·rw[YEq]at k1 k2
  exact h4.2 _ e v k1 k2
end
end Go.Abs
namespace Go.Abs
open Go Go.RowKit
section
variable{Fr:Nat->Prop}{H0:Heap}{X:YzS}{pl:Pl}{H:Heap}{β:Type}{r:β}{env:VEnv}{ae:Env}
theorem YiK(he:ERel X pl env ae){K:List AV->Prop}: ∀{ps:List (Nat×Nat×VOpd)} {l l':List TV} {as:List AV},YBU X l env ps=some l'->CT X pl l as->(∀as',CT X pl l' as'->K as')->YA0 as ae (er3 ps) K
 | [],l,l',as,h,hc,hk=>by simp only[YBU]at h;injection h with h;subst h;exact hk _ hc
 | (off,n,x)::ps,l,l',as,h,hc,hk=>by
   simp only[YBU]at h
   split at h
   ·rename_i cs hcs
    obtain⟨e1,e2⟩:=Yab h
    simp only[YE3]at e1
    simp only[er3,YD8,YA0,opK]
    refine YbN hcs (Yas he x) (fun bs hbs=>⟨by rw[<-hbs.1];exact YEJ e1.1,by rw[<-hc.1];simpa using e1.2,?_⟩)
    exact YiK he e2 (hc.spl hbs off) hk
   ·cases h
theorem Yff(he:ERel X pl env ae){es:Nat}{K:List (List AV)->Prop}: ∀{ps:List (Nat×VOpd)} {l l':List (List TV)} {as:List (List AV)},YBs X es l env ps=some l'->CE X pl l as->(∀e∈l,e.length=es)->
  (∀as',CE X pl l' as'->(∀e∈l',e.length=es)->K as')->YAB es as ae (er2 ps) K
 | [],l,l',as,h,hc,hz,hk=>by simp only[YBs]at h;injection h with h;subst h;exact hk _ hc hz
 | (i,x)::ps,l,l',as,h,hc,hz,hk=>by
   simp only[YBs]at h
   split at h
   ·rename_i cs hcs
    obtain⟨e1,e2⟩:=Yab h
    simp only[YE3]at e1
    simp only[er2,YD8,YAB,opK]
    have hcl:=YEJ e1.1
    have hi:i<l.length:=by simpa using e1.2
    refine YbN hcs (Yas he x) (fun bs hbs=>⟨by rw[<-hbs.1];exact hcl,by rw[<-hc.1];exact hi,?_⟩)
    refine Yff he e2 ⟨by simp[hc.1],fun k e f h1 h2=> ?_⟩ (fun e he'=> ?_) hk
    ·by_cases hk:k=i
     ·subst hk
      rw[YEe hi]at h1
      rw[YEe (by rw[<-hc.1];exact hi)]at h2
      injection h1 with h1;injection h2 with h2;subst h1;subst h2;exact hbs
     ·rw[YEb (Ne.symm hk)]at h1 h2
      exact hc.2 k e f h1 h2
    ·rcases List.mem_or_eq_of_mem_set he' with h|h
     ·exact hz e h
     ·rw[h];exact hcl
   ·cases h
theorem YdA: ∀(c:Cs),CT X pl c.zcells (c.zeros.map zc)/\c.zcells.length=c.width/\CC (c.zeros.map zc) (c.enc c.dft)
 | .nil=>⟨.nil,rfl,rfl,fun j x x' h=>by simp[Cs.zeros]at h⟩
 | .cons t r=>by
   obtain⟨h1,h2,h3⟩:=YdA r
   have key: ∀{t:Ty} {z:TV},TR X pl z (zc t.zero)->Coe (zc t.zero) (t.enc t.dft)->(Cs.zcells (.cons t r)=z::r.zcells)->CT X pl (Cs.zcells (.cons t r)) ((Cs.zeros (.cons t r)).map zc)/\ (Cs.zcells (.cons t r)).length=(Cs.cons t r).width/\CC ((Cs.zeros (.cons t r)).map zc) ((Cs.cons t r).enc (Cs.cons t r).dft):=by
    intro t z g1 g2 g3
    rw[g3]
    refine⟨.cons g1 h1,by simp[Cs.width,h2],?_⟩
    simp only[Cs.zeros,YD8,Cs.enc,Cs.dft,Ybt,Ybu]
    refine⟨by simp[h3.1],fun j x x' k1 k2=> ?_⟩
    cases j with
    |zero=>simp at k1 k2;subst k1;subst k2;exact g2
    |succ j=>simp at k1 k2;exact h3.2 j x x' (by simpa using k1) k2
   cases t with
   |i k=>exact key (.i _ _) (.refl _) rfl
   |b=>exact key (.b _) (.refl _) rfl
   |s=>exact key (.s _) (.refl _) rfl
   |l c=>exact key (.e _) (.empRd _) rfl
theorem YdB{es:Nat}{L:List (List AV)}{c:Cs}{l:List c.den}(h:Rows L c l):Coe (.rd es L) (.rd es (l.map c.enc)):=by
 refine .rd es _ _ (by simp[h.1]) (fun i e e' h1 h2=> ?_) (fun i e e' j x x' h1 h2 h3 h4=> ?_)
 all_goals
  rw[YD6,YEW]at h2
  obtain⟨v,h2,rfl⟩:=h2
 ·exact(h.2 i e v h1 h2).1
 ·exact(h.2 i e v h1 h2).2 j x x' h3 h4
theorem YaI(he:ERel X pl env ae){o:Option VOpd}{d:Int}{dA:Nat}(hd:d=(dA:Nat)){n:Int}(h:vsb env o d=some n)(h0:0<=n){K:Nat->Prop}(hk:K n.toNat):slB ae (o.map VOpd.er) dA K:=by
 cases o with
 |none=>
  simp only[vsb]at h;injection h with h;subst h;subst hd
  simpa[slB]using hk
 |some x=>
  simp only[vsb]at h
  split at h
  ·rename_i k m hx
   injection h with h;subst h
   have:=Yas he x
   rw[hx]at this
   simp only[YEX,slB,opK]
   generalize opd ae x.er=av at this⊢
   cases this
   exact⟨_,_,rfl,h0,hk⟩
  ·cases h
theorem YaP(he:ERel X pl env ae)(xs:List VOpd):CT X pl (xs.map (vo env)) ((xs.map VOpd.er).map (opd ae)):=by
 induction xs with
 |nil=>exact .nil
 |cons x xs ih=>exact .cons (Yas he x) ih
theorem YiL{g:Bool}{n:Nat}{cs:List TV}{as:List AV}{K:TV->YzS->Option β}(h:(match YA5 g n cs with|some a=>K a X|none=>none)=some r)(hc:CT X pl cs as){KA:AV->Prop}(hk: ∀v va,K v X=some r->TR X pl v va->KA va):YAA g n as KA:=by
 split at h
 ·rename_i v hv;exact Yir hv hc (fun a ha=>hk v a h ha)
 ·cases h
theorem Yql{op:VOp}{K:TV->YzS->Option β}(h:vG op env X K=some r)(he:ERel X pl env ae)(hr:HRel Fr H0 X pl H){KA:AV->List Upd->Prop}
  (hk: ∀v X' va us,K v X'=some r->Nxt Fr H0 X pl H v X' va us->KA va us):evG op.aop ae (hf H) H.length KA:=by
 have same: ∀v va,K v X=some r->TR X pl v va->KA va []:=fun v va h1 h2=>hk _ _ _ _ h1 (.same hr h2)
 have vok:=fun x=>Yas he x
 have hn:=fun o=>Yal X o
 cases op<;>simp only[vG]at h<;>simp only[VOp.aop,evG,opK]
 case mm mx xs=>
  have hm:=YaP he xs
  generalize hxs:xs.map (vo env)=l at h hm
  generalize(xs.map VOpd.er).map (opd ae)=as at hm
  split at h
  ·rename_i k m l'
   obtain⟨a,as',rfl,h1,h2⟩:=hm.inv
   cases h1
   split at h
   ·rename_i v hv
    obtain⟨a,h3,h4⟩:=Yiv hv h2
    exact⟨a,by simp only[pvF];exact h3,same _ _ h h4⟩
   ·cases h
  ·cases h
 case emz x lo hi mx=>
  have h1:=vok x;have h2:=vok lo;have h3:=vok hi;have h4:=vok mx
  simp only[YD8,YEa]
  generalize opd ae x.er=ax at h1⊢
  generalize opd ae lo.er=al at h2⊢
  generalize opd ae hi.er=ah at h3⊢
  generalize opd ae mx.er=am at h4⊢
  split at h
  ·rename_i e2 e3 e4
   rw[e2]at h2;rw[e3]at h3;rw[e4]at h4
   cases h2;cases h3;cases h4
   obtain⟨⟨rfl,rfl,rfl⟩,g2⟩:=Yai h
   have hz:YBh (.v (.int ‹_› 0))=true:=rfl
   refine⟨.emp,?_,?_⟩
   ·simp only[pvF,YBh,decide_true,and_self,if_true]
    split at g2
    ·rename_i e1;rw[e1]at h1
     cases h1 with
     |l _ _ _ hc=>rcases YaL hc with⟨rfl,_⟩| ⟨l0,rfl,_⟩<;>rfl
    ·rename_i e1;rw[e1]at h1;cases h1;rfl
    ·cases g2
   ·split at g2
    ·exact same _ _ g2 (.e _)
    ·exact same _ _ g2 (.e _)
    ·cases g2
  ·cases h
 case mv x=>exact same _ _ h (vok x)
 case pick c a b=>
  have h1:=vok c
  generalize opd ae c.er=ac at h1⊢
  split at h
  ·rename_i t e1
   rw[e1]at h1;cases h1
   refine⟨t,rfl,fun ht=> ?_,fun ht=> ?_⟩
   ·subst ht;exact same _ _ h (vok a)
   ·subst ht;exact same _ _ h (vok b)
  ·cases h
 case box x=>
  split at h
  ·rename_i c cs hcs
   obtain⟨e1,e2⟩:=Yab h
   have hl:cs.length+1<=1000:=by simpa using e1
   refine YbN hcs (vok x) (fun as has=>⟨by rw[<-has.1];simp,by rw[<-has.1];simp[maxEl];omega,?_⟩)
   obtain⟨k1,k2⟩:=Yar hr (.st (c::cs)) ⟨as.length,[as]⟩ (fun hx=>⟨H.length,as,by unfold plS;rw[if_pos rfl],by rw[has.1];simp,by simp,has.ext hx⟩)
   exact hk _ _ _ _ e2 ⟨_,.ptr X.length 0 0 H.length _ (hn _) (by simp[elN]) (by unfold plS;rw[if_pos rfl]),⟨k1,k2⟩,.inr ⟨by simp[Yae],by unfold plS;rw[if_pos rfl]⟩⟩
  ·cases h
 case alloc z=>
  obtain⟨e1,e2⟩:=Yab h
  simp only[YE3,YEo]at e1
  have hz:(z.map K1.val).map zc=z.map K1.av:=by
   rw[YEz];exact List.map_congr_left (fun k hk=>Yio (e1.1 k hk))
  have hm:=CT.map1 (X:=X) (pl:=pl) z
  obtain⟨k1,k2⟩:=Yar hr (.st (z.map K1.tv)) ⟨(z.map K1.val).length,[(z.map K1.val).map zc]⟩ (fun hx=>⟨H.length,z.map K1.av,by unfold plS;rw[if_pos rfl],by rw[hz];simp,by simpa using e1.2,hm.ext hx⟩)
  exact hk _ _ _ _ e2 ⟨_,.ptr X.length 0 0 H.length _ (hn _) (by simp[elN]) (by unfold plS;rw[if_pos rfl]),⟨k1,k2⟩,.inr ⟨by simp[Yae],by unfold plS;rw[if_pos rfl]⟩⟩
 case build z ps=>
  obtain⟨e1,e2⟩:=Yab h
  simp only[YEo]at e1
  have hz:(z.map K1.val).map zc=z.map K1.av:=by
   rw[YEz];exact List.map_congr_left (fun k hk=>Yio (e1 k hk))
  split at e2
  ·rename_i cs hcs
   rw[hz]
   exact YiK he hcs (CT.map1 z) (fun as has=>same _ _ e2 (.ag _ _ has.1 has.2))
  ·cases e2
 case bsl c n ps=>
  obtain⟨e1,e2⟩:=Yab h
  obtain⟨z1,z2,z3⟩:=YdA (X:=X) (pl:=pl) c
  have hce:CE X pl (List.replicate n c.zcells) (List.replicate n (c.zeros.map zc)):=⟨by simp,fun i e f h1 h2=>by
   rw[YEC]at h1 h2
   split at h1
   ·rename_i hi;rw[if_pos hi]at h2;injection h1 with h1;injection h2 with h2;subst h1;subst h2;exact z1
   ·cases h1⟩
  have hzl: ∀e∈List.replicate n c.zcells,e.length=c.width:=fun e he=>by rw[(List.mem_replicate.1 he).2];exact z2
  split at e2
  ·rename_i hf
   refine Yff he hf hce hzl (fun as has _=> ?_)
   have hl:=has.1
   cases as with
   |nil=>exact same _ _ e2 (.e _)
   |cons _ _=>simp at hl
  ·rename_i e els hf
   refine Yff he hf hce hzl (fun as has hz=> ?_)
   have hl:=has.1
   cases as with
   |nil=>simp at hl
   |cons f fs=>
    split at e2
    ·rename_i l hp
     exact same _ _ e2 (.l c l _ (YdB (Ycq hp has)))
    ·refine same _ _ e2 (.lt c.width _ _ hl (by simp) hz (fun f' hf'=> ?_) (fun i j e f c a h1 h2 h3 h4=>(has.2 i e f h1 h2).2 j c a h3 h4))
     obtain⟨i,hi⟩:=YEi.1 hf'
     have hil:=(YD4.1 hi).1
     have hil':i< (e::els).length:=by rw[hl];exact hil
     have:=has.2 i _ _ (YD7 hil') hi
     rw[<-this.1];exact hz _ (List.getElem_mem hil')
  ·cases e2
 case load g n x=>exact Yiy h (vok x) hr (fun v va h1 h2=>same v va h1 h2)
 case loadR g n x=>
  have h1:=vok x
  generalize opd ae x.er=ax at h1⊢
  split at h
  ·rename_i cs e1
   rw[e1]at h1
   cases h1 with
   |rp _ as hl hc=>exact YiL h ⟨hl,hc⟩ (fun v va h1 h2=>same v va h1 h2)
  ·cases h
 case store n x y=>exact YpT h (vok x) (vok y) hr hk
 case nilc x=>
  have h1:=vok x
  generalize opd ae x.er=ax at h1⊢
  split at h
  ·rename_i e1;rw[e1]at h1;have h2:=h1;cases h2;exact same _ _ h h1
  ·rename_i a i j e1;rw[e1]at h1
   obtain⟨g1,g2⟩:=Yab h
   obtain⟨o,ho⟩:=YE0.1 g1
   obtain⟨x',rfl,hp,hi⟩:=Ybe ho h1
   exact same _ _ g2 h1
  ·rename_i a ver i k j e1;rw[e1]at h1
   split at h
   ·rename_i c ver' l ho
    obtain⟨g1,g2⟩:=Yab h
    have:=YEJ g1;subst this
    obtain⟨y,rfl,_⟩:=Ye6 ho h1
    exact same _ _ g2 h1
   ·cases h
  ·rename_i e1;rw[e1]at h1;have h2:=h1;cases h2;exact same _ _ h h1
  ·cases h
 case bin op x y=>exact YpP h (vok x) (vok y) (fun w z h1 h2=>same _ _ h1 h2)
 case beq ng x y=>
  have h1:=vok x;have h2:=vok y
  generalize opd ae x.er=ax at h1⊢
  generalize opd ae y.er=ay at h2⊢
  split at h
  ·rename_i e1 e2
   rw[e1]at h1;rw[e2]at h2;cases h1;cases h2
   refine⟨_,rfl,_,rfl,?_⟩
   cases ng<;>exact same _ _ h (.b _)
  ·cases h
 case eqa ng ks x y=>
  have h1:=vok x;have h2:=vok y
  generalize opd ae x.er=ax at h1⊢
  generalize opd ae y.er=ay at h2⊢
  split at h
  ·rename_i cs ds e1 e2
   rw[e1]at h1;rw[e2]at h2
   cases h1 with
   |ag _ as hl hc=>
    cases h2 with
    |ag _ bs hl' hc'=>
     split at h
     ·rename_i b hb
      refine⟨as,bs,b,rfl,rfl,Yiu hb ⟨hl,hc⟩ ⟨hl',hc'⟩,?_⟩
      cases ng<;>exact same _ _ h (.b _)
     ·cases h
  ·cases h
 case not x=>
  have h1:=vok x
  generalize opd ae x.er=ax at h1⊢
  split at h
  ·rename_i e1;rw[e1]at h1;cases h1;exact⟨_,rfl,same _ _ h (.b _)⟩
  ·cases h
 case neg x=>
  have h1:=vok x
  generalize opd ae x.er=ax at h1⊢
  split at h
  ·rename_i e1;rw[e1]at h1;cases h1;exact⟨_,_,rfl,same _ _ h (.i _ _)⟩
  ·cases h
 case conv k x=>
  have h1:=vok x
  generalize opd ae x.er=ax at h1⊢
  split at h
  ·rename_i e1;rw[e1]at h1;cases h1;exact⟨_,_,rfl,same _ _ h (.i _ _)⟩
  ·cases h
 case cvs x=>
  have h1:=vok x
  generalize opd ae x.er=ax at h1⊢
  split at h
  ·rename_i e1;rw[e1]at h1;cases h1;exact⟨_,rfl,same _ _ h (.s _)⟩
  ·cases h
 case fad off x=>
  have h1:=vok x
  generalize opd ae x.er=ax at h1⊢
  split at h
  ·rename_i e1;rw[e1]at h1
   cases h1 with
   |rp cs as hl hc=>exact same _ _ h (.rp _ _ (CT.drop ⟨hl,hc⟩ off).1 (CT.drop ⟨hl,hc⟩ off).2)
  ·rename_i a i j e1;rw[e1]at h1
   obtain⟨g1,g2⟩:=Yab h
   obtain⟨o,ho⟩:=YE0.1 g1
   obtain⟨x',rfl,hp,hi⟩:=Ybe ho h1
   exact same _ _ g2 (.ptr a i _ x' o ho hi hp)
  ·rename_i a ver i k j e1;rw[e1]at h1
   split at h
   ·rename_i c ver' l ho
    obtain⟨g1,g2⟩:=Yab h
    have:=YEJ g1;subst this
    obtain⟨y,rfl,hi,hkk,hp⟩:=Ye6 ho h1
    exact same _ _ g2 (.pti a ver i k _ y c l ho hi hkk hp)
   ·cases h
  ·cases h
 case fld g off n x=>
  have h1:=vok x
  generalize opd ae x.er=ax at h1⊢
  split at h
  ·rename_i e1;rw[e1]at h1
   cases h1 with
   |ag cs as hl hc=>
    obtain⟨g1,g2⟩:=Yab h
    exact⟨as,rfl,by rw[<-hl];simpa using g1,YiL g2 (CT.drop ⟨hl,hc⟩ off) (fun v va h1 h2=>same v va h1 h2)⟩
  ·cases h
 case iad es x i=>exact YpU h (vok x) (vok i) hr (fun v va h1 h2=>same v va h1 h2)
 case iada=>cases h
 case idx x i=>
  have h1:=vok x;have h2:=vok i
  generalize opd ae x.er=ax at h1⊢
  generalize opd ae i.er=ai at h2⊢
  split at h
  ·rename_i s k n e1 e2
   rw[e1]at h1;rw[e2]at h2;cases h1;cases h2
   obtain⟨g1,g2⟩:=Yai h
   have hlt:n.toNat<s.size:=by omega
   refine⟨s,rfl,k,n,rfl,g1.1,s[n.toNat],getElem?_pos s n.toNat hlt,?_⟩
   have hb:YzT s n=((s[n.toNat]).toNat:Int):=by
    have hlt2:n.toNat<s.data.size:=hlt
    simp only[YzT,YFa,YFe hlt2,YEZ];rfl
   rw[hb]at g2
   exact same _ _ g2 (.i _ _)
  ·cases h
 case slcS x lo hi=>
  have h1:=vok x
  generalize opd ae x.er=ax at h1⊢
  split at h
  ·rename_i s e1;rw[e1]at h1;cases h1
   split at h
   ·rename_i l u hl hu
    obtain⟨⟨g1,g2,g3⟩,g4⟩:=Yai h
    exact⟨s,rfl,YaI he rfl hl g1 (YaI he rfl hu (by omega) ⟨by omega,by omega,same _ _ g4 (.s _)⟩)⟩
   ·cases h
  ·cases h
 case slcR es x lo hi=>
  have h1:=vok x
  generalize opd ae x.er=ax at h1⊢
  split at h
  ·rename_i c v e1;rw[e1]at h1
   obtain⟨g1,g2⟩:=Yab h
   split at g2
   ·rename_i l u hl hu
    obtain⟨⟨q1,q2,q3⟩,q4⟩:=Yai g2
    cases h1 with
    |l _ _ _ hc=>
     rcases YaL hc with⟨rfl,hb⟩| ⟨l0,rfl,hl0,hcc⟩
     ·have hv:v=[]:=by simpa using hb
      subst hv
      simp only[YEA]at q3 hu
      refine YaI he rfl hl q1 (YaI he rfl hu (by omega) ⟨by omega,by omega,same _ _ q4 ?_⟩)
      refine .l c _ _ ?_
      simp only[List.take_nil,List.drop_nil,YEa];exact .empRd _
     ·simp only[YEk]at hl0
      refine⟨YEJ g1,YaI he rfl hl q1 (YaI he (dA:=l0.length) (by rw[hl0]) hu (by omega) ⟨by omega,by omega,same _ _ q4 ?_⟩)⟩
      refine .l c _ _ (YdB ⟨by simp[hl0],fun i e w k1 k2=> ?_⟩)
      rw[YEq,YEh]at k1 k2
      split at k1
      ·rename_i hlt;rw[if_pos hlt]at k2
       exact hcc _ e _ k1 (by rw[YD6,k2];rfl)
      ·cases k1
   ·cases g2
  ·rename_i c e1;rw[e1]at h1;cases h1
   split at h
   ·rename_i l u hl hu
    obtain⟨⟨rfl,rfl⟩,q4⟩:=Yai h
    exact YaI he rfl hl (by omega) (YaI he rfl hu (by omega) ⟨rfl,rfl,same _ _ q4 (.e _)⟩)
   ·cases h
  ·rename_i a e1;rw[e1]at h1
   split at h
   ·rename_i c l ho
    obtain⟨x',n,rfl,hp,hnn⟩:=Yam ho h1
    have hnl:=hnn
    simp only[lenO]at hnl;injection hnl with hnl;subst hnl
    split at h
    ·rename_i lo' hl
     obtain⟨rfl,q4⟩:=Yai h
     exact YaI he rfl hl (by omega) ⟨rfl,YEI _,same _ _ q4 (.ref a x' _ _ ho hnn hp)⟩
    ·rename_i lo' hi' hl
     split at h
     ·rename_i k u hu
      obtain⟨⟨rfl,q2,q3⟩,q4⟩:=Yai h
      have h2:=vok hi'
      rw[hu]at h2
      refine YaI he rfl hl (by omega) ?_
      simp only[YEX,slB,opK]
      generalize opd ae hi'.er=ah at h2⊢
      cases h2
      exact⟨k,u,rfl,q2,rfl,by omega,same _ _ q4 (.pre a x' u _ _ ho hnn hp q2 (by omega))⟩
     ·cases h
    ·cases h
   ·cases h
  ·rename_i a m e1;rw[e1]at h1
   split at h
   ·rename_i c l ho
    obtain⟨x',n,rfl,hp,hnn,h0,hm⟩:=YbM ho h1
    split at h
    ·rename_i lo' u hl hu
     obtain⟨⟨rfl,q2,q3⟩,q4⟩:=Yai h
     exact YaI he rfl hl (by omega) (YaI he (dA:=m.toNat) (by omega) hu q2 ⟨rfl,by omega,same _ _ q4 (.pre a x' u _ _ ho hnn hp q2 (by omega))⟩)
    ·cases h
   ·cases h
  ·cases h
 case ext x i=>
  have h1:=vok x
  generalize opd ae x.er=ax at h1⊢
  split at h
  ·rename_i cs e1;rw[e1]at h1
   cases h1 with
   |tp _ as hl hc=>
    split at h
    ·rename_i b hb
     obtain⟨a,k1,k2⟩:=CT.get (X:=X) (pl:=pl) ⟨hl,hc⟩ hb
     exact⟨as,rfl,a,k1,same _ _ h k2⟩
    ·cases h
  ·cases h
 case len x=>
  have h1:=vok x
  generalize opd ae x.er=ax at h1⊢
  unfold vlen at h
  split at h
  ·rename_i c v e1;rw[e1]at h1
   cases h1 with
   |l _ _ _ hc=>
    rcases YaL hc with⟨rfl,hb⟩| ⟨l0,rfl,hl0,_⟩
    ·have hv:v=[]:=by simpa using hb
     subst hv;exact same _ _ h (.i _ _)
    ·simp only[YEk]at hl0
     rw[<-hl0]at h;exact same _ _ h (.i _ _)
  ·rename_i e1;rw[e1]at h1;cases h1;exact same _ _ h (.i _ _)
  ·rename_i els e1;rw[e1]at h1
   cases h1 with
   |lt es _ as hl=>rw[hl]at h;exact same _ _ h (.i _ _)
  ·rename_i a e1;rw[e1]at h1
   split at h
   ·rename_i ho
    obtain⟨x',n,rfl,hp,hnn⟩:=Yam ho h1
    simp only[lenO]at hnn;injection hnn with hnn;subst hnn
    exact same _ _ h (.i _ _)
   ·rename_i ho
    obtain⟨x',n,rfl,hp,hnn⟩:=Yam ho h1
    simp only[lenO]at hnn;injection hnn with hnn;subst hnn
    exact same _ _ h (.i _ _)
   ·rename_i ho
    obtain⟨x',n,rfl,hp,hnn⟩:=Yam ho h1
    simp only[lenO]at hnn;injection hnn with hnn;subst hnn
    exact same _ _ h (.i _ _)
   ·cases h
  ·rename_i a m e1;rw[e1]at h1
   split at h
   ·rename_i ho
    obtain⟨x',n,rfl,hp,hnn,h0,hm⟩:=YbM ho h1
    have:m=((m.toNat:Nat):Int):=by omega
    rw[this]at h
    exact same _ _ h (.i _ _)
   ·cases h
  ·rename_i a ver i e1;rw[e1]at h1
   split at h
   ·rename_i c ver' l ho
    obtain⟨g1,g2⟩:=Yab h
    have:=YEJ g1;subst this
    obtain⟨hi,⟨y,rfl,hp⟩| ⟨rfl,hp,h0⟩⟩:=Ye5 ho h1
    ·exact same _ _ g2 (.i _ _)
    ·rw[h0]at g2;exact same _ _ g2 (.i _ _)
   ·cases h
  ·cases h
 case lenS x=>
  have h1:=vok x
  generalize opd ae x.er=ax at h1⊢
  split at h
  ·rename_i e1;rw[e1]at h1;cases h1;exact⟨_,rfl,same _ _ h (.i _ _)⟩
  ·cases h
 case app c w s x=>exact YpX h (vok s) (vok x) hr hk
 case mksl c w n cp=>
  have h1:=vok n;have h2:=vok cp
  generalize opd ae n.er=an at h1⊢
  generalize opd ae cp.er=ac at h2⊢
  split at h
  ·rename_i k n k' m e1 e2
   rw[e1]at h1;rw[e2]at h2;cases h1;cases h2
   obtain⟨⟨g1,g2,g3⟩,g4⟩:=Yai h
   refine⟨_,_,rfl,_,_,rfl,g1,g2,g3,?_⟩
   split at g4
   ·rename_i c'
    obtain⟨q1,q2⟩:=Yab g4
    obtain⟨k1,k2⟩:=Yar hr (.fm c' 0 none (List.replicate n.toNat [])) ⟨1,List.replicate n.toNat [.emp]⟩ (fun hx=>⟨H.length,List.replicate n.toNat [.emp],by unfold plS;rw[if_pos rfl],by simp,by simpa using q1,by simp,fun e he=>by rw[(List.mem_replicate.1 he).2];rfl,fun i e v a1 a2 _=>by
      rw[YEC]at a1 a2
      split at a1
      ·rename_i hi;rw[if_pos hi]at a2;injection a1 with a1;injection a2 with a2
       refine .inr ⟨?_,a2.symm,a1.symm⟩
       unfold plS;rw[if_neg (fun e=>by cases e)];exact hr.dead (Yan (YEI _))
      ·cases a1⟩)
    exact hk _ _ _ _ q2 ⟨_,.ref X.length H.length _ _ (hn _) (by simp[lenO]) (by unfold plS;rw[if_pos rfl]),⟨k1,k2⟩,.inr ⟨by simp[Yae],by unfold plS;rw[if_pos rfl]⟩⟩
   ·obtain⟨q1,q2⟩:=Yab g4
    obtain⟨z1,z2,z3⟩:=YdA (X:=X) (pl:=pl) c
    obtain⟨k1,k2⟩:=Yar hr (.sq c (List.replicate n.toNat c.dft)) ⟨c.width,List.replicate n.toNat (c.zeros.map zc)⟩ (fun hx=>⟨H.length,List.replicate n.toNat (c.zeros.map zc),by unfold plS;rw[if_pos rfl],by simp,by simpa using q1,by simp,fun i e v a1 a2=>by
      rw[YEC]at a1 a2
      split at a1
      ·rename_i hi;rw[if_pos hi]at a2;injection a1 with a1;injection a2 with a2;subst a1;subst a2;exact z3
      ·cases a1⟩)
    exact hk _ _ _ _ q2 ⟨_,.ref X.length H.length _ _ (hn _) (by simp[lenO]) (by unfold plS;rw[if_pos rfl]),⟨k1,k2⟩,.inr ⟨by simp[Yae],by unfold plS;rw[if_pos rfl]⟩⟩
   ·cases g4
  ·cases h
 case mkf f caps=>exact same _ _ h (.clo f _ _ (YaP he caps).1 (YaP he caps).2)
 case call=>cases h
 case dyn=>cases h
 case dynP=>cases h
 case callN=>cases h
 case lit c xs=>
  split at h
  ·rename_i e els hc
   obtain⟨e1,e2⟩:=Yab h
   simp only[YE3,Nat.ble_eq]at e1
   split at e2
   ·rename_i l hp
    obtain⟨va,us,k1,k2⟩:=Yp8 hc hp (YEU e1.1) e1.2 (YaP he xs) hr
    exact⟨va,us,k1,hk _ _ _ _ e2 k2⟩
   ·cases e2
  ·cases h
 case appD c s x=>
  obtain⟨e1,e2⟩:=Yab h
  exact Yp0 (YEU e1) e2 (vok s) (vok x) hr hk
 case apps s x=>
  have h2:=vok x
  split at h
  ·rename_i b e1
   rw[e1]at h2
   have:opd ae x.er= .v (.string b):=YiF h2
   simp only[YD8,YEa,this]
   exact Yp2 h (vok s) hr hk
  ·cases h
 case appb s x=>exact Yp4 h (vok s) (vok x) hr hk
 case appDb s x=>exact Yp5 h (vok s) (vok x) hr hk
 case litb xs=>
  split at h
  ·rename_i e els hc
   obtain⟨e1,e2⟩:=Yab h
   simp only[Nat.ble_eq]at e1
   split at e2
   ·rename_i l hp
    obtain⟨e3,e4⟩:=Yab e2
    obtain⟨va,us,k1,k2⟩:=Yp6 hc hp e3 e1 (YaP he xs) hr
    exact⟨va,us,k1,hk _ _ _ _ e4 k2⟩
   ·cases e2
  ·cases h
 case bstr x=>exact Yp7 h (vok x) hr same
 case bld=>exact⟨_,_,rfl,hk _ _ _ _ h (Yp9 hr)⟩
 case isp ng x=>
  have h2:=vok x
  simp only[YD8,YEa]
  generalize opd ae x.er=ax at h2⊢
  split at h
  ·rename_i e1
   rw[e1]at h2;cases h2
   refine⟨.v (.bool !ng),by cases ng<;>rfl,same _ _ h (.b _)⟩
  ·rename_i a p q e1
   rw[e1]at h2
   obtain⟨e2,e3⟩:=Yab h
   cases h2 with
   |ptr _ _ _ y o h hi hp=>exact⟨.v (.bool ng),rfl,same _ _ e3 (.b _)⟩
   |ptrD _ _ _ _ h _=>rw[h]at e2;cases e2
  ·cases h
 case sbyt x=>
  have h2:=vok x
  split at h
  ·rename_i b e1
   rw[e1]at h2
   have:opd ae x.er= .v (.string b):=YiF h2
   refine⟨.rd 1 (strA b),by simp only[YD8,YEa,this,pvF];rfl,same _ _ h (.l U8 (strL b) _ (rows_coe' (YaU b).rows))⟩
  ·cases h
 case add64 xs=>
  have h2:=YaP he xs
  split at h
  ·rename_i x y c e1
   obtain⟨e2,e3⟩:=Yai h
   rw[YiG e1 h2]
   refine⟨.tup [.v (.int .u64 (YAP x y c).1),.v (.int .u64 (YAP x y c).2)],by simp only[pvF,if_pos e2],same _ _ e3 (.tp _ _ rfl (fun j c a h1 h2=> ?_))⟩
   match j,h1,h2 with
   |0,h1,h2=>simp at h1 h2;subst h1;subst h2;exact .i _ _
   |1,h1,h2=>simp at h1 h2;subst h1;subst h2;exact .i _ _
   |j+2,h1,h2=>simp at h1
  ·cases h
 case mkm o t V ag=>
  refine⟨_,_,?_,hk _ _ _ _ h (Yqh o t V ag hr)⟩
  cases ag<;>rfl
 case mget o t V ag ok m k=>
  obtain⟨v,us,h1,h2⟩:=Yqd h (vok m) (vok k) hr (YdA (X:=X) (pl:=pl) (.cons t V)).2.2 same
  exact⟨v,us,h1,h2⟩
 case mput o t V ag m k v=>
  obtain⟨w,us,h1,h2⟩:=Yqf h (vok m) (vok k) (vok v) hr hk
  exact⟨w,us,h1,h2⟩
 case mdel o t V m k=>
  obtain⟨w,us,h1,h2⟩:=Yqg h (vok m) (vok k) hr hk
  exact⟨w,us,h1,h2⟩
 case mlen m=>
  have h2:=vok m
  split at h
  ·rename_i a e1
   rw[e1]at h2
   split at h
   ·rename_i n c l tags ho
    obtain⟨e3,e4⟩:=Yab h
    simp only[YE5,YES]at e3
    obtain⟨y,e5,hp⟩:=YaO ho h2
    obtain⟨el,at',R,hy,hmo,hrow,_⟩:=Ydx hr ho hp e3
    have hyf:hf H y=some (some ⟨tags.length+2,[.v (.int .i64 n)::R::at']⟩):=hy
    refine⟨.v (.int .i64 (el.length:Nat)),[],by simp only[YD8,YEa,e5,xF,hyf,hmo],same _ _ e4 ?_⟩
    rw[hrow.1];exact .i _ _
   ·cases h
  ·cases h
 case mrng m=>
  have h2:=vok m
  split at h
  ·rename_i a e1
   rw[e1]at h2
   split at h
   ·rename_i n c l tags ho
    obtain⟨e3,e4⟩:=Yab h
    simp only[YE5,YES]at e3
    obtain⟨y,e5,hp⟩:=YaO ho h2
    obtain⟨va,us,k1,k2⟩:=Yqi hr ho hp e3
    exact⟨va,us,by simp only[YD8,YEa,e5];exact k1,hk _ _ _ _ e4 k2⟩
   ·cases h
  ·cases h
 case ment o t V ag it=>
  obtain⟨w,us,h1,h2⟩:=Yqj h (vok it) hr same
  exact⟨w,us,h1,h2⟩
 case mnxt it=>cases h
 case cpy c d s=>
  have h2:=vok d
  split at h
  ·rename_i a e1
   rw[e1]at h2
   split at h
   ·rename_i c' l ho
    split at h
    ·rename_i m0 hs
     split at h
     ·rename_i m hm
      obtain⟨e3,e4⟩:=Yab h
      obtain⟨va,us,k1,k2⟩:=Yqk hr ho h2 hs (vok s) hm (show 1<=c.width by simpa[YEK]using e3)
      exact⟨va,us,k1,hk _ _ _ _ e4 k2⟩
     ·cases h
    ·cases h
   ·cases h
  ·cases h
 case sub64 xs=>
  have h2:=YaP he xs
  split at h
  ·rename_i x y c e1
   obtain⟨e2,e3⟩:=Yai h
   rw[YiG e1 h2]
   refine⟨.tup [.v (.int .u64 (YAQ x y c).1),.v (.int .u64 (YAQ x y c).2)],by simp only[pvF,if_pos e2],same _ _ e3 (.tp _ _ rfl (fun j c a h1 h2=> ?_))⟩
   match j,h1,h2 with
   |0,h1,h2=>simp at h1 h2;subst h1;subst h2;exact .i _ _
   |1,h1,h2=>simp at h1 h2;subst h1;subst h2;exact .i _ _
   |j+2,h1,h2=>simp at h1
  ·cases h
end
end Go.Abs
namespace Go.Abs
open Go Go.RowKit
mutual
theorem SV.eq_of: ∀{x y:SV},x.eqb y=true->x=y
 | .i k,y,h=>by
   cases y<;>first| (simp[SV.eqb]at h;done)|skip
   simp only[SV.eqb,decide_eq_true_eq]at h;rw[h]
 | .b,y,h=>by cases y<;>first| (simp[SV.eqb]at h;done)|rfl
 | .s,y,h=>by cases y<;>first| (simp[SV.eqb]at h;done)|rfl
 | .u,y,h=>by cases y<;>first| (simp[SV.eqb]at h;done)|rfl
 | .nl,y,h=>by cases y<;>first| (simp[SV.eqb]at h;done)|rfl
 | .l c,y,h=>by
   cases y<;>first| (simp[SV.eqb]at h;done)|skip
   rw[Cs.eq_of (show Cs.eqb c _=true from h)]
 | .e c,y,h=>by
   cases y<;>first| (simp[SV.eqb]at h;done)|skip
   rw[Cs.eq_of (show Cs.eqb c _=true from h)]
 | .np a,y,h=>by
   cases y<;>first| (simp[SV.eqb]at h;done)|skip
   rw[YEJ (show YEH a _=true from h)]
 | .ref a,y,h=>by
   cases y<;>first| (simp[SV.eqb]at h;done)|skip
   rw[YEJ (show YEH a _=true from h)]
 | .pre a,y,h=>by
   cases y<;>first| (simp[SV.eqb]at h;done)|skip
   rw[YEJ (show YEH a _=true from h)]
 | .ptr a p q,y,h=>by
   cases y<;>first| (simp[SV.eqb]at h;done)|skip
   simp only[SV.eqb,YE3]at h
   rw[YEJ h.1.1,YEJ h.1.2,YEJ h.2]
 | .ag x,y,h=>by
   cases y<;>first| (simp[SV.eqb]at h;done)|skip
   rw[SV.eqs_of (show SV.eqbs x _=true from h)]
 | .tp x,y,h=>by
   cases y<;>first| (simp[SV.eqb]at h;done)|skip
   rw[SV.eqs_of (show SV.eqbs x _=true from h)]
 | .clo g x,y,h=>by
   cases y<;>first| (simp[SV.eqb]at h;done)|skip
   simp only[SV.eqb,YE3]at h
   rw[YEJ h.1,SV.eqs_of h.2]
theorem SV.eqs_of: ∀{x y:List SV},SV.eqbs x y=true->x=y
 | [],[],_=>rfl
 |a::r,a'::r',h=>by
  simp only[SV.eqbs,YE3]at h
  rw[SV.eq_of h.1,SV.eqs_of h.2]
 | [],_::_,h|_::_,[],h=>by simp[SV.eqbs]at h
end
theorem SO.eq_of{x y:SO}(h:x.eqb y=true):x=y:=by
 cases x<;>cases y<;>first| (simp[SO.eqb]at h;done)|skip
 ·rw[Cs.eq_of (show _=true from h)]
 ·rw[Cs.eq_of (show _=true from h)]
 ·rw[SV.eqs_of (show _=true from h)]
 ·rfl
 ·rfl
theorem SO.eqs_of: ∀{x y:List SO},SO.eqbs x y=true->x=y
 | [],[],_=>rfl
 |a::r,a'::r',h=>by
  simp only[SO.eqbs,YE3]at h
  rw[SO.eq_of h.1,SO.eqs_of h.2]
 | [],_::_,h|_::_,[],h=>by simp[SO.eqbs]at h
theorem Ya4(c:Cs)(v:List c.den):asL c c v=some v:=by
 unfold asL Ty.cast
 rw[dif_pos (by simpa[Ty.eqb]using Cs.eqb_refl c)]
 rfl
mutual
theorem Yfg: ∀{tv:TV} {sv:SV} (r:List Lf),tv.sh=some sv->YzY sv (tv.lv++r)=some (tv,r)
 | .i k n,sv,r,h=>by simp only[TV.sh]at h;injection h with h;subst h;simp[TV.lv,YzY]
 | .b x,sv,r,h=>by simp only[TV.sh]at h;injection h with h;subst h;simp[TV.lv,YzY]
 | .s x,sv,r,h=>by simp only[TV.sh]at h;injection h with h;subst h;simp[TV.lv,YzY]
 | .l c v,sv,r,h=>by simp only[TV.sh]at h;injection h with h;subst h;simp[TV.lv,YzY,Ya4]
 | .u,sv,r,h=>by simp only[TV.sh]at h;injection h with h;subst h;simp[TV.lv,YzY]
 | .ref a,sv,r,h=>by simp only[TV.sh]at h;injection h with h;subst h;simp[TV.lv,YzY]
 | .pre a n,sv,r,h=>by simp only[TV.sh]at h;injection h with h;subst h;simp[TV.lv,YzY]
 | .ptr a p q,sv,r,h=>by simp only[TV.sh]at h;injection h with h;subst h;simp[TV.lv,YzY]
 | .np a,sv,r,h=>by simp only[TV.sh]at h;injection h with h;subst h;simp[TV.lv,YzY]
 | .ag x,sv,r,h=>by
   simp only[TV.sh]at h
   split at h
   ·rename_i y hy;injection h with h;subst h;simp only[TV.lv,YzY,YbO r hy]
   ·cases h
 | .tp x,sv,r,h=>by
   simp only[TV.sh]at h
   split at h
   ·rename_i y hy;injection h with h;subst h;simp only[TV.lv,YzY,YbO r hy]
   ·cases h
 | .clo g x,sv,r,h=>by
   simp only[TV.sh]at h
   split at h
   ·rename_i y hy;injection h with h;subst h;simp only[TV.lv,YzY,YbO r hy]
   ·cases h
 | .e c,sv,r,h=>by simp only[TV.sh]at h;injection h with h;subst h;simp[TV.lv,YzY]
 | .nl,sv,r,h=>by simp only[TV.sh]at h;injection h with h;subst h;simp[TV.lv,YzY]
 | .v _,_,_,h| .sub _ _ _,_,_,h| .pti _ _ _ _ _,_,_,h| .rp _,_,_,h| .lt _,_,_,h=>by simp[TV.sh]at h
theorem YbO: ∀{vs:List TV} {svs:List SV} (r:List Lf),TV.shs vs=some svs->YAa svs (TV.lvs vs++r)=some (vs,r)
 | [],svs,r,h=>by simp only[TV.shs]at h;injection h with h;subst h;simp[TV.lvs,YAa]
 |a::vs,svs,r,h=>by
  simp only[TV.shs]at h
  split at h
  ·rename_i x xs h1 h2
   injection h with h;subst h
   simp only[TV.lvs,YAa,YEv,Yfg (TV.lvs vs++r) h1,YbO r h2]
  ·cases h
end
theorem Yqm{o:VObj}{so:SO}(r:List Lf)(h:o.sh=some so):YAE so (o.lv++r)=some (o,r):=by
 cases o with
 |sq c l=>simp only[VObj.sh]at h;injection h with h;subst h;simp[VObj.lv,YAE,Ya4]
 |fm c ver hole l=>
  cases hole with
  |some i=>cases h
  |none=>
   simp only[VObj.sh]at h
   obtain⟨h1,h2⟩:=Yab h
   injection h2 with h2;subst h2
   have:=YEJ h1;subst this
   have:=Ya4 (.cons (.l c) .nil) l
   simp only[VObj.lv,YAE,YEx,YEy]
   rw[this]
 |st cs=>
  simp only[VObj.sh]at h
  split at h
  ·rename_i l hl;injection h with h;subst h;simp only[VObj.lv,YAE,YbO r hl]
  ·cases h
 |sb s=>simp only[VObj.sh]at h;injection h with h;subst h;simp[VObj.lv,YAE]
theorem Yqn{o:VObj}(h:o.sh=some .dd):False:=by
 cases o with
 |sq c l=>simp[VObj.sh]at h
 |fm c ver hole l=>cases hole with
  |none=>simp only[VObj.sh]at h;obtain⟨_,h⟩:=Yab h;cases h
  |some i=>cases h
 |st cs=>simp only[VObj.sh]at h;split at h<;>cases h
 |sb s=>cases h
theorem YdC: ∀{X:YzS} {so:List SO} (r:List Lf),shOs X=some so->Yz4 so (lvOs X++r)=some (X,r)
 | [],so,r,h=>by simp only[shOs]at h;injection h with h;subst h;simp[lvOs,Yz4]
 |none::X,so,r,h=>by
  simp only[shOs]at h
  split at h
  ·rename_i xs h2
   injection h with h;subst h
   simp only[lvOs,Yz4,YdC r h2]
  ·cases h
 |some o::X,so,r,h=>by
  simp only[shOs]at h
  split at h
  ·rename_i x xs h1 h2
   injection h with h;subst h
   have hx:x≠ .dd:=fun e=>by subst e;exact Yqn h1
   have:Yz4 (x::xs) (o.lv++lvOs X++r)=match YAE x (o.lv++lvOs X++r)with|some (x,r)=>(match Yz4 xs r with|some (xs,r)=>some (some x::xs,r)|none=>none)|none=>none:=by cases x<;>first|rfl|exact absurd rfl hx
   simp only[lvOs]
   rw[this]
   simp only[YEv,Yqm (lvOs X++r) h1,YdC r h2]
  ·cases h
theorem YdD: ∀l:List Lf,unp (YAI l).1 (YAI l).2=l
 | []=>rfl
 |a::r=>by
  have:=YdD r
  simp only[YAI,unp,Ybt,Ybu,this]
theorem YaE{g:Sg}{vs:List TV}{X:YzS}{x:g.c.den}(h:g.read vs X=some x):g.fill x=some ⟨zipE g.ts vs,X⟩:=by
 unfold Sg.read at h
 split at h
 ·rename_i svs sos h1 h2
  obtain⟨e1,e2⟩:=Yab h
  simp only[YE3]at e1
  have q1:=SV.eqs_of e1.1;have q2:=SO.eqs_of e1.2
  have hu:=YdD (TV.lvs vs++lvOs X)
  generalize YAI (TV.lvs vs++lvOs X)=p at e2 hu
  obtain⟨c,z⟩:=p
  simp only at e2 hu
  obtain⟨e,he⟩:=Cs.cast_some e2
  have hx:unp g.c x=TV.lvs vs++lvOs X:=by
   rw[<-hu,<-he]
   clear e2 hu he
   subst e
   rfl
  unfold Sg.fill
  rw[hx,<-q1,YbO _ h1]
  have:=YdC [] h2
  rw[List.append_nil]at this
  simp only[<-q2,this]
 ·cases h
theorem YbP: ∀{m:List Nat} {a i j:Nat},idxV m a i=some j->i<=j/\m[j-i]?=some a
 | [],a,i,j,h=>by cases h
 |x::r,a,i,j,h=>by
  simp only[idxV]at h
  cases hx:YEH x a with
  |true=>
   rw[hx,cond_true]at h;injection h with h;subst h
   exact⟨YEI _,by simp;exact YEJ hx⟩
  |false=>
   rw[hx,cond_false]at h
   obtain⟨h1,h2⟩:=YbP h
   refine⟨by omega,?_⟩
   rw[show j-i=(j-(i+1))+1 by omega,YEG];exact h2
theorem YbB{X:YzS}: ∀{l m:List Nat},m.Nodup->(Yz1 X m l).Nodup
 | [],m,h=>h
 |a::l,m,h=>by
  simp only[Yz1]
  cases hc:((vget X a).isSome&& !(m.any (YEH a)))with
  |false=>rw[cond_false];exact YbB h
  |true=>
   rw[cond_true]
   refine YbB ?_
   simp only[YE3,Bool.not_eq_true']at hc
   rw[List.nodup_append]
   refine⟨h,by simp,fun x hx y hy=> ?_⟩
   simp only[YEl]at hy
   subst hy
   intro e;subst e
   have:=List.any_eq_false.1 hc.2 x hx
   simp at this
theorem Ycw{X:YzS}: ∀{d:Nat} {m:List Nat},m.Nodup->(Yz8 X d m).Nodup
 |0,m,h=>h
 |d+1,m,h=>by
  simp only[Yz8]
  cases YEH (Yz1 X m (m.flatMap fun a=>VObj.ids (vget X a))).length m.length with
  |true=>rw[cond_true];exact h
  |false=>rw[cond_false];exact Ycw (YbB h)
theorem Ycx{X:YzS}: ∀{l m:List Nat},(∀a∈m,∃o,vget X a=some o)-> ∀a∈Yz1 X m l,∃o,vget X a=some o
 | [],m,h=>h
 |b::l,m,h=>by
  simp only[Yz1]
  cases hc:((vget X b).isSome&& !(m.any (YEH b)))with
  |false=>rw[cond_false];exact Ycx h
  |true=>
   rw[cond_true]
   simp only[YE3]at hc
   refine Ycx (fun a ha=> ?_)
   rcases YEw.1 ha with ha|ha
   ·exact h a ha
   ·simp only[YEl]at ha;subst ha;exact YE0.1 hc.1
theorem Yfh{X:YzS}: ∀{d:Nat} {m:List Nat},(∀a∈m,∃o,vget X a=some o)-> ∀a∈Yz8 X d m,∃o,vget X a=some o
 |0,m,h=>h
 |d+1,m,h=>by
  simp only[Yz8]
  cases YEH (Yz1 X m (m.flatMap fun a=>VObj.ids (vget X a))).length m.length with
  |true=>rw[cond_true];exact h
  |false=>rw[cond_false];exact Yfh (Ycx h)
theorem YiM: ∀{m:List Nat} {a:Nat} (i:Nat),a∈m-> ∃j,idxV m a i=some j
 |x::m,a,i,h=>by
  simp only[idxV]
  cases hx:YEH x a with
  |true=>exact⟨i,rfl⟩
  |false=>
   rw[cond_false]
   rcases YEd.1 h with e|h
   ·subst e;rw[YET]at hx;cases hx
   ·exact YiM (i+1) h
theorem YdE{m:List Nat}{a i:Nat}(h:a∉m):idxV m a i=none:=by
 cases hx:idxV m a i with
 |none=>rfl
 |some j=>exact absurd (YD5 (YbP hx).2) h
theorem Ycy(X:YzS): ∀(l m:List Nat),m<+:Yz1 X m l
 | [],m=>List.prefix_refl _
 |a::l,m=>by
  simp only[Yz1]
  cases((vget X a).isSome&& !(m.any (YEH a)))with
  |true=>rw[cond_true];exact(List.prefix_append m [a]).trans (Ycy X l _)
  |false=>rw[cond_false];exact Ycy X l m
theorem Yfi(X:YzS): ∀(d:Nat) (m:List Nat),m<+:Yz8 X d m
 |0,m=>List.prefix_refl _
 |d+1,m=>by
  simp only[Yz8]
  cases YEH (Yz1 X m (m.flatMap fun a=>VObj.ids (vget X a))).length m.length with
  |true=>rw[cond_true];exact List.prefix_refl _
  |false=>rw[cond_false];exact(Ycy X _ m).trans (Yfi X d _)
theorem YdF(f:Nat->Option VObj): ∀(m:List Nat) (b:Nat),vget (m.map f) b=(m[b]?).bind f
 | [],b=>by simp[vget]
 |a::m,0=>by simp[vget]
 |a::m,b+1=>by simp only[YD8,vget,YdF f m b,YEG]
theorem Yao(r:Nat->Option Nat): ∀l:List TV,TV.rens r l=l.map (TV.ren r)
 | []=>rfl
 |a::l=>by simp[TV.rens,Yao r l]
def plR(pl:Pl)(m:List Nat):Pl
 | .m b=>match m[b]? with|some a=>pl (.m a)|none=>none
 | .n b i=>match m[b]? with|some a=>pl (.n a i)|none=>none
section
variable{Fr:Nat->Prop}{H0:Heap}{X:YzS}{pl:Pl}{H:Heap}{m:List Nat}
abbrev renX(X:YzS)(m:List Nat):YzS:=m.map fun a=>(vget X a).map (VObj.ren fun a=>idxV m a 0)
theorem YbQ{b a:Nat}(h:m[b]?=some a):vget (renX X m) b=(vget X a).map (VObj.ren fun a=>idxV m a 0):=by
 unfold renX;rw[YdF,h];rfl
theorem TR.renG{X':YzS}{pl':Pl}{r:Nat->Option Nat}(look: ∀{a b:Nat},a<X.length->r a=some b->b<X'.length/\vget X' b=(vget X a).map (VObj.ren r)/\pl' (.m b)=pl (.m a)){tv:TV}{av:AV}(h:TR X pl tv av):TR X' pl' (tv.ren r) av:=by
 have hn: ∀(o:VObj),lenO (o.ren r)=lenO o/\elN (o.ren r)=elN o:=fun o=>by cases o<;>exact⟨rfl,rfl⟩
 induction h with
 |i k n=>exact .i k n
 |b x=>exact .b x
 |s x=>exact .s x
 |l c v a h=>exact .l c v a h
 |e c=>exact .e c
 |u a=>exact .u a
 |v x=>exact .u _
 |nl=>exact .nl
 |ref a x o n h hl hp=>
  simp only[TV.ren]
  split
  ·rename_i b hb
   obtain⟨h2,h1,h3⟩:=look (Yag h) hb
   exact .ref b x _ n (by rw[h1,h];rfl) ((hn o).1.trans hl) (h3.trans hp)
  ·exact .u _
 |refD a av h ha=>
  simp only[TV.ren]
  split
  ·rename_i b hb
   obtain⟨h2,h1,h3⟩:=look ha hb
   exact .refD b _ (by rw[h1,h];rfl) h2
  ·exact .u _
 |pre a x k o n h hl hp h0 hm=>
  simp only[TV.ren]
  split
  ·rename_i b hb
   obtain⟨h2,h1,h3⟩:=look (Yag h) hb
   exact .pre b x k _ n (by rw[h1,h];rfl) ((hn o).1.trans hl) (h3.trans hp) h0 hm
  ·exact .u _
 |preD a k av h ha=>
  simp only[TV.ren]
  split
  ·rename_i b hb
   obtain⟨h2,h1,h3⟩:=look ha hb
   exact .preD b _ _ (by rw[h1,h];rfl) h2
  ·exact .u _
 |ptr a i j x o h hi hp=>
  simp only[TV.ren]
  split
  ·rename_i b hb
   obtain⟨h2,h1,h3⟩:=look (Yag h) hb
   exact .ptr b i j x _ (by rw[h1,h];rfl) (by rw[(hn o).2];exact hi) (h3.trans hp)
  ·exact .u _
 |ptrD a i j av h ha=>
  simp only[TV.ren]
  split
  ·rename_i b hb
   obtain⟨h2,h1,h3⟩:=look ha hb
   exact .ptrD b _ _ _ (by rw[h1,h];rfl) h2
  ·exact .u _
 |np a x o h hp=>
  simp only[TV.ren]
  split
  ·rename_i b hb
   obtain⟨h2,h1,h3⟩:=look (Yag h) hb
   exact .np b x _ (by rw[h1,h];rfl) (h3.trans hp)
  ·exact .u _
 |npD a av h ha=>
  simp only[TV.ren]
  split
  ·rename_i b hb
   obtain⟨h2,h1,h3⟩:=look ha hb
   exact .npD b _ (by rw[h1,h];rfl) h2
  ·exact .u _
 |sub=>exact .u _
 |sube=>exact .u _
 |subD=>exact .u _
 |pti=>exact .u _
 |ptiD=>exact .u _
 |rp=>exact .u _
 |lt=>exact .u _
 |ag cs as hl h ih=>
  simp only[TV.ren,Yao]
  refine .ag _ _ (by simp[hl]) (fun j c a h1 h2=> ?_)
  rw[YD6,YEW]at h1
  obtain⟨y,h1,rfl⟩:=h1
  exact ih j y a h1 h2
 |tp cs as hl h ih=>
  simp only[TV.ren,Yao]
  refine .tp _ _ (by simp[hl]) (fun j c a h1 h2=> ?_)
  rw[YD6,YEW]at h1
  obtain⟨y,h1,rfl⟩:=h1
  exact ih j y a h1 h2
 |clo g cs as hl h ih=>
  simp only[TV.ren,Yao]
  refine .clo g _ _ (by simp[hl]) (fun j c a h1 h2=> ?_)
  rw[YD6,YEW]at h1
  obtain⟨y,h1,rfl⟩:=h1
  exact ih j y a h1 h2
theorem TR.ren{tv:TV}{av:AV}(h:TR X pl tv av):TR (renX X m) (plR pl m) (tv.ren fun a=>idxV m a 0) av:=by
 refine h.renG (fun{a b} _ hb=> ?_)
 obtain⟨_,h2⟩:=YbP hb
 simp only[Nat.sub_zero]at h2
 exact⟨by simp[renX];exact(YD4.1 h2).1,YbQ h2,by simp only[plR,h2]⟩
theorem Yfj(hr:HRel Fr H0 X pl H)(hm:m.Nodup):HRel Fr H0 (renX X m) (plR pl m) H:=by
 have up: ∀{p:Pos} {x},plR pl m p=some x-> ∃a,m[p.of]?=some a/\pl (match p with| .m _=>.m a| .n _ i=>.n a i)=some x:=by
  intro p x h
  cases p with
  |m b=>simp only[plR]at h;split at h;·exact⟨_,by assumption,h⟩
        ·cases h
  |n b i=>simp only[plR]at h;split at h;·exact⟨_,by assumption,h⟩
          ·cases h
 refine⟨fun b o' h1=> ?_,fun p q x hp hq=> ?_,fun p x hp=> ?_,hr.fr,fun p x hp=> ?_,hr.le⟩
 ·unfold renX at h1
  rw[YdF]at h1
  cases hb:m[b]? with
  |none=>rw[hb]at h1;cases h1
  |some a=>
   rw[hb]at h1
   simp only[YEY,YEW]at h1
   obtain⟨o,ho,rfl⟩:=h1
   have hob:=hr.obj a o ho
   have e1:plR pl m (.m b)=pl (.m a):=by simp only[plR,hb]
   have e2: ∀i,plR pl m (.n b i)=pl (.n a i):=fun i=>by simp only[plR,hb]
   cases o with
   |sq c l=>obtain⟨x,el,h1,h2,h3,h4⟩:=hob;exact⟨x,el,e1.trans h1,h2,h3,h4⟩
   |fm c ver hole l=>
    obtain⟨x,el,h1,h2,h3,h4,h5,h6⟩:=hob
    refine⟨x,el,e1.trans h1,h2,h3,h4,h5,fun i e v k1 k2 k3=> ?_⟩
    rw[e2];exact h6 i e v k1 k2 k3
   |st cs=>
    obtain⟨x,e,h1,h2,h3,h4⟩:=hob
    refine⟨x,e,e1.trans h1,?_,?_,?_⟩
    ·simp only[Yao,YEk];exact h2
    ·simpa[Yao]using h3
    ·refine⟨by simp[Yao,h4.1],fun j c a h1 h2=> ?_⟩
     rw[Yao,YD6,YEW]at h1
     obtain⟨y,h1,rfl⟩:=h1
     exact(h4.2 j y a h1 h2).ren
   |sb s=>obtain⟨x,h1,h2⟩:=hob;exact⟨x,e1.trans h1,h2⟩
 ·obtain⟨a,h1,h2⟩:=up hp
  obtain⟨a',h3,h4⟩:=up hq
  have:=hr.inj _ _ _ h2 h4
  have nd: ∀{i j:Nat} {a:Nat},m[i]?=some a->m[j]?=some a->i=j:=fun hi hj=>by
   have g1:=YD4.1 hi
   have g2:=YD4.1 hj
   exact(List.getElem_inj (h₀:=g1.1) (h₁:=g2.1) hm).1 (by rw[g1.2,g2.2])
  cases p with
  |m b=>cases q with
   |m b'=>simp only at this;injection this with this;subst this;simp only[Pos.of]at h1 h3;rw[nd h1 h3]
   |n b' i=>cases this
  |n b i=>cases q with
   |m b'=>cases this
   |n b' j=>simp only at this;injection this with this e;subst this;subst e;simp only[Pos.of]at h1 h3;rw[nd h1 h3]
 ·obtain⟨a,h1,h2⟩:=up hp
  have:=hr.own _ _ h2
  cases p with
  |m b=>obtain⟨o,ho⟩:=this;exact⟨_,by rw[YbQ (b:=b) (a:=a) h1,ho];rfl⟩
  |n b i=>obtain⟨c,v,h,l,ho,k⟩:=this;exact⟨c,0,h,l,by rw[YbQ (b:=b) (a:=a) h1,ho];rfl,k⟩
 ·obtain⟨a,h1,h2⟩:=up hp
  exact hr.nfr _ _ h2
theorem YiN(f:Nat->TV): ∀(ts:List Nat) (t:Nat),Yz6 (zipE ts (ts.map f)) t=if t∈ts then f t else .u
 | [],t=>by simp[zipE,Yz6]
 |s::ts,t=>by
  simp only[YD8,zipE,Yz6]
  cases hb:YEH s t with
  |true=>
   have:=YEJ hb;subst this
   simp
  |false=>
   have hne:t≠s:=fun e=>by subst e;rw[YET]at hb;cases hb
   rw[cond_false,YiN f ts t]
   simp[hne]
theorem YdG(f:Option VObj->Option VObj)(hf:f none=none): ∀(X:YzS) (a:Nat),vget (X.map f) a=f (vget X a)
 | [],a=>by simp[vget,hf]
 |o::X,0=>rfl
 |o::X,a+1=>by simp only[YD8,vget];exact YdG f hf X a
theorem Yfk: ∀l:List TV,TV.nrms l=l.map TV.nrm
 | []=>rfl
 |a::r=>by simp[TV.nrms,Yfk r]
mutual
theorem TR.nrm: ∀(v:TV) {a:AV},TR X pl v a->TR X pl v.nrm a
 | .e c,_,h=>by cases h;exact .l c [] _ (by simp only[YEa];exact .empRd _)
 | .ag x,_,h=>by
   cases h with
   |ag _ as hl hc=>have:=CT.nrm x ⟨hl,hc⟩;exact .ag _ _ this.1 this.2
 | .tp x,_,h=>by
   cases h with
   |tp _ as hl hc=>have:=CT.nrm x ⟨hl,hc⟩;exact .tp _ _ this.1 this.2
 | .clo g x,_,h=>by
   cases h with
   |clo _ _ as hl hc=>have:=CT.nrm x ⟨hl,hc⟩;exact .clo g _ _ this.1 this.2
 | .i _ _,_,h=>h
 | .b _,_,h=>h
 | .s _,_,h=>h
 | .l _ _,_,h=>h
 | .u,_,h=>h
 | .v _,_,h=>h
 | .nl,_,h=>h
 | .ref _,_,h=>h
 | .pre _ _,_,h=>h
 | .sub _ _ _,_,h=>h
 | .ptr _ _ _,_,h=>h
 | .np _,_,h=>h
 | .pti _ _ _ _ _,_,h=>h
 | .rp _,_,h=>h
 | .lt _,_,h=>h
theorem CT.nrm: ∀(l:List TV) {as:List AV},CT X pl l as->CT X pl (TV.nrms l) as
 | [],_,h=>h
 |v::l,as,h=>by
  obtain⟨a,r,rfl,h1,h2⟩:=h.inv
  exact .cons (TR.nrm v h1) (CT.nrm l h2)
end
theorem YdH(a:Nat):vget (nrmX X) a=(vget X a).map VObj.nrm:=by
 unfold nrmX;exact YdG _ rfl X a
theorem Yfl:Ext X pl (nrmX X) pl:=by
 refine⟨by simp[nrmX],fun a _=> ?_⟩
 rw[YdH]
 cases h:vget X a with
 |none=>exact .inl rfl
 |some o=>
  refine .inr ⟨o,o.nrm,rfl,rfl,?_,?_,rfl,?_,fun c ver hole l e=> ?_⟩
  ·cases o<;>rfl
  ·cases o<;>rfl
  ·cases o<;>rfl
  ·cases o with
   |sq _ _=>cases e
   |st _=>cases e
   |sb _=>cases e
   |fm c0 v0 h0 l0=>exact⟨ver,hole,l,e,rfl,.inr ⟨rfl,fun h=>⟨h,fun i=>⟨rfl,rfl⟩⟩⟩⟩
theorem YiO(hr:HRel Fr H0 X pl H):HRel Fr H0 (nrmX X) pl H:=by
 refine⟨fun a o ho=> ?_,hr.inj,fun p x hp=> ?_,hr.fr,hr.nfr,hr.le⟩
 ·rw[YdH,YEW]at ho
  obtain⟨o0,h0,rfl⟩:=ho
  have:=hr.obj a o0 h0
  cases o0 with
  |sq c l=>exact this
  |fm c v h l=>exact this
  |sb s=>exact this
  |st cs=>
   obtain⟨x,e,e1,e2,e3,e4⟩:=this
   exact⟨x,e,e1,by rw[Yfk,YEk];exact e2,by rw[Yfk,YEk];exact e3,CT.nrm cs (e4.ext Yfl)⟩
 ·have:=hr.own p x hp
  cases p with
  |m a=>obtain⟨o,ho⟩:=this;exact⟨o.nrm,by rw[YdH,ho];rfl⟩
  |n a i=>obtain⟨c,v,h,l,ho,k⟩:=this;exact⟨c,v,h,l,by rw[YdH,ho];rfl,k⟩
theorem Ycz{env:VEnv}{ae:Env}(he:ERel X pl env ae)(hr:HRel Fr H0 X pl H){kb:Nat}{ts:List Nat}{vs:List TV}{X':YzS}(hkb:kb<=X.length)(h:YAW kb ts ⟨env,X⟩=(vs,X')): ∃pl',ERel X' pl' (zipE ts vs) ae/\HRel Fr H0 X' pl' H/\kb<=X'.length/\ ∀i,i<kb-> ∀x,pl' (.m i)=some x->pl (.m i)=some x:=by
 unfold YAW at h
 simp only at h
 have he1: ∀t,TR (nrmX X) pl (Yz6 env t).nrm (YzV ae t):=fun t=>TR.nrm _ ((he t).ext Yfl)
 have hr:=YiO hr
 have hXl:(nrmX X).length=X.length:=by simp[nrmX]
 have hkb:kb<=(nrmX X).length:=by rw[hXl];exact hkb
 clear hXl he
 generalize nrmX X=X at h hr hkb he1
 have hnd:(Yz8 X 5 (Yz1 X (List.range (min kb X.length)) (TV.idss (ts.map fun t=>(Yz6 env t).nrm)))).Nodup:=Ycw (YbB List.nodup_range)
 have hpre:List.range (min kb X.length)<+:Yz8 X 5 (Yz1 X (List.range (min kb X.length)) (TV.idss (ts.map fun t=>(Yz6 env t).nrm))):=(Ycy _ _ _).trans (Yfi _ _ _)
 generalize(Yz8 X 5 (Yz1 X (List.range (min kb X.length)) (TV.idss (ts.map fun t=>(Yz6 env t).nrm))))=m at h hnd hpre
 injection h with h1 h2
 subst h1;subst h2
 obtain⟨tl,htl⟩:=hpre
 refine⟨plR pl m,fun t=> ?_,Yfj hr hnd,by rw[<-htl];simp;omega,fun i hi x hx=> ?_⟩
 rotate_left
 ·have:m[i]?=some i:=by
   rw[<-htl,YD9 (by simp;omega),YEu (by omega)]
  simpa only[plR,this]using hx
 rw[Yao,YEz,YiN]
 split
 ·exact(he1 t).ren
 ·exact .u _
theorem Yqo{env:Env}{H:Heap}{b x es n j:Nat}{e:List AV}{av:AV}(hx:H[x]?=some (some ⟨n,[e]⟩))(hj:e[j]?=some av)(hes:(av= .emp/\0<es)\/av= .v (.slice none 0 0)):
  Wk ⟨env,H,b⟩ ⟨env,H.set x (some ⟨n,[e.set j (.ref H.length 0 0)]⟩)++[some ⟨es,[]⟩],b⟩:=by
 intro fm n0 w0 L0 a w hs
 obtain⟨h1,h2,h3,L,h4,h5,h6,h7⟩:=hs
 obtain⟨k1,k2⟩:=Ybp h6 (nid:=H.length) (by simp[hf]) (es:=es) w0.heap.size (decide (es=0)) (fun h=>by simpa using h)
 have k2':LStep L (fun a=>if a=H.length then .nil (decide (es=0))else L a) w.heap.size:=(Ybp h6 (nid:=H.length) (by simp[hf]) (es:=es) w.heap.size (decide (es=0)) (fun h=>by simpa using h)).1
 rw[hf_push]at k2
 have hxl:=(YD4.1 hx).1
 have hxn:x≠H.length:=by omega
 have hget: ∀c,hf (H.set x (some ⟨n,[e.set j (.ref H.length 0 0)]⟩)++[some ⟨es,[]⟩]) c=if c=x then some (some ⟨n,[e.set j (.ref H.length 0 0)]⟩)else hf (H++[some ⟨es,[]⟩]) c:=by
  intro c
  simp only[hf]
  by_cases ec:c=x
  ·subst ec;rw[if_pos rfl,YD9 (by simpa using hxl),YEe hxl]
  ·rw[if_neg ec]
   by_cases hc:c<H.length
   ·rw[YD9 (by simpa using hc),YD9 hc,YEb (Ne.symm ec)]
   ·rw[YEc (by simp;omega),YEc (by omega)];simp
 have hxo:hf (H++[some ⟨es,[]⟩]) x=some (some ⟨n,[e]⟩):=by
  simp only[hf];rw[YD9 hxl];exact hx
 refine⟨h1,h2,h3,_,h4,h5.trans k1,?_,fun s=>(h7 s).mono (Keep.refl _ _) k2'⟩
 refine⟨fun c q hq=> ?_,fun c hc'=> ?_,fun c=> ?_,k2.inj,k2.hid,fun c q g es' cap hq h0 hL=> ?_,fun c i g hc'=> ?_⟩
 rotate_left 4
 ·obtain⟨⟨q,hq⟩,k⟩:=k2.mps c i g hc'
  refine⟨?_,k⟩
  rw[hget]
  by_cases ec:c=x
  ·rw[if_pos ec];exact⟨_,rfl⟩
  ·rw[if_neg ec];exact⟨q,hq⟩
 rotate_left 3
 ·rw[hget]at hq
  by_cases ec:c=x
  ·subst ec
   rw[if_pos rfl]at hq;injection hq with hq;injection hq with hq;subst hq
   exact k2.byt c _ g es' cap hxo h0 hL
  ·rw[if_neg ec]at hq;exact k2.byt c q g es' cap hq h0 hL
 ·rw[hget]at hq
  by_cases ec:c=x
  ·subst ec
   rw[if_pos rfl]at hq;injection hq with hq;injection hq with hq;subst hq
   have hLc:(if c=H.length then Loc.nil (decide (es=0))else L c)=L c:=if_neg hxn
   have hob:ObjR fm w _ (if c=H.length then Loc.nil (decide (es=0))else L c) _:=k2.obj c _ hxo
   show ObjR fm w _ (if c=H.length then Loc.nil (decide (es=0))else L c) _
   rw[hLc]at hob⊢
   revert hob
   cases hL:L c with
   |fresh=>exact id
   |dead=>exact id
   |hid g=>exact id
   |nil=>intro g1;cases g1.1
   |cells g es' cap=>
    rintro⟨g0,g1,g2,g3,g4,cur,ty,g5,g6,g7⟩
    refine⟨g0,g1,by simpa using g2,g3,fun e' he'=> ?_,cur,ty,g5,g6,fun i e' j' x' hi hj'=> ?_⟩
    ·simp only[YEl]at he';subst he';rw[List.length_set];exact g4 e (YEl.2 rfl)
    ·cases i with
     |succ i=>simp at hi
     |zero=>
      simp at hi;subst hi
      by_cases ej:j'=j
      ·subst ej
       have hjl:=(YD4.1 hj).1
       rw[YEe hjl]at hj';injection hj' with hj';subst hj'
       obtain⟨q1,q2⟩:=g7 0 e j' _ rfl hj
       refine⟨q1,?_⟩
       rcases hes with⟨rfl,hes⟩|rfl
       ·obtain⟨A,hA⟩:=YaG q2
        rw[hA]
        exact .refNil A H.length (decide (es=0)) (by simp) (fun h=>by simp at h;omega)
       ·rw[Yaf q2]
        exact .refNil none H.length (decide (es=0)) (by simp) (fun _=>rfl)
      ·rw[YEb (Ne.symm ej)]at hj'
       exact g7 0 e j' x' rfl hj'
   |mp i g=>
    intro hm
    exfalso
    have nov: ∀x,(∀A n c,x≠ .slice A n c)-> ¬VR fm w (fun a=>if a=H.length then Loc.nil (decide (es=0))else L a) x av:=fun x hx hv=>by
     rcases hes with⟨rfl,_⟩|rfl
     ·obtain⟨A,hA⟩:=YaG hv;exact hx _ _ _ hA
     ·exact hx _ _ _ (Yaf hv)
    have norow: ∀{wd:Nat} {el:List (List AV)},av≠ .rd wd el:=fun e=>by
     rcases hes with⟨rfl,_⟩|rfl<;>cases e
    have nou:av≠ .u:=fun e=>by
     rcases hes with⟨rfl,_⟩|rfl<;>cases e
    cases i with
    |true=>
     obtain⟨_,a0,s,t,S,tag,g',since,seen,stepped,_,h2,h3,h4,h5,h6,h7⟩:=hm
     injection h2 with h2 _
     subst h2
     match j,hj with
     |0,hj=>simp at hj;subst hj;exact nov _ (fun A n c e=>by cases e) h3
     |1,hj=>simp at hj;subst hj;exact nov _ (fun A n c e=>by cases e) h4
     |2,hj=>simp at hj;subst hj;exact nov _ (fun A n c e=>by cases e) h5
     |3,hj=>
      simp at hj;subst hj
      rcases h7 with e| ⟨wd,bl,e,_⟩
      ·exact nou e
      ·exact norow e
     |4,hj=>simp at hj;subst hj;exact nov _ (fun A n c e=>by cases e) h6
     |j+5,hj=>simp at hj
    |false=>
     obtain⟨_,ms,clock,c0,R,tags,_,h2,h3,h4,_,h5⟩:=hm
     injection h2 with h2 _
     subst h2
     match j,hj with
     |0,hj=>simp at hj;subst hj;exact nov _ (fun A n c e=>by cases e) h3
     |1,hj=>
      simp at hj;subst hj
      rcases h5 with e| ⟨wd,el,e,_⟩
      ·exact nou e
      ·exact norow e
     |j+2,hj=>
      simp at hj
      exact nov _ (fun A n c e=>by cases e) (h4 av (YD5 hj))
  ·rw[if_neg ec]at hq;exact k2.obj c q hq
 ·obtain⟨q,hq⟩:=k2.live c hc'
  rw[hget]
  by_cases ec:c=x
  ·rw[if_pos ec];exact⟨_,rfl⟩
  ·rw[if_neg ec];exact⟨q,hq⟩
 ·rw[hget,k2.fresh c]
  by_cases ec:c=x
  ·subst ec;rw[if_pos rfl,hxo];simp
  ·rw[if_neg ec]
theorem Yqp(hr:HRel Fr H0 X pl H){a x j es:Nat}{cs:List TV}{e:List AV}{o:VObj}(ha:vget X a=some (.st cs))(hp:pl (.m a)=some x)(hx:H[x]?=some (some ⟨cs.length,[e]⟩))(hct:CT X pl cs e)(h0:0<cs.length)(hj:j<cs.length)(ho:lenO o=some 0)
  (hor: ∀{X':YzS} {pl':Pl} {H':Heap},pl' (.m X.length)=some H.length->(∀i,pl' (.n X.length i)=none)->H'[H.length]?=some (some ⟨es,[]⟩)->OR X' pl' H' X.length o):
  HRel Fr H0 (vset X a (some (.st (cs.set j (.ref X.length))))++[some o]) (plS pl (.m X.length) (some H.length)) (H.set x (some ⟨cs.length,[e.set j (.ref H.length 0 0)]⟩)++[some ⟨es,[]⟩])/\
   Ext X pl (vset X a (some (.st (cs.set j (.ref X.length))))++[some o]) (plS pl (.m X.length) (some H.length)):=by
 have hal:=Yag ha
 have hxl:=(YD4.1 hx).1
 have hXl:(vset X a (some (.st (cs.set j (.ref X.length))))).length=X.length:=Yae _ _ _
 have hgn:vget (vset X a (some (.st (cs.set j (.ref X.length))))++[some o]) X.length=some o:=by
  have:=Yal (vset X a (some (.st (cs.set j (.ref X.length))))) (some o);rwa[hXl]at this
 have hga:vget (vset X a (some (.st (cs.set j (.ref X.length))))++[some o]) a=some (.st (cs.set j (.ref X.length))):=by
  rw[Yaq (by rw[hXl];exact hal)];exact Yap _ hal
 have hgb: ∀b,b≠a->b≠X.length->vget (vset X a (some (.st (cs.set j (.ref X.length))))++[some o]) b=vget X b:=fun b h1 h2=>by
  by_cases hb:b<X.length
  ·rw[Yaq (by rw[hXl];exact hb),Yak _ (Ne.symm h1)]
  ·rw[Yan (by simp[hXl];omega),Yan (by omega)]
 have hpn: ∀p:Pos,p≠ .m X.length->plS pl (.m X.length) (some H.length) p=pl p:=fun p h=>by unfold plS;rw[if_neg h]
 have hpo: ∀p:Pos,p.of≠X.length->p≠ .m X.length:=fun p h e=>by subst e;exact h rfl
 have hps:plS pl (.m X.length) (some H.length) (.m X.length)=some H.length:=by unfold plS;rw[if_pos rfl]
 have hH': ∀{p:Pos} {z},p≠ .m a->pl p=some z->(H.set x (some ⟨cs.length,[e.set j (.ref H.length 0 0)]⟩)++[some ⟨es,[]⟩])[z]?=H[z]?:=fun h1 h2=>by
  rw[YD9 (by simpa using hr.bd h2),YEb (fun e=>h1 (by subst e;exact hr.inj _ _ _ h2 hp))]
 have hxt:Ext X pl (vset X a (some (.st (cs.set j (.ref X.length))))++[some o]) (plS pl (.m X.length) (some H.length)):=by
  refine⟨by simp[hXl],fun b hb=> ?_⟩
  have hbn:b≠X.length:=by omega
  by_cases e1:b=a
  ·subst e1
   exact .inr ⟨_,_,ha,hga,rfl,rfl,hpn _ (hpo (.m b) hbn),rfl,fun c v h l e=>by cases e⟩
  ·rw[hgb b e1 hbn]
   cases h:vget X b with
   |none=>exact .inl rfl
   |some o1=>exact .inr ⟨o1,o1,rfl,rfl,rfl,rfl,hpn _ (hpo (.m b) hbn),rfl,fun c' v' h' l' e=>⟨v',h',l',e,rfl,.inr ⟨rfl,fun h=>⟨h,fun i=>⟨rfl,hpn _ (fun e=>by cases e)⟩⟩⟩⟩⟩
 refine⟨hr.build (fun b=>b=a\/b=X.length) hxt (fun b hb=>hgb b (fun e=>hb (.inl e)) (fun e=>hb (.inr e))) (fun p hb=>hpn p (hpo p (fun e=>hb (.inr e)))) (fun p z hb hz=>hH' (fun e=>by subst e;exact hb (.inl rfl)) hz)
  (fun b ob hb hob=> ?_) (fun p z hb hz=> ?_) (fun p z hb hz=> ?_) (fun p q z hb hb' hz hz'=> ?_) (fun z hz=> ?_) (by simp),hxt⟩
 ·by_cases e1:b=X.length
  ·subst e1
   rw[hgn]at hob;injection hob with hob;subst hob
   refine hor hps (fun i=> ?_) ?_
   ·rw[hpn _ (fun e=>by cases e)];exact hr.dead (Yan (YEI _))
   ·rw[YEc (by simp)];simp
  ·have:=hb.resolve_right e1;subst this
   rw[hga]at hob;injection hob with hob;subst hob
   refine⟨x,e.set j (.ref H.length 0 0),(hpn _ (hpo (.m b) e1)).trans hp,?_,by simpa using h0,?_⟩
   ·rw[YD9 (by simpa using hxl),YEe hxl];simp
   ·refine⟨by simp[hct.1],fun i c av g1 g2=> ?_⟩
    by_cases ei:i=j
    ·subst ei
     rw[YEe hj]at g1
     rw[YEe (by rw[<-hct.1];exact hj)]at g2
     injection g1 with g1;injection g2 with g2;subst g1;subst g2
     exact .ref X.length H.length o 0 hgn ho hps
    ·rw[YEb (Ne.symm ei)]at g1 g2
     exact(hct.2 i c av g1 g2).ext hxt
 ·by_cases e1:p= .m X.length
  ·subst e1;exact⟨o,hgn⟩
  ·rw[hpn p e1]at hz
   have hl:=hr.own p z hz
   rcases hb with hb|hb
   ·cases p with
    |m b=>simp only[Pos.of]at hb;subst hb;exact⟨_,hga⟩
    |n b i=>simp only[Pos.of]at hb;subst hb;obtain⟨c,v,h,l,k,_⟩:=hl;rw[ha]at k;cases k
   ·have:=hr.dead (p:=p) (by rw[hb];exact Yan (YEI _))
    rw[this]at hz;cases hz
 ·by_cases e1:p= .m X.length
  ·subst e1;rw[hps]at hz;injection hz with hz;exact .inr (by omega)
  ·rw[hpn p e1]at hz
   rcases hb with hb|hb
   ·exact .inl ⟨p,hz,.inl hb⟩
   ·have:=hr.dead (p:=p) (by rw[hb];exact Yan (YEI _))
    rw[this]at hz;cases hz
 ·by_cases e1:p= .m X.length<;>by_cases e2:q= .m X.length
  ·rw[e1,e2]
  ·subst e1;rw[hps]at hz;injection hz with hz;rw[hpn q e2]at hz';have:=hr.bd hz';omega
  ·subst e2;rw[hps]at hz';injection hz' with hz';rw[hpn p e1]at hz;have:=hr.bd hz;omega
  ·rw[hpn p e1]at hz;rw[hpn q e2]at hz';exact hr.inj _ _ _ hz hz'
 ·have:=(hr.fr z hz).1;have:=hr.le
  rw[YD9 (by simp;omega),YEb (fun e=>hr.nfr _ _ hp (by rw[e];exact hz))]
theorem YiP(f:TV->TV)(hf:f .u= .u): ∀(env:VEnv) (t:Nat),Yz6 (env.map fun p=>(p.1,f p.2)) t=f (Yz6 env t)
 | [],t=>by simp[Yz6,hf]
 | (s,v)::r,t=>by
   simp only[YD8,Yz6]
   cases YEH s t with
   |true=>rfl
   |false=>exact YiP f hf r t
theorem Yqq(a n:Nat):(rnM a n).Nodup:=by
 have hf: ∀b,b<n->(bif YEH b a then n else b)≠a\/False:=fun b hb=>by
  cases h:YEH b a with
  |true=>have:=YEJ h;rw[cond_true];exact .inl (by omega)
  |false=>rw[cond_false];exact .inl (fun e=>by subst e;rw[YET]at h;cases h)
 unfold rnM
 rw[List.nodup_append]
 refine⟨?_,by simp,fun x hx y hy=> ?_⟩
 ·rw[List.nodup_iff_pairwise_ne,List.pairwise_map]
  refine List.Pairwise.imp_of_mem (fun{x y} hx hy hne=> ?_) (List.nodup_iff_pairwise_ne.1 (List.nodup_range (n:=n)))
  rw[List.mem_range]at hx hy
  cases h:YEH x a<;>cases h':YEH y a
  ·simpa using hne
  ·simp only[cond_true,cond_false];omega
  ·simp only[cond_true,cond_false];omega
  ·exact absurd ((YEJ h).trans (YEJ h').symm) hne
 ·rw[YEr]at hx
  obtain⟨b,hb,rfl⟩:=hx
  rw[YEl]at hy;subst hy
  exact(hf b (List.mem_range.1 hb)).resolve_right id
theorem YiQ{env:VEnv}{ae:Env}(he:ERel X pl env ae)(hr:HRel Fr H0 X pl H)(a:Nat):
  ERel (rnV a ⟨env,X⟩).heap (plR pl (rnM a X.length)) (rnV a ⟨env,X⟩).env ae/\HRel Fr H0 (rnV a ⟨env,X⟩).heap (plR pl (rnM a X.length)) H/\X.length+1=(rnV a ⟨env,X⟩).heap.length/\ ∀i,i<X.length-> ∀x,plR pl (rnM a X.length) (.m i)=some x->pl (.m i)=some x:=by
 refine⟨fun t=> ?_,Yfj hr (Yqq a X.length),by simp[rnV,rnM],fun i hi x hx=> ?_⟩
 ·show TR (renX X (rnM a X.length)) _ (Yz6 (env.map fun p=>(p.1,p.2.ren fun b=>idxV (rnM a X.length) b 0)) t) _
  rw[YiP (fun v=>v.ren fun b=>idxV (rnM a X.length) b 0) rfl]
  exact(he t).ren
 ·have:(rnM a X.length)[i]?=some (bif YEH i a then X.length else i):=by
   unfold rnM
   rw[YD9 (by simpa using hi),YD6,YEu hi];rfl
  simp only[plR,this]at hx
  cases h:YEH i a with
  |true=>
   rw[h,cond_true]at hx
   have:=hr.dead (p:=.m X.length) (Yan (YEI _))
   rw[this]at hx;cases hx
  |false=>rw[h,cond_false]at hx;exact hx
theorem YiR{fm:FM}{w:World}{L:Nat->Loc}{H:Heap}{x es:Nat}{el:List (List AV)}(n:Nat)(hr:HR fm w L (hf H))(hx:H[x]?=some (some ⟨es,el⟩))
  (hL:(∃g es' cap,L x= .cells g es' cap)\/ ∃b,L x= .nil b):HR fm w L (hf (H.set x (some ⟨es,el.take n⟩))):=by
 have hxl:=(YD4.1 hx).1
 have hget: ∀c,hf (H.set x (some ⟨es,el.take n⟩)) c=if c=x then some (some ⟨es,el.take n⟩)else hf H c:=by
  intro c
  simp only[hf]
  by_cases ec:c=x
  ·subst ec;rw[if_pos rfl,YEe hxl]
  ·rw[if_neg ec,YEb (Ne.symm ec)]
 have hxo:hf H x=some (some ⟨es,el⟩):=hx
 refine⟨fun c q hq=> ?_,fun c hc'=> ?_,fun c=> ?_,hr.inj,hr.hid,fun c q g es' cap hq h0 hLc=> ?_,fun c i g hc'=> ?_⟩
 ·rw[hget]at hq
  by_cases ec:c=x
  ·subst ec
   rw[if_pos rfl]at hq;injection hq with hq;injection hq with hq;subst hq
   have hob:=hr.obj c _ hxo
   rcases hL with⟨g,es',cap,hL⟩| ⟨b,hL⟩
   ·rw[hL]at hob⊢
    obtain⟨g0,g1,g2,g3,g4,cur,ty,g5,g6,g7⟩:=hob
    refine⟨g0,g1,by simp only[List.length_take]at g2⊢;omega,g3,fun e he=>g4 e (List.mem_of_mem_take he),cur,ty,g5,g6,fun i e j y hi hj=> ?_⟩
    rw[YEh]at hi
    split at hi
    ·exact g7 i e j y hi hj
    ·cases hi
   ·rw[hL]at hob⊢
    have h0:el=[]:=hob.1
    subst h0
    exact⟨by simp,hob.2⟩
  ·rw[if_neg ec]at hq;exact hr.obj c q hq
 ·rw[hget]
  by_cases ec:c=x
  ·rw[if_pos ec];exact⟨_,rfl⟩
  ·rw[if_neg ec];exact hr.live c hc'
 ·rw[hget]
  by_cases ec:c=x
  ·rw[if_pos ec,ec];refine⟨fun h=> ?_,fun h=>by cases h⟩
   rw[(hr.fresh x).1 h]at hxo;cases hxo
  ·rw[if_neg ec];exact hr.fresh c
 ·rw[hget]at hq
  by_cases ec:c=x
  ·subst ec
   rw[if_pos rfl]at hq;injection hq with hq;injection hq with hq;subst hq
   exact hr.byt c _ g es' cap hxo h0 hLc
  ·rw[if_neg ec]at hq;exact hr.byt c q g es' cap hq h0 hLc
 ·obtain⟨⟨q,hq⟩,k⟩:=hr.mps c i g hc'
  refine⟨?_,k⟩
  rw[hget]
  by_cases ec:c=x
  ·rw[if_pos ec];exact⟨_,rfl⟩
  ·rw[if_neg ec];exact⟨q,hq⟩
theorem YiS{fm:FM}{w:World}{L:Nat->Loc}{H:Heap}{x m:Nat}{o:AObj}{v:Value}(hr:HR fm w L (hf H))(hx:H[x]?=some (some o))(h:VR fm w L v (.ref x 0 m)):
  (∃g es' cap,L x= .cells g es' cap)\/ ∃b,L x= .nil b:=by
 generalize ha:AV.ref x 0 m=a at h
 cases h with
 |refAt g es cap a off len h hl=>injection ha with h1;subst h1;exact .inl ⟨_,_,_,h⟩
 |refNil A a b h hA=>injection ha with h1;subst h1;exact .inr ⟨_,h⟩
 |refDead A c a off len h hl=>
  injection ha with h1;subst h1
  have:=hr.obj x o hx
  rw[h]at this;cases this
 |_=>cases ha
theorem Yqr{env:Env}{H:Heap}{b x es t m n:Nat}{el:List (List AV)}(hx:H[x]?=some (some ⟨es,el⟩))(ht:YzV env t= .ref x 0 m):
  Wk ⟨env,H,b⟩ ⟨env,H.set x (some ⟨es,el.take n⟩),b⟩:=by
 intro fm n0 w0 L0 a w hs
 obtain⟨h1,h2,h3,L,h4,h5,h6,h7⟩:=hs
 have:=h7 t
 simp only[ht]at this
 exact⟨h1,h2,h3,L,h4,h5,YiR n h6 hx (YiS h6 hx this),h7⟩
theorem Yqs{env:Env}{H:Heap}{b x es y k j m n:Nat}{el:List (List AV)}{e:List AV}(hx:H[x]?=some (some ⟨es,el⟩))(hy:H[y]?=some (some ⟨k,[e]⟩))(hj:e[j]?=some (.ref x 0 m)):
  Wk ⟨env,H,b⟩ ⟨env,H.set x (some ⟨es,el.take n⟩),b⟩:=by
 intro fm n0 w0 L0 a w hs
 obtain⟨h1,h2,h3,L,h4,h5,h6,h7⟩:=hs
 have nov: ∀{v:Value},(∀A b c,v≠ .slice A b c)-> ¬VR fm w L v (.ref x 0 m):=fun hv hr=>by
  generalize ha:AV.ref x 0 m=a at hr
  cases hr with
  |refAt g es cap a off len h hl=>exact hv _ _ _ rfl
  |refNil A a b h hA=>exact hv _ _ _ rfl
  |refDead A c a off len h hl=>exact hv _ _ _ rfl
  |_=>cases ha
 refine⟨h1,h2,h3,L,h4,h5,YiR n h6 hx ?_,h7⟩
 have hob:=h6.obj y _ hy
 revert hob
 cases hL:L y with
 |fresh=>intro h;cases h
 |dead=>intro h;cases h
 |hid g=>intro h;cases h
 |nil=>intro g1;cases g1.1
 |cells g es' cap=>
  rintro⟨g0,g1,g2,g3,g4,cur,ty,g5,g6,g7⟩
  exact YiS h6 hx (g7 0 e j _ rfl hj).2
 |mp i g=>
  cases i with
  |false=>
   rintro⟨g0,es',clock,c0,R,tags,g1,g2,g3,g4,g5,g6⟩
   injection g2 with g2;subst g2
   cases j with
   |zero=>injection hj with hj;subst hj;exact absurd g3 (nov (fun _ _ _ h=>by cases h))
   |succ j=>cases j with
    |zero=>injection hj with hj;subst hj;rcases g6 with g6| ⟨_,_,g6,_⟩<;>cases g6
    |succ j=>
     have:=g4 _ (YD5 (show tags[j]?=some _ from hj))
     exact absurd this (nov (fun _ _ _ h=>by cases h))
  |true=>
   rintro⟨g0,a0,s,t,S,tag,g',since,seen,stepped,g1,g2,g3,g4,g5,g6,g7⟩
   injection g2 with g2;subst g2
   match j,hj with
   |0,hj=>injection hj with hj;subst hj;exact absurd g3 (nov (fun _ _ _ h=>by cases h))
   |1,hj=>injection hj with hj;subst hj;exact absurd g4 (nov (fun _ _ _ h=>by cases h))
   |2,hj=>injection hj with hj;subst hj;exact absurd g5 (nov (fun _ _ _ h=>by cases h))
   |3,hj=>injection hj with hj;subst hj;rcases g7 with g7| ⟨_,_,g7,_⟩<;>cases g7
   |4,hj=>injection hj with hj;subst hj;exact absurd g6 (nov (fun _ _ _ h=>by cases h))
   |j+5,hj=>simp at hj
theorem YiT{X:YzS}{pl:Pl}{H:Heap}(hr:HRel Fr H0 X pl H){b x m:Nat}{c:Cs}{l:List c.den}{el:List (List AV)}(hb:vget X b=some (.sq c l))(hp:pl (.m b)=some x)(hx:H[x]?=some (some ⟨c.width,el⟩))(hw:0<c.width)(hrow:Rows el c l):
  HRel Fr H0 (vset X b none++[some (.sq c (l.take m))]) (plS (plS pl (.m b) none) (.m X.length) (some x)) (H.set x (some ⟨c.width,el.take m⟩))/\
   Ext X pl (vset X b none++[some (.sq c (l.take m))]) (plS (plS pl (.m b) none) (.m X.length) (some x)):=by
 have hbl:=Yag hb
 have hxl:=(YD4.1 hx).1
 have hXl:(vset X b none).length=X.length:=Yae _ _ _
 have hgn:vget (vset X b none++[some (.sq c (l.take m))]) X.length=some (.sq c (l.take m)):=by
  have:=Yal (vset X b none) (some (.sq c (l.take m)));rwa[hXl]at this
 have hgb0:vget (vset X b none++[some (.sq c (l.take m))]) b=none:=by
  rw[Yaq (by rw[hXl];exact hbl)];exact Yap _ hbl
 have hgb: ∀d,d≠b->d≠X.length->vget (vset X b none++[some (.sq c (l.take m))]) d=vget X d:=fun d h1 h2=>by
  by_cases hd:d<X.length
  ·rw[Yaq (by rw[hXl];exact hd),Yak _ (Ne.symm h1)]
  ·rw[Yan (by simp[hXl];omega),Yan (by omega)]
 have hps:plS (plS pl (.m b) none) (.m X.length) (some x) (.m X.length)=some x:=by unfold plS;rw[if_pos rfl]
 have hpb:plS (plS pl (.m b) none) (.m X.length) (some x) (.m b)=none:=by
  unfold plS;rw[if_neg (fun e=>by injection e with e;omega),if_pos rfl]
 have hpn: ∀p:Pos,p≠ .m X.length->p≠ .m b->plS (plS pl (.m b) none) (.m X.length) (some x) p=pl p:=fun p h h'=>by unfold plS;rw[if_neg h,if_neg h']
 have hxt:Ext X pl (vset X b none++[some (.sq c (l.take m))]) (plS (plS pl (.m b) none) (.m X.length) (some x)):=by
  refine⟨by simp[hXl],fun d hd=> ?_⟩
  have hdn:d≠X.length:=by omega
  by_cases e1:d=b
  ·subst e1;exact .inl hgb0
  ·rw[hgb d e1 hdn]
   cases h:vget X d with
   |none=>exact .inl rfl
   |some o1=>exact .inr ⟨o1,o1,rfl,rfl,rfl,rfl,hpn _ (fun e=>by injection e with e;exact hdn e) (fun e=>by injection e with e;exact e1 e),rfl,fun c' v' h' l' e=>⟨v',h',l',e,rfl,.inr ⟨rfl,fun h=>⟨h,fun i=>⟨rfl,hpn _ (fun e=>by cases e) (fun e=>by cases e)⟩⟩⟩⟩⟩
 refine⟨hr.build (fun d=>d=b\/d=X.length) hxt (fun d hd=>hgb d (fun e=>hd (.inl e)) (fun e=>hd (.inr e)))
  (fun p hd=>hpn p (fun e=>by subst e;exact hd (.inr rfl)) (fun e=>by subst e;exact hd (.inl rfl)))
  (fun p z hd hz=>by rw[YEb (fun e=>hd (by subst e;have:=hr.inj _ _ _ hz hp;subst this;exact .inl rfl))])
  (fun d ob hd hob=> ?_) (fun p z hd hz=> ?_) (fun p z hd hz=> ?_) (fun p q z hd hd' hz hz'=> ?_) (fun z hz=> ?_) (by simp),hxt⟩
 ·rcases hd with rfl|rfl
  ·rw[hgb0]at hob;cases hob
  ·rw[hgn]at hob;injection hob with hob;subst hob
   refine⟨x,el.take m,hps,by rw[YEe hxl],hw,by simp[hrow.1],fun i e v h1 h2=> ?_⟩
   rw[YEh]at h1 h2
   split at h1
   ·rename_i hi;rw[if_pos hi]at h2;exact hrow.2 i e v h1 h2
   ·cases h1
 ·by_cases e1:p= .m X.length
  ·subst e1;exact⟨_,hgn⟩
  ·by_cases e2:p= .m b
   ·subst e2;rw[hpb]at hz;cases hz
   ·rw[hpn p e1 e2]at hz
    rcases hd with hd|hd
    ·exact absurd (Yiw hr hb hz hd) e2
    ·have:=hr.dead (p:=p) (by rw[hd];exact Yan (YEI _))
     rw[this]at hz;cases hz
 ·by_cases e1:p= .m X.length
  ·subst e1;rw[hps]at hz;injection hz with hz;subst hz;exact .inl ⟨.m b,hp,.inl rfl⟩
  ·by_cases e2:p= .m b
   ·subst e2;rw[hpb]at hz;cases hz
   ·rw[hpn p e1 e2]at hz;exact .inl ⟨p,hz,hd⟩
 ·have key: ∀(p q:Pos) (z:Nat),p≠ .m X.length->q= .m X.length->plS (plS pl (.m b) none) (.m X.length) (some x) p=some z->plS (plS pl (.m b) none) (.m X.length) (some x) q=some z->False:=by
   intro p q z h1 h2 h3 h4
   subst h2;rw[hps]at h4;injection h4 with h4;subst h4
   by_cases e2:p= .m b
   ·subst e2;rw[hpb]at h3;cases h3
   ·rw[hpn p h1 e2]at h3;exact e2 (hr.inj _ _ _ h3 hp)
  by_cases e1:p= .m X.length<;>by_cases e2:q= .m X.length
  ·rw[e1,e2]
  ·exact(key q p z e2 e1 hz' hz).elim
  ·exact(key p q z e1 e2 hz hz').elim
  ·by_cases e3:p= .m b
   ·subst e3;rw[hpb]at hz;cases hz
   ·by_cases e4:q= .m b
    ·subst e4;rw[hpb]at hz';cases hz'
    ·rw[hpn p e1 e3]at hz;rw[hpn q e2 e4]at hz';exact hr.inj _ _ _ hz hz'
 ·rw[YEb (fun e=>hr.nfr _ _ hp (by rw[e];exact hz))]
theorem Yqt{X:YzS}{pl:Pl}{H:Heap}(hr:HRel Fr H0 X pl H){a j y:Nat}{cs:List TV}{e:List AV}{v:TV}{av:AV}(ha:vget X a=some (.st cs))(hp:pl (.m a)=some y)(hy:H[y]?=some (some ⟨cs.length,[e]⟩))(hct:CT X pl cs e)
  (hj:e[j]?=some av) (hv: ∀{X'},Ext X pl X' pl->TR X' pl v av):HRel Fr H0 (vset X a (some (.st (cs.set j v)))) pl H/\Ext X pl (vset X a (some (.st (cs.set j v)))) pl:=by
 have hal:=Yag ha
 have hga:vget (vset X a (some (.st (cs.set j v)))) a=some (.st (cs.set j v)):=Yap _ hal
 have hgb: ∀b,b≠a->vget (vset X a (some (.st (cs.set j v)))) b=vget X b:=fun b h1=>Yak _ (Ne.symm h1)
 have hxt:Ext X pl (vset X a (some (.st (cs.set j v)))) pl:=by
  refine⟨by rw[Yae];exact YEI _,fun b hb=> ?_⟩
  by_cases e1:b=a
  ·subst e1;exact .inr ⟨_,_,ha,hga,rfl,rfl,rfl,rfl,fun c v h l e=>by cases e⟩
  ·rw[hgb b e1]
   cases h:vget X b with
   |none=>exact .inl rfl
   |some o1=>exact .inr ⟨o1,o1,rfl,rfl,rfl,rfl,rfl,rfl,fun c' v' h' l' e=>⟨v',h',l',e,rfl,.inr ⟨rfl,fun h=>⟨h,fun i=>⟨rfl,rfl⟩⟩⟩⟩⟩
 have h0:0<cs.length:=by rw[hct.1];have:=(YD4.1 hj).1;omega
 refine⟨hr.build (fun b=>b=a) hxt (fun b hb=>hgb b hb) (fun _ _=>rfl) (fun _ _ _ _=>rfl) (fun b ob hb hob=> ?_) (fun p z hb hz=> ?_) (fun p z hb hz=>.inl ⟨p,hz,hb⟩) (fun p q z _ _ h1 h2=>hr.inj _ _ _ h1 h2) (fun _ _=>rfl) (YEI _),hxt⟩
 ·subst hb
  rw[hga]at hob;injection hob with hob;subst hob
  refine⟨y,e,hp,by rw[List.length_set];exact hy,by simpa using h0,by simp[hct.1],fun i c q g1 g2=> ?_⟩
  by_cases ei:i=j
  ·subst ei
   rw[hj]at g2;injection g2 with g2;subst g2
   rw[YEe (by rw[hct.1];exact(YD4.1 hj).1)]at g1
   injection g1 with g1;subst g1
   exact hv hxt
  ·rw[YEb (Ne.symm ei)]at g1
   exact(hct.2 i c q g1 g2).ext hxt
 ·have hl:=hr.own p z hz
  cases p with
  |m b=>simp only[Pos.of]at hb;subst hb;exact⟨_,hga⟩
  |n b i=>simp only[Pos.of]at hb;subst hb;obtain⟨c,v,h,l,k,_⟩:=hl;rw[ha]at k;cases k
theorem YaF{base:Nat}: ∀{ws:List (Nat×Option Nat×Bool)} {s:VSt} {pl:Pl} {st:ASt},st.base=base->ERel s.heap pl s.env st.env->HRel Fr H0 s.heap pl st.heap->
  ∃st' pl',Wk st st'/\st'.base=base/\ERel (ownV ws s).heap pl' (ownV ws s).env st'.env/\HRel Fr H0 (ownV ws s).heap pl' st'.heap/\s.heap.length<=(ownV ws s).heap.length/\ ∀i,i<s.heap.length-> ∀x,pl' (.m i)=some x->pl (.m i)=some x
 | [],s,pl,st,hb,he,hr=>⟨st,pl,.refl _,hb,he,hr,YEI _,fun _ _ _ h=>h⟩
 | (t,some j,w)::r,s,pl,st,hb0,he,hr=>by
   have hb:=hb0
   obtain⟨env,X⟩:=s
   obtain⟨ae,H,b0⟩:=st
   have rest:=YaF (ws:=r) (s:=⟨env,X⟩) (st:=⟨ae,H,b0⟩) hb he hr
   have step: ∀{a:Nat} {cs:List TV} {c0:Cs} (o:VObj) (es:Nat),vget X a=some (.st cs)->((cs[j]?=some (.e c0)/\0<es)\/cs[j]?=some (.v (.slice none 0 0)))->lenO o=some 0->
     (∀{X':YzS} {pl':Pl} {H':Heap},pl' (.m X.length)=some H.length->(∀i,pl' (.n X.length i)=none)->H'[H.length]?=some (some ⟨es,[]⟩)->OR X' pl' H' X.length o)->
     ∃st' pl',Wk ⟨ae,H,b0⟩ st'/\st'.base=base/\ERel (ownV r ⟨env,vset X a (some (.st (cs.set j (.ref X.length))))++[some o]⟩).heap pl' (ownV r ⟨env,vset X a (some (.st (cs.set j (.ref X.length))))++[some o]⟩).env st'.env/\HRel Fr H0 (ownV r ⟨env,vset X a (some (.st (cs.set j (.ref X.length))))++[some o]⟩).heap pl' st'.heap/\X.length<=(ownV r ⟨env,vset X a (some (.st (cs.set j (.ref X.length))))++[some o]⟩).heap.length/\ ∀i,i<X.length-> ∀x,pl' (.m i)=some x->pl (.m i)=some x:=by
    intro a cs c0 o es ha hj ho hor
    obtain⟨x,e,e1,e2,e3,e4⟩:=hr.obj a _ ha
    obtain⟨av,h1,hes,hjl⟩: ∃av,e[j]?=some av/\ ((av= .emp/\0<es)\/av= .v (.slice none 0 0))/\j<cs.length:=by
     rcases hj with⟨hj,hes⟩|hj
     ·obtain⟨av,h1,h2⟩:=e4.get hj
      cases h2
      exact⟨_,h1,.inl ⟨rfl,hes⟩,(YD4.1 hj).1⟩
     ·obtain⟨av,h1,h2⟩:=e4.get hj
      cases h2
      exact⟨_,h1,.inr rfl,(YD4.1 hj).1⟩
    obtain⟨k1,k2⟩:=Yqp hr ha e1 e2 e4 e3 hjl ho hor
    obtain⟨st',pl',g1,g2,g3,g4,g5,g6⟩:=YaF (ws:=r) (s:=⟨env,vset X a (some (.st (cs.set j (.ref X.length))))++[some o]⟩) (st:=⟨ae,H.set x (some ⟨cs.length,[e.set j (.ref H.length 0 0)]⟩)++[some ⟨es,[]⟩],b0⟩) hb (he.ext k2) k1
    have hlx:X.length+1=(vset X a (some (.st (cs.set j (.ref X.length))))++[some o]).length:=by simp[Yae]
    simp only at g5 g6
    exact⟨st',pl',(Yqo e2 h1 hes).trans g1,g2,g3,g4,by omega,fun i hi z hz=>by
     have:=g6 i (by omega) z hz
     unfold plS at this;rwa[if_neg (fun e=>by injection e with e;omega)]at this⟩
   unfold ownV
   simp only
   split
   ·split
    ·rename_i a _ _ _ _ cs ha
     split
     ·rename_i c hj
      cases hw:YEK 0 c.width with
      |false=>rw[cond_false];exact rest
      |true=>
       rw[cond_true]
       have hw':0<c.width:=by simpa using hw
       exact step (.sq c []) c.width ha (.inl ⟨hj,hw'⟩) rfl (fun h1 _ h3=>⟨H.length,[],h1,h3,hw',rfl,fun i e v h=>by simp at h⟩)
     ·rename_i c hj
      cases hw:YEK 0 c.width with
      |false=>rw[cond_false];exact rest
      |true=>
       rw[cond_true]
       have hw':0<c.width:=by simpa using hw
       exact step (.fm c 0 none []) 1 ha (.inl ⟨hj,by omega⟩) rfl (fun h1 _ h3=>⟨H.length,[],h1,h3,hw',rfl,fun e he=>by simp at he,fun i e v h=>by simp at h⟩)
     ·rename_i hj
      exact step (c0:=.nil) (.sb (YFf #[])) 0 ha (.inr hj) rfl (fun h1 _ h3=>⟨H.length,h1,by rw[show strA (YFf #[])=[] by simp[strA,YaN]];exact h3⟩)
     ·rename_i b n hj
      split
      ·rename_i c l hb
       obtain⟨y,e,e1,e2,e3,e4⟩:=hr.obj a _ ha
       obtain⟨x,el,d1,d2,d3,d4⟩:=hr.obj b _ hb
       obtain⟨av,h1,h2⟩:=e4.get hj
       cases h2 with
       |preD _ _ _ h _=>rw[h]at hb;cases hb
       |pre _ x' _ o n' h hn hp h0 hm=>
        rw[hb]at h;injection h with h;subst h
        rw[d1]at hp;injection hp with hp;subst hp
        injection hn with hn;subst hn
        obtain⟨k1,k2⟩:=YiT (m:=n.toNat) hr hb d1 d2 d3 d4
        have hab:a≠b:=fun e=>by subst e;rw[ha]at hb;cases hb
        have hal:=Yag ha
        have hbl:=Yag hb
        have hXl:(vset X b none).length=X.length:=Yae _ _ _
        have hga:vget (vset X b none++[some (.sq c (l.take n.toNat))]) a=some (.st cs):=by
         rw[Yaq (by rw[hXl];exact hal),Yak _ (Ne.symm hab)];exact ha
        have hgn:vget (vset X b none++[some (.sq c (l.take n.toNat))]) X.length=some (.sq c (l.take n.toNat)):=by
         have:=Yal (vset X b none) (some (.sq c (l.take n.toNat)));rwa[hXl]at this
        have hpa:plS (plS pl (.m b) none) (.m X.length) (some x) (.m a)=some y:=by
         unfold plS;rw[if_neg (fun e=>by injection e with e;omega),if_neg (fun e=>by injection e with e;exact hab e)];exact e1
        have hxy:x≠y:=fun e=>by subst e;have:=hr.inj _ _ _ d1 e1;injection this with this;exact hab this.symm
        obtain⟨f1,f2⟩:=Yqt (j:=j) (v:=.ref X.length) k1 hga hpa (by rw[YEb hxy];exact e2) (e4.ext k2) h1 (fun{X'} hx=>by
         refine TR.ext hx ?_
         have:=TR.ref (X:=vset X b none++[some (.sq c (l.take n.toNat))]) (pl:=plS (plS pl (.m b) none) (.m X.length) (some x)) X.length x _ _ hgn rfl (by unfold plS;rw[if_pos rfl])
         rwa[List.length_take,Nat.min_eq_left hm]at this)
        obtain⟨st',pl',g1,g2,g3,g4,g5,g6⟩:=YaF (ws:=r) (s:=⟨env,vset (vset X b none++[some (.sq c (l.take n.toNat))]) a (some (.st (cs.set j (.ref X.length))))⟩) (st:=⟨ae,H.set x (some ⟨c.width,el.take n.toNat⟩),b0⟩) hb0 ((he.ext k2).ext f2) f1
        have hlx:X.length+1=(vset (vset X b none++[some (.sq c (l.take n.toNat))]) a (some (.st (cs.set j (.ref X.length))))).length:=by simp[Yae]
        simp only at g5 g6
        exact⟨st',pl',(Yqs d2 e2 h1).trans g1,g2,g3,g4,by omega,fun i hi z hz=>by
         have:=g6 i (by omega) z hz
         unfold plS at this;rw[if_neg (fun e=>by injection e with e;omega)]at this
         split at this
         ·cases this
         ·exact this⟩
      ·exact rest
     ·exact rest
    ·exact rest
   ·rename_i a _
    obtain⟨q1,q2,q3,q4⟩:=YiQ he hr a
    obtain⟨st',pl',g1,g2,g3,g4,g5,g6⟩:=YaF (ws:=r) (s:=rnV a ⟨env,X⟩) (st:=⟨ae,H,b0⟩) hb q1 q2
    exact⟨st',pl',g1,g2,g3,g4,by simp only at q3 g5⊢;omega,fun i hi x hx=>q4 i hi x (g6 i (YEN hi (by simp only at q3;omega)) x hx)⟩
   ·exact rest
 | (t,none,w)::r,s,pl,st,hb,he,hr=>by
   obtain⟨env,X⟩:=s
   obtain⟨ae,H,b0⟩:=st
   have step: ∀(o:VObj) (es:Nat),0<es->YzV ae t= .emp->lenO o=some 0->(Ext X pl (X++[some o]) (plS pl (.m X.length) (some H.length))->OR (X++[some o]) (plS pl (.m X.length) (some H.length)) (H++[some ⟨es,[]⟩]) X.length o)->
     ∃st' pl',Wk ⟨ae,H,b0⟩ st'/\st'.base=base/\ERel (ownV r ⟨(t,.ref X.length)::env,X++[some o]⟩).heap pl' (ownV r ⟨(t,.ref X.length)::env,X++[some o]⟩).env st'.env/\HRel Fr H0 (ownV r ⟨(t,.ref X.length)::env,X++[some o]⟩).heap pl' st'.heap/\X.length<=(ownV r ⟨(t,.ref X.length)::env,X++[some o]⟩).heap.length/\ ∀i,i<X.length-> ∀x,pl' (.m i)=some x->pl (.m i)=some x:=by
    intro o es hes hl ho hor
    obtain⟨k1,k2⟩:=Yar hr o ⟨es,[]⟩ hor
    have hE:ERel (X++[some o]) (plS pl (.m X.length) (some H.length)) ((t,.ref X.length)::env) ((t,.ref H.length 0 0)::ae):=by
     intro t'
     simp only[Yz6,YzV]
     have e0:(t==t')=YEH t t':=by rw[YE6,beq_iff_eq,YES]
     rw[e0]
     cases YEH t t' with
     |true=>exact .ref X.length H.length o 0 (Yal _ _) ho (by unfold plS;rw[if_pos rfl])
     |false=>exact(he t').ext k2
    obtain⟨st',pl',h1,h2,h3,h4,g5,g6⟩:=YaF (ws:=r) (s:=⟨(t,.ref X.length)::env,X++[some o]⟩) (st:=⟨(t,.ref H.length 0 0)::ae,H++[some ⟨es,[]⟩],b0⟩) hb hE k1
    simp only[List.length_append,YEm,YEA]at g5 g6
    exact⟨st',pl',(Yii hl hes).trans h1,h2,h3,h4,by omega,fun i hi z hz=>by
     have:=g6 i (by omega) z hz
     unfold plS at this;rwa[if_neg (fun e=>by injection e with e;omega)]at this⟩
   have rest:=fun(he':ERel X pl env ae)=>YaF (ws:=r) (s:=⟨env,X⟩) (st:=⟨ae,H,b0⟩) hb he' hr
   have ht:=he t
   unfold ownV
   simp only at ht⊢
   cases hbig:YEK 999999 t with
   |true=>
    rw[cond_true]
    obtain⟨q1,q2,q3,q4⟩:=YiQ he hr (Nat.sub t 1000000)
    obtain⟨st',pl',g1,g2,g3,g4,g5,g6⟩:=YaF (ws:=r) (s:=rnV (Nat.sub t 1000000) ⟨env,X⟩) (st:=⟨ae,H,b0⟩) hb q1 q2
    exact⟨st',pl',g1,g2,g3,g4,by simp only at q3 g5⊢;omega,fun i hi x hx=>q4 i hi x (g6 i (YEN hi (by simp only at q3;omega)) x hx)⟩
   |false=>
   rw[cond_false]
   split
   ·rename_i c hv
    rw[hv]at ht
    cases hw:YEK 0 c.width with
    |false=>rw[cond_false];exact rest he
    |true=>
     rw[cond_true]
     have hw':0<c.width:=by simpa using hw
     generalize hl:YzV ae t=av at ht
     cases ht
     exact step (.sq c []) c.width hw' hl rfl (fun _=>⟨H.length,[],by unfold plS;rw[if_pos rfl],by simp,hw',rfl,fun i e v h=>by simp at h⟩)
   ·rename_i c hv
    rw[hv]at ht
    cases hw:YEK 0 c.width with
    |false=>rw[cond_false];exact rest he
    |true=>
     rw[cond_true]
     have hw':0<c.width:=by simpa using hw
     generalize hl:YzV ae t=av at ht
     cases ht
     exact step (.fm c 0 none []) 1 (by omega) hl rfl (fun _=>⟨H.length,[],by unfold plS;rw[if_pos rfl],by simp,hw',rfl,fun e he=>by simp at he,fun i e v h=>by simp at h⟩)
   ·rename_i a n hv
    rw[hv]at ht
    split
    ·rename_i c l hb'
     obtain⟨x,el,d1,d2,d3,d4⟩:=hr.obj a _ hb'
     generalize hl:YzV ae t=av at ht
     cases ht with
     |preD _ _ _ h _=>rw[h]at hb';cases hb'
     |pre _ x' _ o n' h hn hp h0 hm=>
      rw[hb']at h;injection h with h;subst h
      rw[d1]at hp;injection hp with hp;subst hp
      injection hn with hn;subst hn
      obtain⟨k1,k2⟩:=YiT (m:=n.toNat) hr hb' d1 d2 d3 d4
      have hXl:(vset X a none).length=X.length:=Yae _ _ _
      have hgn:vget (vset X a none++[some (.sq c (l.take n.toNat))]) X.length=some (.sq c (l.take n.toNat)):=by
       have:=Yal (vset X a none) (some (.sq c (l.take n.toNat)));rwa[hXl]at this
      have hE:ERel (vset X a none++[some (.sq c (l.take n.toNat))]) (plS (plS pl (.m a) none) (.m X.length) (some x)) ((t,.ref X.length)::env) ae:=by
       intro t'
       simp only[Yz6]
       cases e:YEH t t' with
       |true=>
        have:=YEJ e;subst this
        rw[cond_true,hl]
        have:=TR.ref (X:=vset X a none++[some (.sq c (l.take n.toNat))]) (pl:=plS (plS pl (.m a) none) (.m X.length) (some x)) X.length x _ _ hgn rfl (by unfold plS;rw[if_pos rfl])
        rwa[List.length_take,Nat.min_eq_left hm]at this
       |false=>exact(he t').ext k2
      have hbl:=Yag hb'
      obtain⟨st',pl',g1,g2,g3,g4,g5,g6⟩:=YaF (ws:=r) (s:=⟨(t,.ref X.length)::env,vset X a none++[some (.sq c (l.take n.toNat))]⟩) (st:=⟨ae,H.set x (some ⟨c.width,el.take n.toNat⟩),b0⟩) hb hE k1
      simp only[List.length_append,YEm,YEA,hXl]at g5 g6
      exact⟨st',pl',(Yqr d2 hl).trans g1,g2,g3,g4,by omega,fun i hi z hz=>by
       have:=g6 i (by omega) z hz
       unfold plS at this;rw[if_neg (fun e=>by injection e with e;omega)]at this
       split at this
       ·cases this
       ·exact this⟩
    ·exact rest he
   ·exact rest he
end
end Go.Abs
namespace Go.Abs
open Go Go.RowKit
mutual
inductive RefIn(A:Nat->Prop):AV->Prop
 |ref (a off len:Nat) (h:A a):RefIn A (.ref a off len)
 |ptr (a i j:Nat) (h:A a):RefIn A (.ptr a i j)
 |np (a:Nat) (h:A a):RefIn A (.np a)
 |v (x:Value):RefIn A (.v x)
 |u:RefIn A .u
 |emp:RefIn A .emp
 |rd (es:Nat) (l:List (List AV)) (h: ∀e∈l,∀x∈e,RefIn A x):RefIn A (.rd es l)
 |rp (cs:List AV) (h: ∀x∈cs,RefIn A x):RefIn A (.rp cs)
 |agg (cs:List AV) (h: ∀x∈cs,RefIn A x):RefIn A (.agg cs)
 |tup (cs:List AV) (h: ∀x∈cs,RefIn A x):RefIn A (.tup cs)
 |clo (f:Nat) (cs:List AV) (h: ∀x∈cs,RefIn A x):RefIn A (.clo f cs)
end
theorem YiU{A:Nat->Prop}{a:AV}(h:NR a):RefIn A a:=by
 induction h with
 |v x=>exact .v x
 |u=>exact .u
 |emp=>exact .emp
 |rd es l h ih=>exact .rd es l ih
 |rp cs h ih=>exact .rp cs ih
 |agg cs h ih=>exact .agg cs ih
 |tup cs h ih=>exact .tup cs ih
 |clo f cs h ih=>exact .clo f cs ih
theorem Yqu{A B:Nat->Prop}(hAB: ∀x,A x->B x){a:AV}(h:RefIn A a):RefIn B a:=by
 induction h with
 |ref a off len h=>exact .ref a off len (hAB a h)
 |ptr a i j h=>exact .ptr a i j (hAB a h)
 |np a h=>exact .np a (hAB a h)
 |v x=>exact .v x
 |u=>exact .u
 |emp=>exact .emp
 |rd es l h ih=>exact .rd es l ih
 |rp cs h ih=>exact .rp cs ih
 |agg cs h ih=>exact .agg cs ih
 |tup cs h ih=>exact .tup cs ih
 |clo f cs h ih=>exact .clo f cs ih
theorem YiV{ρ:Nat->Nat}{Fz:Nat->Prop}{H H':HF}{A:Nat->Prop}(hA: ∀x,A x->ρ x=x/\ ∃o,H' x=some (some o)){a:AV}(h:RefIn A a):Cz ρ Fz H H' a a:=by
 have list: ∀{cs:List AV},(∀x∈cs,Cz ρ Fz H H' x x)-> ∀(j:Nat) (x x':AV),cs[j]?=some x->cs[j]?=some x'->Cz ρ Fz H H' x x':=by
  intro cs h j x x' h1 h2
  rw[h1]at h2;injection h2 with h2;subst h2
  exact h x (YD5 h1)
 induction h with
 |ref a off len h=>
  obtain⟨h1,o,h2⟩:=hA a h
  have:=Cz.ref (ρ:=ρ) (Fz:=Fz) (H:=H) (H':=H') a off len o h2
  rwa[h1]at this
 |ptr a i j h=>
  obtain⟨h1,o,h2⟩:=hA a h
  have:=Cz.ptr (ρ:=ρ) (Fz:=Fz) (H:=H) (H':=H') a i j o h2
  rwa[h1]at this
 |np a h=>
  obtain⟨h1,o,h2⟩:=hA a h
  have:=Cz.np (ρ:=ρ) (Fz:=Fz) (H:=H) (H':=H') a o h2
  rwa[h1]at this
 |v x=>exact .v x
 |u=>exact .u _
 |emp=>exact .emp
 |rd es l h ih=>
  refine .rd es l l rfl (fun i e e' h1 h2=>by rw[h1]at h2;injection h2 with h2;rw[h2]) (fun i e e' j x x' h1 h2 h3 h4=> ?_)
  rw[h1]at h2;injection h2 with h2;subst h2
  exact list (ih e (YD5 h1)) j x x' h3 h4
 |rp cs h ih=>exact .rp cs cs rfl (list ih)
 |agg cs h ih=>exact .agg cs cs rfl (list ih)
 |tup cs h ih=>exact .tup cs cs rfl (list ih)
 |clo f cs h ih=>exact .clo f cs cs rfl (list ih)
def FrOK(Fr:Nat->Prop)(H:Heap):Prop:= ∀x,Fr x->(∃o,H[x]?=some (some o))/\ ∀o,H[x]?=some (some o)-> ∀e∈o.el,∀c∈e,RefIn Fr c
theorem YcA{P:TV->AV->AV->Prop}: ∀(cs:List TV) (as:List AV),cs.length=as.length->(∀(j:Nat) (c:TV) (a:AV),cs[j]?=some c->as[j]?=some a-> ∃a',P c a a')->
  ∃as':List AV,as'.length=as.length/\ ∀(j:Nat) (c:TV) (a a':AV),cs[j]?=some c->as[j]?=some a->as'[j]?=some a'->P c a a'
 | [],[],_,_=>⟨[],rfl,fun j c a a' h=>by simp at h⟩
 |c::cs,a::as,hl,h=>by
  obtain⟨as',h1,h2⟩:=YcA cs as (by simpa using hl) (fun j c a k1 k2=>h (j+1) c a k1 k2)
  obtain⟨a',h3⟩:=h 0 c a rfl rfl
  refine⟨a'::as',by simp[h1],fun j c1 a1 a2 k1 k2 k3=> ?_⟩
  cases j with
  |zero=>simp at k1 k2 k3;subst k1;subst k2;subst k3;exact h3
  |succ j=>simp at k1 k2 k3;exact h2 j c1 a1 a2 k1 k2 k3
 | [],_::_,hl,_=>by simp at hl
 |_::_,[],hl,_=>by simp at hl
theorem Ybf(X:YzS)(F:List Nat): ∀l:List TV,YBB X F l=l.map (frzA X F)
 | []=>rfl
 |a::r=>by simp[YBB,Ybf X F r]
theorem YiW(X:YzS): ∀F:List Nat,(YBj X F).length=X.length
 | []=>rfl
 |a::r=>by simp only[YBj];rw[Yae,YiW X r]
theorem YiX(X:YzS): ∀(F:List Nat) (a:Nat),vget (YBj X F) a=if a∈F then none else vget X a
 | [],a=>by simp[YBj]
 |b::r,a=>by
  simp only[YBj]
  by_cases e:b=a
  ·subst e
   rw[if_pos (YEg ..)]
   by_cases hb:b< (YBj X r).length
   ·exact Yap _ hb
   ·exact Yan (by rw[Yae];omega)
  ·rw[Yak _ e,YiX X r a]
   simp[Ne.symm e]
theorem any_mem{F:List Nat}{a:Nat}:F.any (YEH a)=true↔a∈F:=by
 simp only[List.any_eq_true]
 constructor
 ·rintro⟨x,h1,h2⟩;rw[YEJ h2];exact h1
 ·intro h;exact⟨a,h,YET a⟩
theorem Yqv{ρ:Nat->Nat}{Fz:Nat->Prop}{H H1 H2:HF}(hl: ∀a o,H1 a=some (some o)-> ∃o',H2 a=some (some o')){a b:AV}(h:Cz ρ Fz H H1 a b):Cz ρ Fz H H2 a b:=by
 induction h with
 |u a=>exact .u a
 |v x=>exact .v x
 |emp=>exact .emp
 |empRd es=>exact .empRd es
 |rd es l l' hl hz h ih=>exact .rd es l l' hl hz ih
 |rp cs cs' hl h ih=>exact .rp cs cs' hl ih
 |agg cs cs' hl h ih=>exact .agg cs cs' hl ih
 |tup cs cs' hl h ih=>exact .tup cs cs' hl ih
 |clo f cs cs' hl h ih=>exact .clo f cs cs' hl ih
 |ref a off len o h=>obtain⟨o',h'⟩:=hl a o h;exact .ref a off len o' h'
 |ptr a i j o h=>obtain⟨o',h'⟩:=hl a o h;exact .ptr a i j o' h'
 |np a o h=>obtain⟨o',h'⟩:=hl a o h;exact .np a o' h'
 |frz i off len o l' hz ho hle hl hlz h ih=>exact .frz i off len o l' hz ho hle hl hlz ih
section
variable{Fr:Nat->Prop}{H0:Heap}{X:YzS}{pl:Pl}{H:Heap}{F:List Nat}
abbrev frzX(X:YzS)(F:List Nat):YzS:=YBj (X.map (frzO X F)) F
def plF(pl:Pl)(F:List Nat):Pl:=fun p=>if p.of∈F then none else pl p
theorem Ya5(a:Nat):vget (frzX X F) a=if a∈F then none else frzO X F (vget X a):=by
 unfold frzX
 rw[YiX,YdG _ rfl]
theorem Ya6:(frzX X F).length=X.length:=by unfold frzX;rw[YiW];simp
theorem Yfm{el:List (List AV)}{c:Cs}{l:List c.den}(h:Rows el c l){Fz:Nat->Prop}{h0 h1:HF}{k:Nat}(hk:k<=l.length):
  (∀(i:Nat) (e e':List AV),el[0+i]?=some e->((l.take k).map c.enc)[i]?=some e'->e.length=e'.length)/\
  (∀(i:Nat) (e e':List AV) (j:Nat) (x x':AV),el[0+i]?=some e->((l.take k).map c.enc)[i]?=some e'->e[j]?=some x->e'[j]?=some x'->Cz id Fz h0 h1 x x'):=by
 have key: ∀{i:Nat} {e e':List AV},el[0+i]?=some e->((l.take k).map c.enc)[i]?=some e'-> ∃v,CC e (c.enc v)/\e'=c.enc v:=by
  intro i e e' h1 h2
  rw[YD6,YEW]at h2
  obtain⟨v,h2,rfl⟩:=h2
  rw[YEh]at h2
  split at h2
  ·rw[YEM]at h1;exact⟨v,h.2 i e v h1 h2,rfl⟩
  ·cases h2
 refine⟨fun i e e' h1 h2=> ?_,fun i e e' j x x' h1 h2 h3 h4=> ?_⟩
 ·obtain⟨v,hv,rfl⟩:=key h1 h2;exact hv.1
 ·obtain⟨v,hv,rfl⟩:=key h1 h2
  exact Ybs (hv.2 j x x' h3 h4) (Ybv c v x' (YD5 h4))
theorem YdI{Fz:Nat->Prop}{h1:HF}{a x:Nat}{c:Cs}{l:List c.den}(hr:HRel Fr H0 X pl H)(ho:vget X a=some (.sq c l))(hp:pl (.m a)=some x)(hz:Fz x){k:Nat}(hk:k<=l.length):
  Cz id Fz (hf H) h1 (.ref x 0 k) (.rd c.width ((l.take k).map c.enc)):=by
 obtain⟨x',el,e1,e2,e3,e4⟩:=hr.obj a _ ho
 rw[hp]at e1;injection e1 with e1;subst e1
 have:=Yfm (Fz:=Fz) (h0:=hf H) (h1:=h1) e4 hk
 have:=Cz.frz (ρ:=id) (Fz:=Fz) (H:=hf H) (H':=h1) x 0 k ⟨c.width,el⟩ _ hz e2 (by simp[e4.1];omega) (by simp;omega) this.1 this.2
 rwa[show wd (AObj.es ⟨c.width,el⟩)=c.width from YaB e3]at this
theorem Yqw{el:List (List AV)}{c:Cs}{l:List c.den}(h:Rows el c l){Fz:Nat->Prop}{h0 h1:HF}{x:Nat}{o:AObj}(ho:h0 x=some (some o))(he:o.el=el)(hw:wd o.es=c.width)(hz:Fz x):
  Cz id Fz h0 h1 (.ref x 0 l.length) (.rd c.width (l.map c.enc)):=by
 have:=Yfm (Fz:=Fz) (h0:=h0) (h1:=h1) h (k:=l.length) (YEI _)
 rw[YEj]at this
 subst he
 rw[<-hw]
 exact .frz x 0 l.length o _ hz ho (by rw[h.1];omega) (by simp) this.1 this.2
theorem YiY{Fz:Nat->Prop}{h1:HF}{a x:Nat}{s:ByteArray}(hr:HRel Fr H0 X pl H)(ho:vget X a=some (.sb s))(hp:pl (.m a)=some x)(hz:Fz x):
  Cz id Fz (hf H) h1 (.ref x 0 s.size) (.rd U8.width ((strL s).map U8.enc)):=by
 obtain⟨x',e1,e2⟩:=hr.obj a _ ho
 rw[hp]at e1;injection e1 with e1;subst e1
 have hL:(strL s).length=s.size:=by rw[<-(YaU s).1];exact strA_len' s
 rw[<-hL]
 exact Yqw (YaU s).rows e2 rfl rfl hz
theorem Yqx(hr:HRel Fr H0 X pl H){a:Nat}{s:ByteArray}(ha:vget X a=some (.sb s)){p:Pos}{x:Nat}(hp:pl p=some x)(hpa:p.of=a):p= .m a:=by
 have:=hr.own p x hp
 cases p with
 |m b=>simp only[Pos.of]at hpa;rw[hpa]
 |n b i=>
  simp only[Pos.of]at hpa;subst hpa
  obtain⟨c',v,h,l',k,_⟩:=this
  rw[ha]at k;injection k with k;cases k
theorem YiZ{Fz:Nat->Prop}{h1:HF}{a x:Nat}{c:Cs}{ver:Nat}{l:List (List c.den)}(hr:HRel Fr H0 X pl H)(ho:vget X a=some (.fm c ver none l))(hp:pl (.m a)=some x)(hz: ∀p y,p.of=a->pl p=some y->Fz y):
  Cz id Fz (hf H) h1 (.ref x 0 l.length) (.rd 1 (l.map fun v=>[AV.rd c.width (v.map c.enc)])):=by
 obtain⟨x',el,e1,e2,e3,e4,e5,e6⟩:=hr.obj a _ ho
 rw[hp]at e1;injection e1 with e1;subst e1
 have key: ∀{i:Nat} {e e':List AV},el[0+i]?=some e->(l.map fun v=>[AV.rd c.width (v.map c.enc)])[i]?=some e'->e.length=e'.length/\ ∀(j:Nat) (z z':AV),e[j]?=some z->e'[j]?=some z'->Cz id Fz (hf H) h1 z z':=by
  intro i e e' k1 k2
  rw[YD6,YEW]at k2
  obtain⟨v,k2,rfl⟩:=k2
  rw[YEM]at k1
  rcases e6 i e v k1 k2 (by simp)with⟨y,el',g1,g2,g3,g4⟩| ⟨g1,g2,g3⟩
  ·subst g2
   refine⟨rfl,fun j z z' h1 h2=> ?_⟩
   cases j with
   |zero=>
    have hz1:z= .ref y 0 v.length:=by simpa using h1.symm
    have hz2:z'= .rd c.width (v.map c.enc):=by
     simpa using h2.symm
    subst hz1;subst hz2
    have:=Yfm (Fz:=Fz) (h0:=hf H) (h1:= ‹HF›) g4 (k:=v.length) (YEI _)
    rw[YEj]at this
    have:=Cz.frz (ρ:=id) (Fz:=Fz) (H:=hf H) (H':= ‹HF›) y 0 v.length ⟨c.width,el'⟩ _ (hz _ y rfl g1) g3 (by simp[g4.1]) (by simp) this.1 this.2
    rwa[show wd (AObj.es ⟨c.width,el'⟩)=c.width from YaB e3]at this
   |succ j=>simp at h1
  ·subst g2;subst g3
   refine⟨rfl,fun j z z' h1 h2=> ?_⟩
   cases j with
   |zero=>
    have hz1:z= .emp:=by simpa using h1.symm
    have hz2:z'= .rd c.width []:=by
     simpa using h2.symm
    subst hz1;subst hz2;exact .empRd _
   |succ j=>simp at h1
 exact .frz x 0 l.length ⟨1,el⟩ _ (hz _ x rfl hp) e2 (by simp[e4]) (by simp) (fun i e e' k1 k2=>(key k1 k2).1) (fun i e e' j z z' k1 k2 k3 k4=>(key k1 k2).2 j z z' k3 k4)
theorem Yi0(hr:HRel Fr H0 X pl H)(hF: ∀a∈F,YBk X a=true){h1:HF}(hl: ∀p x,plF pl F p=some x-> ∃o,h1 x=some (some o)){tv:TV}{av:AV}(h:TR X pl tv av):
  ∃av',Cz id (fun x=> ∃p:Pos,p.of∈F/\pl p=some x) (hf H) h1 av av'/\TR (frzX X F) (plF pl F) (frzA X F tv) av':=by
 have hseq: ∀{a:Nat} {o:VObj},a∈F->vget X a=some o->(∃c l,o= .sq c l)\/(∃c v l,o= .fm c v none l)\/ ∃s,o= .sb s:=by
  intro a o h1 h2
  have:=hF a h1
  unfold YBk at this
  rw[h2]at this
  cases o with
  |sq c l=>exact .inl ⟨c,l,rfl⟩
  |fm c v hole l=>cases hole with
   |none=>exact .inr (.inl ⟨c,v,l,rfl⟩)
   |some i=>cases this
  |st cs=>cases this
  |sb s=>exact .inr (.inr ⟨s,rfl⟩)
 have keep: ∀{a:Nat} {o:VObj},a∉F->vget X a=some o-> ∃o',vget (frzX X F) a=some o'/\lenO o'=lenO o/\elN o'=elN o:=by
  intro a o h1 h2
  rw[Ya5,if_neg h1,h2]
  cases o with
  |sq c l=>exact⟨_,rfl,rfl,rfl⟩
  |fm c v hole l=>exact⟨_,rfl,rfl,rfl⟩
  |st cs=>exact⟨_,rfl,rfl,rfl⟩
  |sb s=>exact⟨_,rfl,rfl,rfl⟩
 have dead: ∀{a:Nat},a∈F->vget (frzX X F) a=none:=fun h=>by rw[Ya5,if_pos h]
 have plk: ∀{p:Pos},p.of∉F->plF pl F p=pl p:=fun h=>by unfold plF;rw[if_neg h]
 induction h with
 |i k n=>exact⟨_,.v _,.i k n⟩
 |b x=>exact⟨_,.v _,.b x⟩
 |s x=>exact⟨_,.v _,.s x⟩
 |l c v a h=>exact⟨.rd c.width (v.map c.enc),Ybs h (Ycn (.l c) v),.l c v _ (.refl _)⟩
 |e c=>exact⟨_,.emp,.e c⟩
 |u a=>exact⟨.u,.u _,.u _⟩
 |v x=>exact⟨_,.v _,.v x⟩
 |nl=>exact⟨_,.v _,.nl⟩
 |ref a x o n h hn hp=>
  by_cases ha:a∈F
  ·have hm:F.any (YEH a)=true:=any_mem.2 ha
   rcases hseq ha h with⟨c,l,rfl⟩| ⟨c,v,l,rfl⟩| ⟨s,rfl⟩
   ·simp only[lenO]at hn;injection hn with hn;subst hn
    refine⟨_,YdI hr h hp ⟨.m a,ha,hp⟩ (YEI _),?_⟩
    simp only[frzA,frzT,hm,cond_true,h,YEj]
    exact .l c l _ (.refl _)
   ·simp only[lenO]at hn;injection hn with hn;subst hn
    refine⟨_,YiZ hr h hp (fun p y e e2=>⟨p,by rw[e];exact ha,e2⟩),?_⟩
    simp only[frzA,frzT,hm,cond_true,h]
    exact .l (.cons (.l c) .nil) l _ (.refl _)
   ·simp only[lenO]at hn;injection hn with hn;subst hn
    refine⟨_,YiY hr h hp ⟨.m a,ha,hp⟩,?_⟩
    simp only[frzA,frzT,hm,cond_true,h]
    exact .l U8 _ _ (.refl _)
  ·have hm:F.any (YEH a)=false:=by
    cases hq:F.any (YEH a)with
    |false=>rfl
    |true=>exact absurd (any_mem.1 hq) ha
   obtain⟨o',k1,k2,k3⟩:=keep ha h
   have hp':plF pl F (.m a)=some x:=(plk (p:=.m a) ha).trans hp
   obtain⟨q,hq⟩:=hl _ _ hp'
   refine⟨_,.ref x 0 n q hq,?_⟩
   simp only[frzA,frzT,hm,cond_false]
   exact .ref a x o' n k1 (k2.trans hn) hp'
 |refD a av h ha=>
  refine⟨.u,.u _,?_⟩
  have hnF:a∉F:=fun hm=>by have:=hF a hm;unfold YBk at this;rw[h]at this;cases this
  have hm:F.any (YEH a)=false:=by
   cases hq:F.any (YEH a)with
   |false=>rfl
   |true=>exact absurd (any_mem.1 hq) hnF
  simp only[frzA,frzT,hm,cond_false]
  exact .refD a _ (by rw[Ya5,if_neg hnF,h];rfl) (by rw[Ya6];exact ha)
 |pre a x m o n h hn hp h0 hm'=>
  by_cases ha:a∈F
  ·have hm:F.any (YEH a)=true:=any_mem.2 ha
   rcases hseq ha h with⟨c,l,rfl⟩| ⟨c,v,l,rfl⟩| ⟨s,rfl⟩
   ·simp only[lenO]at hn;injection hn with hn;subst hn
    refine⟨_,YdI hr h hp ⟨.m a,ha,hp⟩ hm',?_⟩
    simp only[frzA,frzT,hm,cond_true,h]
    exact .l c _ _ (.refl _)
   ·refine⟨.u,.u _,?_⟩
    simp only[frzA,frzT,hm,cond_true,h]
    exact .preD a _ _ (dead ha) (by rw[Ya6];exact Yag h)
   ·refine⟨.u,.u _,?_⟩
    simp only[frzA,frzT,hm,cond_true,h]
    exact .preD a _ _ (dead ha) (by rw[Ya6];exact Yag h)
  ·have hm:F.any (YEH a)=false:=by
    cases hq:F.any (YEH a)with
    |false=>rfl
    |true=>exact absurd (any_mem.1 hq) ha
   obtain⟨o',k1,k2,k3⟩:=keep ha h
   have hp':plF pl F (.m a)=some x:=(plk (p:=.m a) ha).trans hp
   obtain⟨q,hq⟩:=hl _ _ hp'
   refine⟨_,.ref x 0 m.toNat q hq,?_⟩
   simp only[frzA,frzT,hm,cond_false]
   exact .pre a x m o' n k1 (k2.trans hn) hp' h0 hm'
 |preD a m av h ha=>
  refine⟨.u,.u _,?_⟩
  have hnF:a∉F:=fun hm=>by have:=hF a hm;unfold YBk at this;rw[h]at this;cases this
  have hm:F.any (YEH a)=false:=by
   cases hq:F.any (YEH a)with
   |false=>rfl
   |true=>exact absurd (any_mem.1 hq) hnF
  simp only[frzA,frzT,hm,cond_false]
  exact .preD a _ _ (by rw[Ya5,if_neg hnF,h];rfl) (by rw[Ya6];exact ha)
 |ptr a i j x o h hi hp=>
  by_cases ha:a∈F
  ·exact⟨.u,.u _,.ptrD a i j _ (dead ha) (by rw[Ya6];exact Yag h)⟩
  ·obtain⟨o',k1,k2,k3⟩:=keep ha h
   have hp':plF pl F (.m a)=some x:=(plk (p:=.m a) ha).trans hp
   obtain⟨q,hq⟩:=hl _ _ hp'
   exact⟨_,.ptr x i j q hq,.ptr a i j x o' k1 (by rw[k3];exact hi) hp'⟩
 |ptrD a i j av h ha=>
  refine⟨.u,.u _,.ptrD a i j _ ?_ (by rw[Ya6];exact ha)⟩
  rw[Ya5,h];split<;>rfl
 |np a x o h hp=>
  by_cases ha:a∈F
  ·exact⟨.u,.u _,.npD a _ (dead ha) (by rw[Ya6];exact Yag h)⟩
  ·obtain⟨o',k1,k2,k3⟩:=keep ha h
   have hp':plF pl F (.m a)=some x:=(plk (p:=.m a) ha).trans hp
   obtain⟨q,hq⟩:=hl _ _ hp'
   exact⟨_,.np x q hq,.np a x o' k1 hp'⟩
 |npD a av h ha=>
  refine⟨.u,.u _,.npD a _ ?_ (by rw[Ya6];exact ha)⟩
  rw[Ya5,h];split<;>rfl
 |sub=>exact⟨.u,.u _,.u _⟩
 |sube=>exact⟨.u,.u _,.u _⟩
 |subD=>exact⟨.u,.u _,.u _⟩
 |pti=>exact⟨.u,.u _,.u _⟩
 |ptiD=>exact⟨.u,.u _,.u _⟩
 |rp=>exact⟨.u,.u _,.u _⟩
 |lt=>exact⟨.u,.u _,.u _⟩
 |ag cs as hl' h ih=>
  obtain⟨as',k1,k2⟩:=YcA cs as hl' ih
  refine⟨.agg as',.agg _ _ k1.symm (fun j x x' h1 h2=> ?_),?_⟩
  ·obtain⟨c,hc⟩:=Yac hl' h1
   exact(k2 j c x x' hc h1 h2).1
  ·simp only[frzA,Ybf]
   refine .ag _ _ (by simp[hl',k1]) (fun j c a h1 h2=> ?_)
   rw[YD6,YEW]at h1
   obtain⟨y,h1,rfl⟩:=h1
   obtain⟨x,hx⟩:=Yac (hl'.symm) h1
   exact(k2 j y x a h1 hx h2).2
 |tp cs as hl' h ih=>
  obtain⟨as',k1,k2⟩:=YcA cs as hl' ih
  refine⟨.tup as',.tup _ _ k1.symm (fun j x x' h1 h2=> ?_),?_⟩
  ·obtain⟨c,hc⟩:=Yac hl' h1
   exact(k2 j c x x' hc h1 h2).1
  ·simp only[frzA,Ybf]
   refine .tp _ _ (by simp[hl',k1]) (fun j c a h1 h2=> ?_)
   rw[YD6,YEW]at h1
   obtain⟨y,h1,rfl⟩:=h1
   obtain⟨x,hx⟩:=Yac (hl'.symm) h1
   exact(k2 j y x a h1 hx h2).2
 |clo g cs as hl' h ih=>
  obtain⟨as',k1,k2⟩:=YcA cs as hl' ih
  refine⟨.clo g as',.clo _ _ _ k1.symm (fun j x x' h1 h2=> ?_),?_⟩
  ·obtain⟨c,hc⟩:=Yac hl' h1
   exact(k2 j c x x' hc h1 h2).1
  ·simp only[frzA,Ybf]
   refine .clo g _ _ (by simp[hl',k1]) (fun j c a h1 h2=> ?_)
   rw[YD6,YEW]at h1
   obtain⟨y,h1,rfl⟩:=h1
   obtain⟨x,hx⟩:=Yac (hl'.symm) h1
   exact(k2 j y x a h1 hx h2).2
def FrzS(X:YzS)(pl:Pl)(H:Heap)(F:List Nat)(h1:HF)(x:Nat)(o':AObj):Prop:=
 (∃a cs e e',a∉F/\vget X a=some (.st cs)/\pl (.m a)=some x/\H[x]?=some (some ⟨cs.length,[e]⟩)/\0<cs.length/\cs.length=e.length/\o'=⟨cs.length,[e']⟩/\e'.length=e.length/\
  ∀(j:Nat) (c:TV) (a1 a2:AV),cs[j]?=some c->e[j]?=some a1->e'[j]?=some a2->Cz id (fun x=> ∃p:Pos,p.of∈F/\pl p=some x) (hf H) h1 a1 a2/\TR (frzX X F) (plF pl F) (frzA X F c) a2)\/
 (∃p:Pos,p.of∉F/\pl p=some x/\ (∀a cs,p= .m a->vget X a≠some (.st cs))/\H[x]?=some (some o'))
theorem Yqy{env:VEnv}{ae:Env}{b:Nat}(hFr:FrOK Fr H0)(he:ERel X pl env ae)(hr:HRel Fr H0 X pl H)(hF: ∀a∈F,YBk X a=true)(hnh: ∀{a c v h l},vget X a=some (.fm c v h l)->h=none):
  ∃ae' H',Wk ⟨ae,H,b⟩ ⟨ae',H',b⟩/\ERel (frzX X F) (plF pl F) (env.map fun p=>(p.1,frzA X F p.2)) ae'/\HRel Fr H0 (frzX X F) (plF pl F) H':=by
 classical
 let h1:HF:=fun x=>if∃p,plF pl F p=some x then some (some ⟨1,[]⟩)else none
 have hl: ∀p x,plF pl F p=some x-> ∃o,h1 x=some (some o):=fun p x h=>⟨_,if_pos ⟨p,h⟩⟩
 have ex: ∀x,(∃p,plF pl F p=some x)-> ∃o',FrzS X pl H F h1 x o':=by
  rintro x ⟨p,hp⟩
  have hpF:p.of∉F/\pl p=some x:=by
   unfold plF at hp
   split at hp
   ·cases hp
   ·exact⟨by assumption,hp⟩
  obtain⟨o,ho⟩:=hr.lt hpF.2
  by_cases hs: ∃a cs,p= .m a/\vget X a=some (.st cs)
  ·obtain⟨a,cs,rfl,hX⟩:=hs
   obtain⟨x',e,e1,e2,e3,e4⟩:=hr.obj a _ hX
   rw[hpF.2]at e1;injection e1 with e1;subst e1
   obtain⟨e',k1,k2⟩:=YcA (P:=fun c a1 a2=>Cz id (fun x=> ∃p:Pos,p.of∈F/\pl p=some x) (hf H) h1 a1 a2/\TR (frzX X F) (plF pl F) (frzA X F c) a2) cs e e4.1 (fun j c a g1 g2=>Yi0 hr hF hl (e4.2 j c a g1 g2))
   exact⟨_,.inl ⟨a,cs,e,e',hpF.1,hX,hpF.2,e2,e3,e4.1,rfl,k1,k2⟩⟩
  ·exact⟨o,.inr ⟨p,hpF.1,hpF.2,fun a cs e1 e2=>hs ⟨a,cs,e1,e2⟩,ho⟩⟩
 let obj:Nat->Option AObj:=fun x=>if Fr x then(H[x]?).join else if h: ∃p,plF pl F p=some x then some (Classical.choose (ex x h))else none
 let H':Heap:=(List.range H.length).map obj
 have hget: ∀{p x},plF pl F p=some x-> ∃o',H'[x]?=some (some o')/\FrzS X pl H F h1 x o':=by
  intro p x hp
  have hx: ∃p,plF pl F p=some x:=⟨p,hp⟩
  have hlt:x<H.length:=by
   unfold plF at hp
   split at hp
   ·cases hp
   ·exact hr.bd hp
  refine⟨Classical.choose (ex x hx),?_,Classical.choose_spec (ex x hx)⟩
  show((List.range H.length).map obj)[x]?=_
  rw[YD6,YEu hlt]
  have hnf: ¬Fr x:=by
   unfold plF at hp
   split at hp
   ·cases hp
   ·exact hr.nfr _ _ hp
  simp only[YEX,obj,if_neg hnf,dif_pos hx]
 have hfrH: ∀{x},Fr x->H'[x]?=H[x]?:=by
  intro x hx
  have h1:=hr.fr x hx
  have hlt:x<H.length:=YEN h1.1 hr.le
  obtain⟨⟨o,ho⟩,_⟩:=hFr x hx
  show((List.range H.length).map obj)[x]?=_
  rw[YD6,YEu hlt]
  simp only[YEX,obj,if_pos hx,h1.2,ho,Option.join_some]
 have hinv: ∀{x o'},H'[x]?=some (some o')-> ¬Fr x->(∃p,plF pl F p=some x)/\FrzS X pl H F h1 x o':=by
  intro x o' h hnf
  have hlt:x<H.length:=by have:=(YD4.1 h).1;simpa[H']using this
  have h':obj x=some o':=by
   have:((List.range H.length).map obj)[x]?=some (some o'):=h
   rw[YD6,YEu hlt]at this
   simpa using this
  simp only[obj,if_neg hnf]at h'
  split at h'
  ·rename_i hx;injection h' with h';subst h';exact⟨hx,Classical.choose_spec (ex x hx)⟩
  ·cases h'
 have hlen:H'.length=H.length:=by simp[H']
 have hlive: ∀a o,h1 a=some (some o)-> ∃o',hf H' a=some (some o'):=by
  intro a o h
  simp only[h1]at h
  split at h
  ·rename_i hp;obtain⟨p,hp⟩:=hp;obtain⟨o',h2,_⟩:=hget hp;exact⟨o',h2⟩
  ·cases h
 have hp2: ∀{p:Pos} {x},plF pl F p=some x->p.of∉F/\pl p=some x:=by
  intro p x hp
  unfold plF at hp
  split at hp
  ·cases hp
  ·exact⟨by assumption,hp⟩
 have hsame: ∀{p:Pos} {x},plF pl F p=some x->(∀a cs,p= .m a->vget X a≠some (.st cs))->H'[x]?=H[x]?:=by
  intro p x hp hns
  obtain⟨o',k1,k2⟩:=hget hp
  rcases k2 with⟨a,cs,e,e',_,hX,hpa,_⟩| ⟨q,_,_,_,hH⟩
  ·have:=hr.inj _ _ _ (hp2 hp).2 hpa
   exact absurd hX (hns a cs this)
  ·rw[k1,hH]
 have hcell: ∀{a:Nat} {o:VObj},(∀cs,o≠ .st cs)->vget X a=some o-> ∀{x:Nat} {ob:AObj},(∃p:Pos,p.of=a/\pl p=some x)->H[x]?=some (some ob)->a∉F->
   ∀e∈ob.el,∀z∈e,Cz id (fun x=> ∃p:Pos,p.of∈F/\pl p=some x) (hf H) (hf H') z z:=by
  rintro a o hns hX x ob ⟨p,hpa,hp⟩ hH haF e he z hz
  obtain⟨i,hi⟩:=YEi.1 he
  have hil:=(YD4.1 hi).1
  have hrow: ∀{el:List (List AV)} {c:Cs} {l:List c.den},Rows el c l->el[i]?=some e->Cz id (fun x=> ∃p:Pos,p.of∈F/\pl p=some x) (hf H) (hf H') z z:=by
   intro el c l hrw h1
   have hil:=(YD4.1 h1).1
   have hil2:i<l.length:=by rw[<-hrw.1];exact hil
   have hcc:=hrw.2 i e l[i] h1 (YD7 hil2)
   obtain⟨j,hj⟩:=YEi.1 hz
   obtain⟨z',hz'⟩:=Yac hcc.1.symm hj
   exact Yig (Yde (hcc.2 j z z' hj hz') (Ybv c _ z' (YD5 hz')))
  cases o with
  |st cs=>exact absurd rfl (hns cs)
  |sb s=>
   have:=Yqx hr hX hp hpa;subst this
   obtain⟨x',e1,e2⟩:=hr.obj a _ hX
   rw[hp]at e1;injection e1 with e1;subst e1
   rw[hH]at e2;injection e2 with e2;injection e2 with e2;subst e2
   exact hrow (YaU s).rows hi
  |sq c l=>
   have:=Yiw hr hX hp hpa;subst this
   obtain⟨x',el,e1,e2,e3,e4⟩:=hr.obj a _ hX
   rw[hp]at e1;injection e1 with e1;subst e1
   rw[hH]at e2;injection e2 with e2;injection e2 with e2;subst e2
   exact hrow e4 hi
  |fm c ver hole l=>
   obtain⟨x',el,e1,e2,e3,e4,e5,e6⟩:=hr.obj a _ hX
   rcases Ycr hr hX hp hpa with rfl| ⟨k,rfl,hk,hkh⟩
   ·rw[hp]at e1;injection e1 with e1;subst e1
    rw[hH]at e2;injection e2 with e2;injection e2 with e2;subst e2
    have hil2:i<l.length:=by rw[<-e4];exact hil
    have hh:hole≠some i:=by rw[hnh hX];simp
    rcases e6 i e l[i] hi (YD7 hil2) hh with⟨y,el',g1,g2,g3,g4⟩| ⟨g1,g2,g3⟩
    ·subst g2;simp only[YEl]at hz;subst hz
     obtain⟨q,hq,_⟩:=hget (p:=.n a i) (x:=y) ((if_neg haF).trans g1)
     exact .ref y 0 _ q hq
    ·subst g3;simp only[YEl]at hz;subst hz;exact .emp
   ·have hkl:k<el.length:=by omega
    rcases e6 k el[k] l[k] (YD7 hkl) (YD7 hk) hkh with⟨y,el',g1,g2,g3,g4⟩| ⟨g1,_⟩
    ·rw[hp]at g1;injection g1 with g1;subst g1
     rw[hH]at g3;injection g3 with g3;injection g3 with g3;subst g3
     exact hrow g4 hi
    ·rw[hp]at g1;cases g1
 have hczl: ∀{a b},Cz id (fun x=> ∃p:Pos,p.of∈F/\pl p=some x) (hf H) h1 a b->Cz id (fun x=> ∃p:Pos,p.of∈F/\pl p=some x) (hf H) (hf H') a b:=fun h=>Yqv hlive h
 have hHR:HRel (fun _=>False) [] (frzX X F) (plF pl F) H':=by
  refine⟨fun a o h2=> ?_,fun p q x k1 k2=>hr.inj _ _ _ (hp2 k1).2 (hp2 k2).2,fun p x k1=> ?_,fun x h=>h.elim,fun _ _ _ h=>h,YEQ _⟩
  ·rw[Ya5]at h2
   split at h2
   ·cases h2
   ·rename_i haF
    cases hX:vget X a with
    |none=>rw[hX]at h2;cases h2
    |some o0=>
     rw[hX]at h2
     have hpl: ∀p:Pos,p.of=a->plF pl F p=pl p:=fun p e=>by unfold plF;rw[if_neg (by rw[e];exact haF)]
     have hob:=hr.obj a o0 hX
     cases o0 with
     |sb s=>
      simp only[frzO]at h2;injection h2 with h2;subst h2
      obtain⟨x,e1,e2⟩:=hob
      exact⟨x,(hpl _ rfl).trans e1,(hsame ((hpl _ rfl).trans e1) (fun a' cs e=>by injection e with e;subst e;rw[hX];simp)).trans e2⟩
     |sq c l=>
      simp only[frzO]at h2;injection h2 with h2;subst h2
      obtain⟨x,el,e1,e2,e3,e4⟩:=hob
      exact⟨x,el,(hpl _ rfl).trans e1,(hsame ((hpl _ rfl).trans e1) (fun a' cs e=>by injection e with e;subst e;rw[hX];simp)).trans e2,e3,e4⟩
     |fm c v hole l=>
      simp only[frzO]at h2;injection h2 with h2;subst h2
      obtain⟨x,el,e1,e2,e3,e4,e5,e6⟩:=hob
      refine⟨x,el,(hpl _ rfl).trans e1,(hsame ((hpl _ rfl).trans e1) (fun a' cs e=>by injection e with e;subst e;rw[hX];simp)).trans e2,e3,e4,e5,fun i e v' k1 k2 k3=> ?_⟩
      rcases e6 i e v' k1 k2 k3 with⟨y,el',g1,g2,g3,g4⟩| ⟨g1,g2,g3⟩
      ·exact .inl ⟨y,el',(hpl _ rfl).trans g1,g2,(hsame ((hpl _ rfl).trans g1) (fun a' cs e=>by cases e)).trans g3,g4⟩
      ·exact .inr ⟨(hpl _ rfl).trans g1,g2,g3⟩
     |st cs=>
      simp only[frzO]at h2;injection h2 with h2;subst h2
      obtain⟨x,e,e1,e2,e3,e4⟩:=hob
      obtain⟨o',k1,k2⟩:=hget ((hpl (.m a) rfl).trans e1)
      rcases k2 with⟨a',cs',e0,e',q1,q2,q3,q4,q5,q6,q7,q8,q9⟩| ⟨p,q1,q2,q3,_⟩
      ·have:=hr.inj _ _ _ e1 q3;injection this with this;subst this
       rw[hX]at q2;injection q2 with q2;injection q2 with q2;subst q2
       refine⟨x,e',(hpl _ rfl).trans e1,by rw[k1,q7];simp[Ybf],by simpa[Ybf]using e3,by simp[Ybf,q8,q6],fun j c a2 g1 g2=> ?_⟩
       rw[Ybf,YD6,YEW]at g1
       obtain⟨y,g1,rfl⟩:=g1
       obtain⟨z,hz⟩:=Yac (l:=e0) q8.symm g2
       exact(q9 j y z a2 g1 hz g2).2
      ·have:=hr.inj _ _ _ e1 q2;subst this;exact absurd hX (q3 a cs rfl)
  ·obtain⟨k2,k3⟩:=hp2 k1
   have:=hr.own p x k3
   cases p with
   |m a=>
    obtain⟨o,ho⟩:=this
    have:frzO X F (some o)=some (match frzO X F (some o)with|some o'=>o'|none=>o):=by cases o<;>rfl
    exact⟨_,by rw[Ya5,if_neg (show¬a∈F from k2),ho];exact this⟩
   |n a i=>
    obtain⟨c,v,h,l,ho,k⟩:=this
    exact⟨c,v,h,l,by rw[Ya5,if_neg (show¬a∈F from k2),ho];rfl,k⟩
 have henv: ∀env':VEnv,(∃ae',∀t,(∃a,Yz6 env' t=a)->Cz id (fun x=> ∃p:Pos,p.of∈F/\pl p=some x) (hf H) (hf H') (YzV ae t) (YzV ae' t)/\TR (frzX X F) (plF pl F) (Yz6 (env'.map fun p=>(p.1,frzA X F p.2)) t) (YzV ae' t))\/ ¬ERel X pl env' ae:=by
  intro env'
  by_cases hE:ERel X pl env' ae
  ·refine .inl ?_
   have hch: ∀t,∃av',Cz id (fun x=> ∃p:Pos,p.of∈F/\pl p=some x) (hf H) h1 (YzV ae t) av'/\TR (frzX X F) (plF pl F) (frzA X F (Yz6 env' t)) av':=fun t=>Yi0 hr hF hl (hE t)
   refine⟨(env'.map (·.1)).map fun t=>(t,Classical.choose (hch t)),fun t _=> ?_⟩
   have hl1: ∀ts:List Nat,YzV (ts.map fun t=>(t,Classical.choose (hch t))) t=if t∈ts then Classical.choose (hch t)else .u:=by
    intro ts
    induction ts with
    |nil=>rfl
    |cons s ts ih=>
     simp only[YD8,YzV]
     by_cases e:s=t
     ·subst e;simp
     ·have:(s==t)=false:=by simp[e]
      rw[this,cond_false,ih];simp[Ne.symm e]
   have hl2: ∀en:VEnv,Yz6 (en.map fun p=>(p.1,frzA X F p.2)) t=if t∈en.map (·.1)then frzA X F (Yz6 en t)else .u:=by
    intro en
    induction en with
    |nil=>rfl
    |cons s en ih=>
     obtain⟨s,v⟩:=s
     simp only[YD8,Yz6]
     cases hb:YEH s t with
     |true=>have:=YEJ hb;subst this;simp
     |false=>
      have hne:t≠s:=fun e=>by subst e;rw[YET]at hb;cases hb
      rw[cond_false,cond_false,ih];simp[hne]
   rw[hl1,hl2]
   split
   ·exact⟨hczl (Classical.choose_spec (hch t)).1,(Classical.choose_spec (hch t)).2⟩
   ·exact⟨.u _,.u _⟩
  ·exact .inr hE
 obtain⟨ae',hae⟩:=(henv env).resolve_right (fun h=>h he)
 refine⟨ae',H',?_,fun t=>(hae t ⟨_,rfl⟩).2,⟨hHR.obj,hHR.inj,hHR.own,fun x h=>⟨(hr.fr x h).1,(hfrH h).trans (hr.fr x h).2⟩,fun p x h=>hr.nfr p x (hp2 h).2,by rw[hlen];exact hr.le⟩⟩
 refine Ypp id (fun x=> ∃p:Pos,p.of∈F/\pl p=some x) ⟨fun a b _ _ _ _ h=>h,fun a _=>⟨rfl,fun h=> ?_⟩,fun x o' hx=> ?_⟩ rfl (fun t=>(hae t ⟨_,rfl⟩).1)
 ·simp only[hf]at h⊢
  intro hn
  rw[List.getElem?_eq_none_iff,hlen]at hn
  exact h (YEp hn)
 ·by_cases hfx:Fr x
  ·have hx':H'[x]?=some (some o'):=hx
   rw[hfrH hfx]at hx'
   refine⟨fun⟨q,q1,q2⟩=>hr.nfr q x q2 hfx,o',hx',rfl,rfl,fun i e e' k1 k2=> ?_⟩
   rw[k1]at k2;injection k2 with k2;subst k2
   refine⟨rfl,fun j z z' h3 h4=> ?_⟩
   rw[h3]at h4;injection h4 with h4;subst h4
   refine YiV (A:=Fr) (fun y hy=> ?_) ((hFr x hfx).2 o' ((hr.fr x hfx).2.symm.trans hx') e (YD5 k1) z (YD5 h3))
   obtain⟨⟨o,ho⟩,_⟩:=hFr y hy
   exact⟨rfl,o,(hfrH hy).trans ((hr.fr y hy).2.trans ho)⟩
  obtain⟨⟨p,hp⟩,hS⟩:=hinv hx hfx
  obtain⟨g1,g2⟩:=hp2 hp
  refine⟨fun⟨q,q1,q2⟩=>by have:=hr.inj _ _ _ g2 q2;subst this;exact g1 q1,?_⟩
  rcases hS with⟨a,cs,e,e',q1,q2,q3,q4,q5,q6,q7,q8,q9⟩| ⟨q,q1,q2,q3,q4⟩
  ·refine⟨_,q4,by rw[q7],by rw[q7];rfl,fun i e1 e2 k1 k2=> ?_⟩
   rw[q7]at k2
   cases i with
   |succ i=>simp at k1
   |zero=>
    simp at k1 k2;subst k1;subst k2
    refine⟨q8.symm,fun j z z' h3 h4=> ?_⟩
    obtain⟨c,hc⟩:=Yac (l:=cs) q6 h3
    exact hczl (q9 j c z z' hc h3 h4).1
  ·refine⟨o',q4,rfl,rfl,fun i e1 e2 k1 k2=> ?_⟩
   rw[k1]at k2;injection k2 with k2;subst k2
   refine⟨rfl,fun j z z' h3 h4=> ?_⟩
   rw[h3]at h4;injection h4 with h4;subst h4
   have hlv:=hr.own q x q2
   have: ∃o,vget X q.of=some o/\ ∀cs,o≠ .st cs:=by
    cases q with
    |m a=>obtain⟨o,ho⟩:=hlv;exact⟨o,ho,fun cs e=>q3 a cs rfl (by rw[ho,e])⟩
    |n a i=>obtain⟨c,v,h,l,ho,_⟩:=hlv;exact⟨_,ho,fun cs e=>by cases e⟩
   obtain⟨o,ho,hns⟩:=this
   exact hcell hns ho ⟨q,rfl,q2⟩ q4 q1 e1 (YD5 k1) z (YD5 h3)
end
end Go.Abs
namespace Go.Abs
open Go Go.RowKit
mutual
def avT:TV->AV
 | .i k n=>.v (.int k n)
 | .b x=>.v (.bool x)
 | .s x=>.v (.string x)
 | .l c v=>.rd c.width (v.map c.enc)
 | .ag x=>.agg (avTs x)
 | .tp x=>.tup (avTs x)
 | .clo g x=>.clo g (avTs x)
 |_=>.u
def avTs:List TV->List AV
 | []=>[]
 |a::r=>avT a::avTs r
end
theorem YbC: ∀l:List TV,avTs l=l.map avT
 | []=>rfl
 |a::r=>by simp[avTs,YbC r]
mutual
theorem Yfn: ∀v:TV,NR (avT v)
 | .i _ _| .b _| .s _=>.v _
 | .l c v=>Ycn (.l c) v
 | .ag x=>.agg _ (fun a h=>YbR x a h)
 | .tp x=>.tup _ (fun a h=>YbR x a h)
 | .clo g x=>.clo g _ (fun a h=>YbR x a h)
 | .e _| .u| .v _| .nl| .ref _| .pre _ _| .sub _ _ _| .ptr _ _ _| .np _| .pti _ _ _ _ _| .rp _| .lt _=>.u
theorem YbR: ∀(l:List TV) (a:AV),a∈avTs l->NR a
 | [],a,h=>by simp[avTs]at h
 |v::r,a,h=>by
  simp only[avTs,YEd]at h
  rcases h with rfl|h
  ·exact Yfn v
  ·exact YbR r a h
end
section
variable{Fr:Nat->Prop}{H0:Heap}{X:YzS}{pl:Pl}{H:Heap}
theorem Yfo{P:AV->AV->Prop}{cs:List TV}{as:List AV}(hl:cs.length=as.length)(h: ∀(j:Nat) (c:TV) (a:AV),cs[j]?=some c->as[j]?=some a->P a (avT c)):
  as.length=(avTs cs).length/\ ∀(j:Nat) (x x':AV),as[j]?=some x->(avTs cs)[j]?=some x'->P x x':=by
 refine⟨by simp[YbC,hl],fun j x x' h1 h2=> ?_⟩
 rw[YbC,YD6,YEW]at h2
 obtain⟨c,h2,rfl⟩:=h2
 exact h j c x h2 h1
theorem YdJ{l:List TV}(h:YAc l=true): ∀(j:Nat) (c:TV),l[j]?=some c->YAX c=true:=by
 induction l with
 |nil=>intro j c h;simp at h
 |cons a r ih=>
  simp only[YAc,YE3]at h
  intro j c hj
  cases j with
  |zero=>simp at hj;subst hj;exact h.1
  |succ j=>simp at hj;exact ih h.2 j c hj
theorem Yi1{v:TV}{a:AV}(h:TR X pl v a):YAX v=true->Coe a (avT v):=by
 induction h with
 |i k n=>exact fun _=>.refl _
 |b x=>exact fun _=>.refl _
 |s x=>exact fun _=>.refl _
 |l c v a h=>exact fun _=>h
 |ag cs as hl h ih=>
  intro hd
  have:=Yfo (P:=Coe) hl (fun j c a h1 h2=>ih j c a h1 h2 (YdJ hd j c h1))
  exact .agg _ _ this.1 this.2
 |tp cs as hl h ih=>
  intro hd
  have:=Yfo (P:=Coe) hl (fun j c a h1 h2=>ih j c a h1 h2 (YdJ hd j c h1))
  exact .tup _ _ this.1 this.2
 |clo g cs as hl h ih=>
  intro hd
  have:=Yfo (P:=Coe) hl (fun j c a h1 h2=>ih j c a h1 h2 (YdJ hd j c h1))
  exact .clo g _ _ this.1 this.2
 |_=>intro hd;cases hd
mutual
theorem Yfp: ∀v:TV,YAX v=true->TR X pl v (avT v)
 | .i _ _,_=>.i _ _
 | .b _,_=>.b _
 | .s _,_=>.s _
 | .l c v,_=>.l c v _ (.refl _)
 | .ag x,h=>by have:=YcB x h;exact .ag _ _ this.1 this.2
 | .tp x,h=>by have:=YcB x h;exact .tp _ _ this.1 this.2
 | .clo g x,h=>by have:=YcB x h;exact .clo g _ _ this.1 this.2
 | .e _,h| .u,h| .v _,h| .nl,h| .ref _,h| .pre _ _,h| .sub _ _ _,h| .ptr _ _ _,h| .np _,h| .pti _ _ _ _ _,h| .rp _,h| .lt _,h=>by cases h
theorem YcB: ∀l:List TV,YAc l=true->CT X pl l (avTs l)
 | [],_=>.nil
 |a::r,h=>by
  simp only[YAc,YE3]at h
  exact .cons (Yfp a h.1) (YcB r h.2)
end
def FnE.R(e:FnE)(args:List AV)(r:AV):Prop:=
 ∃x y vs v,e.F x=some y/\e.args.read vs []=some x/\YAc vs=true/\args=avTs vs/\YzY e.res (unp e.co y)=some (v,[])/\YAX v=true/\r=avT v
structure TOKP(T:Tabs)(C:Ctx):Prop where
 pf:C.pf=T.pf
 fn: ∀e∈T.fs,T.pf e.g=true-> ∀args r,e.R args r->C.C e.g args [] r []
def YCX:SV->Bool
 | .i _| .b| .s=>true
 |_=>false
theorem YDl{sv:SV}{l r:List Lf}{v:TV}(hs:YCX sv=true)(h:YzY sv l=some (v,r)): ∃x,avT v= .v x:=by
 cases sv with
 |i k=>
  cases l with
  |nil=>simp[YzY]at h
  |cons f fs=>
   obtain⟨t,z⟩:=f
   cases t with
   |i k'=>
    simp only[YzY]at h
    obtain⟨_,h3⟩:=Yab h
    injection h3 with h3;injection h3 with h3 _;subst h3;exact⟨_,rfl⟩
   |_=>simp[YzY]at h
 |b=>
  cases l with
  |nil=>simp[YzY]at h
  |cons f fs=>
   obtain⟨t,z⟩:=f
   cases t with
   |b=>
    have h3:some (TV.b z,fs)=some (v,r):=by simpa only[YzY]using h
    injection h3 with h3;injection h3 with h3 _;subst h3;exact⟨_,rfl⟩
   |_=>simp[YzY]at h
 |s=>
  cases l with
  |nil=>simp[YzY]at h
  |cons f fs=>
   obtain⟨t,z⟩:=f
   cases t with
   |s=>
    have h3:some (TV.s z,fs)=some (v,r):=by simpa only[YzY]using h
    injection h3 with h3;injection h3 with h3 _;subst h3;exact⟨_,rfl⟩
   |_=>simp[YzY]at h
 |_=>cases hs
theorem Yqz{sv:SV}{l r:List Lf}{v:TV}(hs:YDj sv=true)(h:YzY sv l=some (v,r)):Scal (avT v):=by
 have one:YCX sv=true->Scal (avT v):=fun h1=>by
  obtain⟨x,hx⟩:=YDl h1 h
  rw[hx];exact .v x
 cases sv with
 |i k=>exact one rfl
 |b=>exact one rfl
 |s=>exact one rfl
 |tp l'=>
  have key: ∀(ss:List SV) (l r:List Lf) (vs:List TV),(∀y∈ss,YCX y=true)->YAa ss l=some (vs,r)-> ∀a∈avTs vs,∃x,a= .v x:=by
   intro ss
   induction ss with
   |nil=>intro l r vs _ h;simp only[YAa]at h;injection h with h;injection h with h _;subst h;intro a ha;simp[avTs]at ha
   |cons y ss ih=>
    intro l r vs hs h
    simp only[YAa]at h
    split at h
    ·rename_i x r1 h1
     split at h
     ·rename_i xs r2 h2
      injection h with h;injection h with h _;subst h
      intro a ha
      simp only[avTs,YEd]at ha
      rcases ha with rfl|ha
      ·exact YDl (hs y (YEg ..)) h1
      ·exact ih r1 _ xs (fun y h=>hs y (YEn _ h)) h2 a ha
     ·cases h
    ·cases h
  simp only[YzY]at h
  split at h
  ·rename_i vs r1 h1
   injection h with h;injection h with h _;subst h
   exact .tup _ (key l' l r1 vs (fun y hs'=>YEo.1 (show l'.all _=true from hs) y hs') h1)
  ·cases h
 |_=>cases hs
theorem Yi2(hr:HRel Fr H0 X pl H){v w:TV}{a:AV}(h:ldT X v=some w)(ht:TR X pl v a): ∃b,Bor1 (hf H) a b/\TR X pl w b:=by
 cases v<;>try(cases h;done)
 case ref x=>
  simp only[ldT]at h
  split at h
  ·rename_i c l ho
   injection h with h;subst h
   obtain⟨y,n,rfl,hp,hn⟩:=Yam ho ht
   simp only[lenO]at hn;injection hn with hn;subst hn
   obtain⟨y',el,e1,e2,e3,e4⟩:=hr.obj x _ ho
   rw[hp]at e1;injection e1 with e1;subst e1
   refine⟨_,.inr ⟨y,0,l.length,⟨c.width,el⟩,rfl,e2,by simp[e4.1],rfl⟩,.l c l _ ?_⟩
   simp only[YEt,YaB e3]
   rw[<-e4.1,YEj];exact YdB e4
  ·rename_i s ho
   injection h with h;subst h
   obtain⟨y,n,rfl,hp,hn⟩:=Yam ho ht
   simp only[lenO]at hn;injection hn with hn;subst hn
   obtain⟨y',e1,e2⟩:=hr.obj x _ ho
   rw[hp]at e1;injection e1 with e1;subst e1
   refine⟨_,.inr ⟨y,0,s.size,⟨0,strA s⟩,rfl,e2,by simp[strA_len'],rfl⟩,.l U8 (strL s) _ ?_⟩
   simp only[YEt]
   rw[<-strA_len',YEj];exact rows_coe' (YaU s).rows
  ·cases h
 case pre x n=>
  simp only[ldT]at h
  split at h
  ·rename_i c l ho
   injection h with h;subst h
   obtain⟨y,k,rfl,hp,hn,h0,hm⟩:=YbM ho ht
   simp only[lenO]at hn;injection hn with hn;subst hn
   obtain⟨y',el,e1,e2,e3,e4⟩:=hr.obj x _ ho
   rw[hp]at e1;injection e1 with e1;subst e1
   refine⟨_,.inr ⟨y,0,n.toNat,⟨c.width,el⟩,rfl,e2,by rw[e4.1,YEM];exact hm,rfl⟩,.l c _ _ ?_⟩
   simp only[YEt,YaB e3]
   refine YdB ⟨by simp[e4.1],fun i e v h1 h2=> ?_⟩
   rw[YEh]at h1 h2
   split at h1
   ·rename_i hi;rw[if_pos hi]at h2;exact e4.2 i e v h1 h2
   ·cases h1
  ·cases h
theorem Yi3(hr:HRel Fr H0 X pl H): ∀{cs ds:List TV} {t:Bool} {as:List AV},ldC X cs=(ds,t)->CT X pl cs as-> ∃bs,All2 (Bor1 (hf H)) as bs/\CT X pl ds bs/\ (t=false->bs=as)
 | [],ds,t,as,h,hc=>by
   simp only[ldC]at h;injection h with h1 h2;subst h1;subst h2
   have:=hc.1
   cases as with
   |nil=>exact⟨[],trivial,.nil,fun _=>rfl⟩
   |cons _ _=>simp at this
 |a::r,ds,t,as,h,hc=>by
  obtain⟨b,bs,rfl,h1,h2⟩:=hc.inv
  cases hq:ldC X r with
  |mk xs t'=>
   obtain⟨cs',k1,k2,k3⟩:=Yi3 hr hq h2
   simp only[ldC,hq]at h
   split at h
   ·rename_i x hx
    injection h with e1 e2;subst e1;subst e2
    obtain⟨b',g1,g2⟩:=Yi2 hr hx h1
    exact⟨b'::cs',⟨g1,k1⟩,.cons g2 k2,fun h=>by cases h⟩
   ·split at h
    ·injection h with e1 e2;subst e1;subst e2
     cases h1
     exact⟨.emp::cs',⟨.inl rfl,k1⟩,.cons (.l _ _ _ (by simp only[YEa];exact .empRd _)) k2,fun h=>by rw[k3 h]⟩
    ·injection h with e1 e2;subst e1;subst e2
     exact⟨b::cs',⟨.inl rfl,k1⟩,.cons h1 k2,fun h=>by rw[k3 h]⟩
theorem Yfq(hr:HRel Fr H0 X pl H): ∀{cs ds:List TV} {t:Bool} {as:List AV},ldL X cs=(ds,t)->CT X pl cs as-> ∃bs,All2 (Bor (hf H)) as bs/\CT X pl ds bs/\ (t=false->bs=as)
 | [],ds,t,as,h,hc=>by
   simp only[ldL]at h;injection h with h1 h2;subst h1;subst h2
   have:=hc.1
   cases as with
   |nil=>exact⟨[],trivial,.nil,fun _=>rfl⟩
   |cons _ _=>simp at this
 |a::r,ds,t,as,h,hc=>by
  obtain⟨b,bs,rfl,h1,h2⟩:=hc.inv
  cases hq:ldL X r with
  |mk xs t'=>
   obtain⟨cs',k1,k2,k3⟩:=Yfq hr hq h2
   simp only[ldL,hq]at h
   split at h
   ·rename_i x hx
    injection h with e1 e2;subst e1;subst e2
    obtain⟨b',g1,g2⟩:=Yi2 hr hx h1
    exact⟨b'::cs',⟨.inl g1,k1⟩,.cons g2 k2,fun h=>by cases h⟩
   ·split at h
    ·rename_i ys hys
     injection h with e1 e2;subst e1;subst e2
     cases h1 with
     |ag _ zs hl hz=>
      cases hc2:ldC X ys with
      |mk ws t2=>
       obtain⟨us,g1,g2,g3⟩:=Yi3 hr hc2 ⟨hl,hz⟩
       refine⟨.agg us::cs',⟨.inr ⟨zs,us,rfl,rfl,g1⟩,k1⟩,.cons (.ag _ _ g2.1 g2.2) k2,fun h=> ?_⟩
       simp only[Bool.or_eq_false_iff]at h
       rw[k3 h.2,g3 h.1]
    ·injection h with e1 e2;subst e1;subst e2
     cases h1
     exact⟨.emp::cs',⟨.inl (.inl rfl),k1⟩,.cons (.l _ _ _ (by simp only[YEa];exact .empRd _)) k2,fun h=>by rw[k3 h]⟩
    ·injection h with e1 e2;subst e1;subst e2
     exact⟨b::cs',⟨.inl (.inl rfl),k1⟩,.cons h1 k2,fun h=>by rw[k3 h]⟩
theorem Yi4{vs:List TV}: ∀{as:List AV},CT X pl vs as->YAc vs=true->All2 Coe as (avTs vs):=by
 induction vs with
 |nil=>intro as h _;have:=h.1;cases as with
  |nil=>trivial
  |cons _ _=>simp at this
 |cons v vs ih=>
  intro as h hd
  obtain⟨a,r,rfl,h1,h2⟩:=h.inv
  simp only[YAc,YE3]at hd
  exact⟨Yi1 h1 hd.1,ih h2 hd.2⟩
theorem Yi5{g:Nat}{svs:List SV}: ∀{l:List FnE} {e:FnE},YCm g svs l=some e->e∈l/\e.g=g/\svs=e.args.vs
 | [],e,h=>by cases h
 |a::l,e,h=>by
  simp only[YCm]at h
  cases hc:(YEH a.g g&&SV.eqbs svs a.args.vs)with
  |true=>
   rw[hc,cond_true]at h;injection h with h;subst h
   simp only[YE3]at hc
   exact⟨YEg ..,YEJ hc.1,SV.eqs_of hc.2⟩
  |false=>
   rw[hc,cond_false]at h
   obtain⟨h1,h2⟩:=Yi5 h
   exact⟨YEn _ h1,h2⟩
variable{β:Type}{r:β}
theorem YqA{T:Tabs}{C:Ctx}(hT:TOKP T C){g:Nat}{args:List TV}{as:List AV}{K:TV->YzS->Option β}(hp:T.pf g=true)(h:YBY T g args X K=some r)(hc:CT X pl args as)(hr:HRel Fr H0 X pl H){KA:AV->Heap->Prop}
  (hk: ∀v va,K v X=some r->TR X pl v va->KA va H):YBx C g as H KA:=by
 unfold YBY at h
 cases hl:ldL X args with
 |mk ds lent=>
  rw[hl]at h
  simp only at h
  split at h
  ·rename_i svs hs
   split at h
   ·rename_i e hf
    obtain⟨e1,e2⟩:=Yab h
    simp only[YE3]at e1
    obtain⟨hm,hg,hsv⟩:=Yi5 hf
    split at e2
    ·rename_i x hx
     cases hy:e.F x with
     |none=>rw[hy]at e2;cases e2
     |some y=>
      rw[hy]at e2
      simp only[YEY]at e2
      split at e2
      ·rename_i v hv
       obtain⟨hd,e3⟩:=Yab e2
       obtain⟨bs,g1,g2,g3⟩:=Yfq hr hl hc
       refine .inl ⟨by rw[hT.pf];exact hp,bs,avTs ds,avT v,g1,?_,Yi4 g2 e1.1,?_,hk _ _ e3 (Yfp v hd)⟩
       ·cases lent with
        |false=>exact .inl (g3 rfl)
        |true=>exact .inr (Yqz (by simpa using e1.2) hv)
       ·rw[<-hg]
        exact hT.fn e hm (by rw[hg];exact hp) _ _ ⟨x,y,ds,v,hy,hx,e1.1,rfl,hv,hd,rfl⟩
      ·cases e2
    ·cases e2
   ·cases h
  ·cases h
end
end Go.Abs
namespace Go.Abs
open Go Go.RowKit
def seqN(X:YzS)(a:Nat):Nat:=match vget X a with|some o=>(lenO o).getD 0|none=>0
mutual
def encT(X:YzS)(pl:Pl):TV->AV
 | .i k n=>.v (.int k n)
 | .b x=>.v (.bool x)
 | .s x=>.v (.string x)
 | .l c v=>.rd c.width (v.map c.enc)
 | .ref a=>match pl (.m a)with|some x=>.ref x 0 (seqN X a)|none=>.u
 | .ptr a i j=>match pl (.m a)with|some x=>.ptr x i j|none=>.u
 | .np a=>match pl (.m a)with|some x=>.np x|none=>.u
 | .e _=>.emp
 | .nl=>.v (.pointer none)
 | .ag x=>.agg (YA7 X pl x)
 | .tp x=>.tup (YA7 X pl x)
 | .clo g x=>.clo g (YA7 X pl x)
 |_=>.u
def YA7(X:YzS)(pl:Pl):List TV->List AV
 | []=>[]
 |a::r=>encT X pl a::YA7 X pl r
end
theorem Yfr(X:YzS)(pl:Pl): ∀l:List TV,YA7 X pl l=l.map (encT X pl)
 | []=>rfl
 |a::r=>by simp[YA7,Yfr X pl r]
def encO(X:YzS)(pl:Pl)(a:Nat):AObj:=
 match vget X a with
 |some (.sq c l)=>⟨c.width,l.map c.enc⟩
 |some (.st cs)=>⟨cs.length,[YA7 X pl cs]⟩
 |some (.sb s)=>⟨0,strA s⟩
 |_=>⟨1,[]⟩
def plI(pls:Pl)(k n:Nat)(X:YzS):Pl
 | .m i=>match vget X i with
   |some _=>if i<k then pls (.m i)else some (n+(i-k))
   |none=>none
 | .n _ _=>none
open Classical in
noncomputable def YAo(Kp:Nat->Prop)(H:Heap)(k:Nat)(X:YzS)(pl:Pl):Heap:=
 (List.range (H.length+(X.length-k))).map fun x=>if Kp x then(H[x]?).join else if h: ∃i,pl (.m i)=some x then some (encO X pl (Classical.choose h))else none
def FnE.RI(e:FnE)(args:List AV)(H:Heap)(r:AV)(H':Heap):Prop:=
 ∃(x:e.args.c.den) (y:e.co.den) (vs:List TV) (Xs:YzS) (pls:Pl) (Kp:Nat->Prop) (v:TV) (l:List Lf) (X2:YzS),e.F x=some y/\e.args.read vs Xs=some x/\noFm Xs=true/\CT Xs pls vs args/\HRel Kp H Xs pls H/\FrOK Kp H/\
  (∀i o,vget Xs i=some o-> ∃z,pls (.m i)=some z)/\
  YzY e.res (unp e.co y)=some (v,l)/\Yz4 e.os l=some (X2,[])/\Xs.length<=X2.length/\wfT X2 v=true/\wfX X2 X2=true/\ (∀i,i<Xs.length-> ∀o,vget X2 i=some o-> ∃z,pls (.m i)=some z)/\
  r=encT X2 (plI pls Xs.length H.length X2) v/\H'=YAo Kp H Xs.length X2 (plI pls Xs.length H.length X2)
section
variable{Fr:Nat->Prop}{H0:Heap}
theorem Yfs{Xs:YzS}{pls:Pl}{H:Heap}{Kp:Nat->Prop}(hr:HRel Kp H Xs pls H){X2:YzS}{p q:Pos}{x:Nat}(hp:plI pls Xs.length H.length X2 p=some x)(hq:plI pls Xs.length H.length X2 q=some x):p=q:=by
 cases p with
 |n a i=>cases hp
 |m i=>cases q with
  |n a i=>cases hq
  |m j=>
   simp only[plI]at hp hq
   split at hp
   ·split at hq
    ·split at hp<;>split at hq
     ·exact hr.inj _ _ _ hp hq
     ·injection hq with hq;have:=hr.bd hp;omega
     ·injection hp with hp;have:=hr.bd hq;omega
     ·injection hp with hp;injection hq with hq;congr 1;omega
    ·cases hq
   ·cases hp
theorem Yi6{Xs:YzS}{pls:Pl}{H:Heap}{Kp:Nat->Prop}(hr:HRel Kp H Xs pls H){X2:YzS}(hlen:Xs.length<=X2.length){i x:Nat}(hp:plI pls Xs.length H.length X2 (.m i)=some x):
  (YAo Kp H Xs.length X2 (plI pls Xs.length H.length X2))[x]?=some (some (encO X2 (plI pls Xs.length H.length X2) i)):=by
 have hx:x<H.length+(X2.length-Xs.length)/\ ¬Kp x:=by
  have hp':=hp
  simp only[plI]at hp'
  split at hp'
  ·rename_i o ho
   have:=Yag ho
   split at hp'
   ·exact⟨by have:=hr.bd hp';omega,hr.nfr _ _ hp'⟩
   ·injection hp' with hp'
    exact⟨by omega,fun hk=>by have:=(hr.fr x hk).1;omega⟩
  ·cases hp'
 unfold YAo
 rw[YD6,YEu hx.1]
 simp only[YEX,if_neg hx.2]
 have hex: ∃i,plI pls Xs.length H.length X2 (.m i)=some x:=⟨i,hp⟩
 rw[dif_pos hex]
 have:=Yfs hr (Classical.choose_spec hex) hp
 injection this with this
 rw[this]
theorem Yft{Xs:YzS}{pls:Pl}{H:Heap}{Kp:Nat->Prop}(hr:HRel Kp H Xs pls H){X2:YzS}{x:Nat}(hk:Kp x):(YAo Kp H Xs.length X2 (plI pls Xs.length H.length X2))[x]?=H[x]?:=by
 have hx:=(hr.fr x hk).1
 unfold YAo
 rw[YD6,YEu (by omega)]
 simp only[YEX,if_pos hk]
 rw[YD7 hx];rfl
theorem YqB{Xs:YzS}{pls:Pl}{H:Heap}{Kp:Nat->Prop}{X2:YzS}{x:Nat}{o:AObj}(h:(YAo Kp H Xs.length X2 (plI pls Xs.length H.length X2))[x]?=some (some o)):
  (Kp x/\H[x]?=some (some o))\/(∃i,plI pls Xs.length H.length X2 (.m i)=some x/\o=encO X2 (plI pls Xs.length H.length X2) i):=by
 have hx:=(YD4.1 h).1
 unfold YAo at h hx
 simp only[YEk,List.length_range]at hx
 rw[YD6,YEu hx]at h
 simp only[YEX,Option.some.injEq]at h
 split at h
 ·rename_i hk
  refine .inl ⟨hk,?_⟩
  cases hH:H[x]? with
  |none=>rw[hH]at h;cases h
  |some q=>rw[hH]at h;simp only[Option.join_some]at h;rw[h]
 ·split at h
  ·rename_i hex
   injection h with h
   exact .inr ⟨_,Classical.choose_spec hex,h.symm⟩
  ·cases h
theorem YdK(Kp:Nat->Prop)(H:Heap)(k:Nat)(X:YzS)(pl:Pl):(YAo Kp H k X pl).length=H.length+(X.length-k):=by simp[YAo]
mutual
theorem Yi7{X:YzS}{pl:Pl}(hal: ∀i o,vget X i=some o-> ∃z,pl (.m i)=some z): ∀v:TV,wfT X v=true->TR X pl v (encT X pl v)
 | .i k n,_=>.i k n
 | .b x,_=>.b x
 | .s x,_=>.s x
 | .l c w,_=>.l c w _ (.refl _)
 | .u,_=>.u _
 | .nl,_=>.nl
 | .e c,_=>.e c
 | .ref a,h=>by
   simp only[wfT]at h
   split at h
   ·rename_i c l ho
    obtain⟨z,hz⟩:=hal a _ ho
    simp only[encT,hz,seqN,ho,lenO,YEZ]
    exact .ref a z _ l.length ho rfl hz
   ·rename_i s ho
    obtain⟨z,hz⟩:=hal a _ ho
    simp only[encT,hz,seqN,ho,lenO,YEZ]
    exact .ref a z _ s.size ho rfl hz
   ·cases h
 | .ptr a i j,h=>by
   simp only[wfT,YE3]at h
   have hi:=YEJ h.1;subst hi
   have h2:=h.2
   split at h2
   ·rename_i cs ho
    obtain⟨z,hz⟩:=hal a _ ho
    simp only[encT,hz]
    exact .ptr a 0 j z _ ho (by simp[elN]) hz
   ·cases h2
 | .np a,h=>by
   simp only[wfT]at h
   split at h
   ·rename_i cs ho
    obtain⟨z,hz⟩:=hal a _ ho
    simp only[encT,hz]
    exact .np a z _ ho hz
   ·cases h
 | .ag x,h=>by have:=YcC hal x h;exact .ag _ _ this.1 this.2
 | .tp x,h=>by have:=YcC hal x h;exact .tp _ _ this.1 this.2
 | .clo g x,h=>by have:=YcC hal x h;exact .clo g _ _ this.1 this.2
 | .v _,h| .pre _ _,h| .sub _ _ _,h| .pti _ _ _ _ _,h| .rp _,h| .lt _,h=>by cases h
theorem YcC{X:YzS}{pl:Pl}(hal: ∀i o,vget X i=some o-> ∃z,pl (.m i)=some z): ∀l:List TV,wfTs X l=true->CT X pl l (YA7 X pl l)
 | [],_=>.nil
 |a::r,h=>by
  simp only[wfTs,YE3]at h
  exact .cons (Yi7 hal a h.1) (YcC hal r h.2)
end
theorem YdL{X:YzS}: ∀{Y:YzS} {i:Nat} {o:VObj},wfX X Y=true->vget Y i=some o->(∃c l,o= .sq c l/\0<c.width)\/(∃cs,o= .st cs/\0<cs.length/\wfTs X cs=true)\/ ∃s,o= .sb s
 | [],i,o,_,h=>by cases h
 |p::r,i,o,hw,h=>by
  have hr:wfX X r=true:=by
   cases p with
   |none=>exact hw
   |some q=>cases q with
    |sq c l=>simp only[wfX,YE3]at hw;exact hw.2
    |st cs=>simp only[wfX,YE3]at hw;exact hw.2
    |sb s=>exact hw
    |fm _ _ _ _=>cases hw
  cases i with
  |succ i=>exact YdL hr h
  |zero=>
   simp only[vget]at h;subst h
   cases o with
   |sq c l=>simp only[wfX,YE3]at hw;exact .inl ⟨c,l,rfl,by simpa using hw.1⟩
   |st cs=>simp only[wfX,YE3]at hw;exact .inr (.inl ⟨cs,rfl,by simpa using hw.1.1,hw.1.2⟩)
   |sb s=>exact .inr (.inr ⟨s,rfl⟩)
   |fm _ _ _ _=>cases hw
end
end Go.Abs
namespace Go.Abs
open Go Go.RowKit
structure TOK(T:Tabs)(C:Ctx):Prop where
 p:TOKP T C
 fnI: ∀e∈T.fs,T.pf e.g=false-> ∀args H r H',e.RI args H r H'->C.C e.g args H r H'
section
variable{Fr:Nat->Prop}{H0:Heap}{X:YzS}{pl:Pl}{H:Heap}{m:List Nat}
theorem YbS(r:Nat->Option Nat): ∀(X:YzS) (m:List Nat) (Y:YzS),(YBt r X m Y).length=X.length
 |X,[],Y=>by cases Y<;>rfl
 |X,a::m,[]=>rfl
 |X,a::m,o::Y=>by simp only[YBt];rw[YbS r _ m Y,Yae]
theorem Yfu(r:Nat->Option Nat){b:Nat}: ∀{X:YzS} {m:List Nat} {Y:YzS},b∉m->vget (YBt r X m Y) b=vget X b
 |X,[],Y,_=>by cases Y<;>rfl
 |X,a::m,[],_=>rfl
 |X,a::m,o::Y,h=>by
  simp only[YEd,not_or]at h
  simp only[YBt];rw[Yfu r h.2,Yak _ (Ne.symm h.1)]
theorem Yi8(r:Nat->Option Nat){b:Nat}: ∀{X:YzS} {m:List Nat} {Y:YzS} {i:Nat},m.Nodup->m[i]?=some b->b<X.length->i<Y.length->vget (YBt r X m Y) b=(vget Y i).map (VObj.ren r)
 |X,[],Y,i,_,h,_,_=>by simp at h
 |X,a::m,[],i,_,_,_,h=>by simp at h
 |X,a::m,o::Y,i,hn,h,hb,hi=>by
  obtain⟨h1,h2⟩:=List.nodup_cons.1 hn
  simp only[YBt]
  cases i with
  |zero=>
   simp at h;subst h
   rw[Yfu r h1,Yap _ hb];rfl
  |succ i=>
   simp at h hi
   rw[Yi8 r h2 h (by rw[Yae];exact hb) hi];rfl
theorem Yi9: ∀(Y:YzS) (n i:Nat),vget (Y.drop n) i=vget Y (n+i)
 |Y,0,i=>by simp
 | [],n+1,i=>by simp[vget]
 |o::Y,n+1,i=>by rw[List.drop_succ_cons,Yi9 Y n i,show n+1+i=(n+i)+1 by omega];rfl
theorem YqC{A B:YzS}{b:Nat}(h:A.length<=b):vget (A++B) b=vget B (b-A.length):=by
 induction A generalizing b with
 |nil=>rfl
 |cons o A ih=>
  cases b with
  |zero=>simp at h
  |succ b=>simp only[YEx,vget];rw[ih (by simpa using h)];simp
theorem YqD(r:Nat->Option Nat){Y:YzS}{b i:Nat}(hn:m.Nodup)(h:m[i]?=some b)(hb:b<X.length)(hi:i<Y.length):vget (YAh m r X Y) b=(vget Y i).map (VObj.ren r):=by
 unfold YAh
 rw[Yaq (by rw[YbS];exact hb),Yi8 r hn h hb hi]
theorem Yja(r:Nat->Option Nat){Y:YzS}{b:Nat}(hm:b∉m)(hb:b<X.length):vget (YAh m r X Y) b=vget X b:=by
 unfold YAh
 rw[Yaq (by rw[YbS];exact hb),Yfu r hm]
theorem YqE(r:Nat->Option Nat){Y:YzS}{b:Nat}(hb:X.length<=b):vget (YAh m r X Y) b=(vget Y (m.length+(b-X.length))).map (VObj.ren r):=by
 unfold YAh
 rw[YqC (by rw[YbS];exact hb),YbS,YdG _ rfl,Yi9]
theorem YqF(r:Nat->Option Nat)(Y:YzS):(YAh m r X Y).length=X.length+(Y.length-m.length):=by
 unfold YAh;simp[YbS]
mutual
theorem YqG{A:Nat->Prop}(hA: ∀a x,(vget X a).isSome=true->a∉m->pl (.m a)=some x->A x): ∀(v:TV) {a:AV},clT X m v=true->TR X pl v a->RefIn A a
 | .i _ _,_,_,ht=>by cases ht;exact .v _
 | .b _,_,_,ht=>by cases ht;exact .v _
 | .s _,_,_,ht=>by cases ht;exact .v _
 | .l c w,_,_,ht=>by
   cases ht with
   |l _ _ _ hc=>exact YiU (Yde hc (Ycn (.l c) w))
 | .e _,_,_,ht=>by cases ht;exact .emp
 | .v _,_,_,ht=>by cases ht;exact .v _
 | .nl,_,_,ht=>by cases ht;exact .v _
 | .ref x,_,h,ht=>by
   simp only[clT,YE3,Bool.not_eq_true']at h
   obtain⟨o,ho⟩:=YE0.1 h.1
   obtain⟨y,n,rfl,hp,_⟩:=Yam ho ht
   exact .ref _ _ _ (hA x y h.1 (fun hm=>by rw[any_mem.2 hm]at h;cases h.2) hp)
 | .pre x n,_,h,ht=>by
   simp only[clT,YE3,Bool.not_eq_true']at h
   obtain⟨o,ho⟩:=YE0.1 h.1
   obtain⟨y,n,rfl,hp,_⟩:=YbM ho ht
   exact .ref _ _ _ (hA x y h.1 (fun hm=>by rw[any_mem.2 hm]at h;cases h.2) hp)
 | .ptr x i j,_,h,ht=>by
   simp only[clT,YE3,Bool.not_eq_true']at h
   obtain⟨o,ho⟩:=YE0.1 h.1
   obtain⟨y,rfl,hp,_⟩:=Ybe ho ht
   exact .ptr _ _ _ (hA x y h.1 (fun hm=>by rw[any_mem.2 hm]at h;cases h.2) hp)
 | .np x,_,h,ht=>by
   simp only[clT,YE3,Bool.not_eq_true']at h
   obtain⟨o,ho⟩:=YE0.1 h.1
   obtain⟨y,rfl,hp⟩:=YaO ho ht
   exact .np _ (hA x y h.1 (fun hm=>by rw[any_mem.2 hm]at h;cases h.2) hp)
 | .ag x,_,h,ht=>by
   cases ht with
   |ag _ as hl hc=>exact .agg _ (YcD hA x h ⟨hl,hc⟩)
 | .tp x,_,h,ht=>by
   cases ht with
   |tp _ as hl hc=>exact .tup _ (YcD hA x h ⟨hl,hc⟩)
 | .clo g x,_,h,ht=>by
   cases ht with
   |clo _ _ as hl hc=>exact .clo _ _ (YcD hA x h ⟨hl,hc⟩)
 | .u,_,h,_| .sub _ _ _,_,h,_| .pti _ _ _ _ _,_,h,_| .rp _,_,h,_| .lt _,_,h,_=>by cases h
theorem YcD{A:Nat->Prop}(hA: ∀a x,(vget X a).isSome=true->a∉m->pl (.m a)=some x->A x): ∀(l:List TV) {as:List AV},clTs X m l=true->CT X pl l as-> ∀a∈as,RefIn A a
 | [],as,_,hc=>by
   have:=hc.1
   cases as with
   |nil=>intro a h;cases h
   |cons _ _=>simp at this
 |v::l,as,h,hc=>by
  obtain⟨a,r,rfl,h1,h2⟩:=hc.inv
  simp only[clTs,YE3]at h
  intro b hb
  rcases YEd.1 hb with rfl|hb
  ·exact YqG hA v h.1 h1
  ·exact YcD hA l h.2 h2 b hb
end
theorem Yjb{Y:YzS}: ∀{Z:YzS} {i b:Nat} {o:VObj},clX Y m Z i=true->vget Z b=some o->i+b∉m->(∀cs,o= .st cs->clTs Y m cs=true)/\ ∀c v h l,o= .fm c v h l->h=none
 | [],i,b,o,_,h,_=>by cases h
 |p::Z,i,b,o,hc,hg,hm=>by
  simp only[clX,YE3]at hc
  cases b with
  |succ b=>exact Yjb hc.2 hg (by rw[show i+1+b=i+(b+1) by omega];exact hm)
  |zero=>
   simp only[vget]at hg;subst hg
   have h1:=hc.1
   rw[YE5]at h1
   have h2:=h1.resolve_left (fun h=>hm (any_mem.1 h))
   refine⟨fun cs e=>by subst e;exact h2,fun c v h l e=> ?_⟩
   subst e
   cases h with
   |none=>rfl
   |some _=>cases h2
theorem YcE{β:Type}{r:β}: ∀{Y Z:YzS} {x:Option β},YAr Y Z x=some r->x=some r/\ ∀i o,i<Y.length->vget Z i=some o->(∃c l c' l',o= .sq c l/\vget Y i=some (.sq c' l')/\l.length=l'.length)\/(∃cs cs',o= .st cs/\vget Y i=some (.st cs'))\/ ∃s s',o= .sb s/\vget Y i=some (.sb s')/\s.size=s'.size
 | [],Z,x,h=>by
   have h:x=some r:=by cases Z<;>simpa[YAr]using h
   exact⟨h,fun i o hi=>by simp at hi⟩
 |p::Y,[],x,h=>by cases p with
  |none=>simp[YAr]at h
  |some q=>cases q<;>simp[YAr]at h
 |p::Y,none::Z,x,h=>by
  have h:YAr Y Z x=some r:=by cases p with
   |none=>simpa[YAr]using h
   |some q=>cases q<;>simpa[YAr]using h
  obtain⟨h1,h2⟩:=YcE h
  refine⟨h1,fun i o hi hg=> ?_⟩
  cases i with
  |zero=>cases hg
  |succ i=>exact h2 i o (by simpa using hi) hg
 |p::Y,some o2::Z,x,h=>by
  cases p with
  |none=>simp[YAr]at h
  |some q=>
   cases q with
   |fm _ _ _ _=>cases o2<;>simp[YAr]at h
   |sq c l=>
    cases o2 with
    |sq c2 l2=>
     simp only[YAr]at h
     obtain⟨e1,e2⟩:=Yai h
     obtain⟨h1,h2⟩:=YcE e2
     refine⟨h1,fun i o hi hg=> ?_⟩
     cases i with
     |zero=>simp only[vget]at hg;injection hg with hg;subst hg;exact .inl ⟨_,_,_,_,rfl,rfl,e1⟩
     |succ i=>exact h2 i o (by simpa using hi) hg
    |_=>simp[YAr]at h
   |st cs=>
    cases o2 with
    |st cs2=>
     simp only[YAr]at h
     obtain⟨h1,h2⟩:=YcE h
     refine⟨h1,fun i o hi hg=> ?_⟩
     cases i with
     |zero=>simp only[vget]at hg;injection hg with hg;subst hg;exact .inr (.inl ⟨_,_,rfl,rfl⟩)
     |succ i=>exact h2 i o (by simpa using hi) hg
    |_=>simp[YAr]at h
   |sb s=>
    cases o2 with
    |sb s2=>
     simp only[YAr]at h
     obtain⟨e1,e2⟩:=Yai h
     obtain⟨h1,h2⟩:=YcE e2
     refine⟨h1,fun i o hi hg=> ?_⟩
     cases i with
     |zero=>simp only[vget]at hg;injection hg with hg;subst hg;exact .inr (.inr ⟨_,_,rfl,rfl,e1⟩)
     |succ i=>exact h2 i o (by simpa using hi) hg
    |_=>simp[YAr]at h
theorem Yjc{g:Nat}{svs:List SV}{sos:List SO}: ∀{l:List FnE} {e:FnE},YBI g svs sos l=some e->e∈l/\e.g=g
 | [],e,h=>by cases h
 |a::l,e,h=>by
  simp only[YBI]at h
  cases hc:(YEH a.g g&& (SV.eqbs svs a.args.vs&&SO.eqbs sos a.args.os))with
  |true=>
   rw[hc,cond_true]at h;injection h with h;subst h
   simp only[YE3]at hc
   exact⟨YEg ..,YEJ hc.1⟩
  |false=>
   rw[hc,cond_false]at h
   obtain⟨h1,h2⟩:=Yjc h
   exact⟨YEn _ h1,h2⟩
theorem Yfv{g:Nat}{svs:List SV}{sos:List SO}: ∀{l:List FnE} {e:FnE},e∈YA6 g svs sos l->e∈l/\e.g=g
 | [],e,h=>by cases h
 |a::l,e,h=>by
  simp only[YA6]at h
  cases hc:(YEH a.g g&& (SV.eqbs svs a.args.vs&&SO.eqbs sos a.args.os))with
  |true=>
   rw[hc,cond_true]at h
   simp only[YE3]at hc
   rcases YEd.1 h with rfl|h
   ·exact⟨YEg ..,YEJ hc.1⟩
   ·obtain⟨h1,h2⟩:=Yfv (YEB.1 h).1;exact⟨YEn _ h1,h2⟩
  |false=>
   rw[hc,cond_false]at h
   obtain⟨h1,h2⟩:=Yfv h
   exact⟨YEn _ h1,h2⟩
theorem Yjd{β:Type}{as:List TV}{Xs:YzS}{k:(e:FnE)->e.co.den->Option β}{r:β}: ∀{l:List FnE},tryF as Xs k l=some r-> ∃e∈l,∃x y,e.args.read as Xs=some x/\e.F x=some y/\k e y=some r
 | [],h=>by cases h
 | [e],h=>by
   simp only[tryF]at h
   split at h
   ·rename_i x hx
    cases hy:e.F x with
    |none=>rw[hy]at h;cases h
    |some y=>rw[hy]at h;exact⟨e,YEl.2 rfl,x,y,hx,hy,h⟩
   ·cases h
 |e::e2::l,h=>by
  have rest:tryF as Xs k (e2::l)=some r-> ∃e'∈e::e2::l,∃x y,e'.args.read as Xs=some x/\e'.F x=some y/\k e' y=some r:=fun h=>by
   obtain⟨e',h1,h2⟩:=Yjd h
   exact⟨e',YEn _ h1,h2⟩
  simp only[tryF]at h
  split at h
  ·rename_i x hx
   cases hy:e.F x with
   |none=>rw[hy]at h;exact rest h
   |some y=>rw[hy]at h;exact⟨e,YEg ..,x,y,hx,hy,h⟩
  ·exact rest h
theorem YCJ(hr:HRel Fr H0 X pl H){a:Nat}{o:VObj}(ho:vget X a=some o): ∃z,pl (.m a)=some z:=by
 have:=hr.obj a o ho
 cases o with
 |sq c l=>obtain⟨x,_,h,_⟩:=this;exact⟨x,h⟩
 |fm c v h l=>obtain⟨x,_,h,_⟩:=this;exact⟨x,h⟩
 |st cs=>obtain⟨x,_,h,_⟩:=this;exact⟨x,h⟩
 |sb s=>obtain⟨x,h,_⟩:=this;exact⟨x,h⟩
def plB(pl:Pl)(m:List Nat)(n:Nat)(q:Pl):Pl
 | .m b=>match idxV m b 0 with
   |some i=>q (.m i)
   |none=>if b<n then pl (.m b)else q (.m (m.length+(b-n)))
 | .n b i=>if b∈m\/n<=b then none else pl (.n b i)
theorem Yfw{i a:Nat}(hn:m.Nodup)(h:m[i]?=some a):idxV m a 0=some i:=by
 obtain⟨j,hj⟩:=YiM 0 (YD5 h)
 have hs:=(YbP hj).2
 simp only[Nat.sub_zero]at hs
 have g1:=YD4.1 h
 have g2:=YD4.1 hs
 have:=(List.getElem_inj (h₀:=g1.1) (h₁:=g2.1) hn).1 (by rw[g1.2,g2.2])
 rw[hj,this]
abbrev mapR(m:List Nat)(n:Nat):Nat->Option Nat:=fun a=>some (YAk m n a)
theorem back{Kp:Nat->Prop}{X2:YzS}{v:TV}(hr:HRel Fr H0 X pl H)(hrK:HRel Kp H (renX X m) (plR pl m) H)(hKf: ∀x,Fr x->Kp x)(hKp: ∀(p:Pos) x,p.of∉m->pl p=some x->Kp x)(hnd:m.Nodup)
  (hlv: ∀a∈m,∃o,vget X a=some o)
  (hkd: ∀i o,i< (renX X m).length->vget X2 i=some o->(∃c l c' l',o= .sq c l/\vget (renX X m) i=some (.sq c' l')/\l.length=l'.length)\/(∃cs cs',o= .st cs/\vget (renX X m) i=some (.st cs'))\/ ∃s s',o= .sb s/\vget (renX X m) i=some (.sb s')/\s.size=s'.size)
  (hal2: ∀i o,vget X2 i=some o-> ∃z,plI (plR pl m) (renX X m).length H.length X2 (.m i)=some z)
  (hlen:(renX X m).length<=X2.length) (hv:wfT X2 v=true) (hX:wfX X2 X2=true):
  TR (YAh m (mapR m X.length) X X2) (plB pl m X.length (plI (plR pl m) (renX X m).length H.length X2)) (v.ren (mapR m X.length)) (encT X2 (plI (plR pl m) (renX X m).length H.length X2) v)/\
  HRel Fr H0 (YAh m (mapR m X.length) X X2) (plB pl m X.length (plI (plR pl m) (renX X m).length H.length X2)) (YAo Kp H (renX X m).length X2 (plI (plR pl m) (renX X m).length H.length X2))/\
  Ext X pl (YAh m (mapR m X.length) X X2) (plB pl m X.length (plI (plR pl m) (renX X m).length H.length X2))/\
  (∀a x,X.length<=a->plB pl m X.length (plI (plR pl m) (renX X m).length H.length X2) (.m a)=some x->H.length<=x):=by
 have hXs:(renX X m).length=m.length:=by simp[renX]
 have hml:m.length<=X2.length:=by rw[<-hXs];exact hlen
 have hat:=fun{i x:Nat}=>Yi6 (Xs:=renX X m) hrK hlen (i:=i) (x:=x)
 have hkp:=fun{x:Nat}=>Yft (Xs:=renX X m) hrK (X2:=X2) (x:=x)
 have hqi:=fun{p q:Pos} {x:Nat}=>Yfs (Xs:=renX X m) hrK (X2:=X2) (p:=p) (q:=q) (x:=x)
 have hql: ∀{i x},plI (plR pl m) (renX X m).length H.length X2 (.m i)=some x-> ∃o,vget X2 i=some o:=by
  intro i x h
  simp only[plI]at h
  split at h
  ·exact⟨_,by assumption⟩
  ·cases h
 have hqs: ∀{i x},plI (plR pl m) (renX X m).length H.length X2 (.m i)=some x->(∃a,m[i]?=some a/\pl (.m a)=some x)\/(m.length<=i/\H.length<=x):=by
  intro i x h
  simp only[plI]at h
  split at h
  ·split at h
   ·simp only[plR]at h
    split at h
    ·exact .inl ⟨_,by assumption,h⟩
    ·cases h
   ·injection h with h;exact .inr ⟨by omega,by omega⟩
  ·cases h
 have hqk: ∀{i o},i<m.length->vget X2 i=some o->plI (plR pl m) (renX X m).length H.length X2 (.m i)=plR pl m (.m i):=by
  intro i o hi ho
  simp only[plI,ho,hXs,if_pos hi]
 have hHl:=YdK Kp H (renX X m).length X2 (plI (plR pl m) (renX X m).length H.length X2)
 generalize hH':YAo Kp H (renX X m).length X2 (plI (plR pl m) (renX X m).length H.length X2)=H' at hat hkp hHl⊢
 generalize hq:plI (plR pl m) (renX X m).length H.length X2=q at hat hqi hql hqs hqk hal2⊢
 have hbm: ∀b∈m,b<X.length:=fun b hb=>by obtain⟨o,ho⟩:=hlv b hb;exact Yag ho
 have hml':=YqF (X:=X) (m:=m) (mapR m X.length) X2
 have hf: ∀i,(∃a,m[i]?=some a/\YAk m X.length i=a)\/(m.length<=i/\YAk m X.length i=X.length+(i-m.length)):=by
  intro i
  unfold YAk
  by_cases hi:i<m.length
  ·exact .inl ⟨m[i],YD7 hi,by rw[show YEK i m.length=true by simpa[Nat.blt_eq]using hi,cond_true];simp[List.getD,hi]⟩
  ·exact .inr ⟨by omega,by rw[show YEK i m.length=false by(cases h:YEK i m.length with|true=>exact absurd (by simpa[Nat.blt_eq]using h) hi|false=>rfl),cond_false]⟩
 have P1: ∀i,plB pl m X.length q (.m (YAk m X.length i))=q (.m i):=by
  intro i
  rcases hf i with⟨a,h1,h2⟩| ⟨h1,h2⟩
  ·rw[h2];simp only[plB,Yfw hnd h1]
  ·rw[h2]
   have:X.length+(i-m.length)∉m:=fun h=>by have:=hbm _ h;omega
   simp only[plB,YdE this]
   rw[if_neg (by omega),show m.length+(X.length+(i-m.length)-X.length)=i by omega]
 have V1: ∀i,i<X2.length->vget (YAh m (mapR m X.length) X X2) (YAk m X.length i)=(vget X2 i).map (VObj.ren (mapR m X.length)):=by
  intro i hi
  rcases hf i with⟨a,h1,h2⟩| ⟨h1,h2⟩
  ·rw[h2];exact YqD _ hnd h1 (hbm a (YD5 h1)) hi
  ·rw[h2,YqE _ (by omega),show m.length+(X.length+(i-m.length)-X.length)=i by omega]
 have L1: ∀i,i<X2.length->YAk m X.length i< (YAh m (mapR m X.length) X X2).length:=by
  intro i hi
  rw[hml']
  rcases hf i with⟨a,h1,h2⟩| ⟨h1,h2⟩
  ·have:=hbm a (YD5 h1);omega
  ·omega
 have look: ∀{a b:Nat},a<X2.length->mapR m X.length a=some b->b< (YAh m (mapR m X.length) X X2).length/\vget (YAh m (mapR m X.length) X X2) b=(vget X2 a).map (VObj.ren (mapR m X.length))/\plB pl m X.length q (.m b)=q (.m a):=by
  intro a b ha hb
  injection hb with hb;subst hb
  exact⟨L1 a ha,V1 a ha,P1 a⟩
 have surj: ∀b,(b∈m\/X.length<=b)-> ∃i,YAk m X.length i=b/\ (b< (YAh m (mapR m X.length) X X2).length->i<X2.length):=by
  intro b hb
  by_cases hbm':b∈m
  ·obtain⟨i,hi⟩:=YEi.1 hbm'
   refine⟨i,?_,fun _=> ?_⟩
   ·rcases hf i with⟨a,h1,h2⟩| ⟨h1,h2⟩
    ·rw[hi]at h1;injection h1 with h1;rw[h2,h1]
    ·have:=(YD4.1 hi).1;omega
   ·have:=(YD4.1 hi).1;omega
  ·have hb:=hb.resolve_left hbm'
   refine⟨m.length+(b-X.length),?_,fun h=>by rw[hml']at h;omega⟩
   rcases hf (m.length+(b-X.length))with⟨a,h1,h2⟩| ⟨h1,h2⟩
   ·have:=(YD4.1 h1).1;omega
   ·omega
 have hx:Ext X pl (YAh m (mapR m X.length) X X2) (plB pl m X.length q):=by
  refine⟨by rw[hml'];omega,fun a ha=> ?_⟩
  by_cases hm:a∈m
  ·obtain⟨i,hi⟩:=YEi.1 hm
   have hil:=(YD4.1 hi).1
   have hb:YAk m X.length i=a:=by
    rcases hf i with⟨a',h1,h2⟩| ⟨h1,h2⟩
    ·rw[hi]at h1;injection h1 with h1;rw[h2,h1]
    ·omega
   have hv1:=V1 i (by omega)
   have hp1:=P1 i
   rw[hb]at hv1 hp1
   cases ho:vget X2 i with
   |none=>rw[ho]at hv1;exact .inl hv1
   |some o2=>
    rw[ho]at hv1
    obtain⟨o,hoa⟩:=hlv a hm
    have hre:=YbQ (X:=X) hi
    rw[hoa]at hre
    have hpl:plB pl m X.length q (.m a)=pl (.m a):=by
     rw[hp1,hqk hil ho];simp only[plR,hi]
    rcases hkd i o2 (by omega) ho with⟨c,l,c',l',e1,e2,e3⟩| ⟨cs,cs',e1,e2⟩| ⟨s,s',e1,e2,e3⟩
    ·subst e1
     rw[e2]at hre
     cases o with
     |sq c0 l0=>
      simp only[YEX,VObj.ren,Option.some.injEq]at hre
      injection hre with hre1 hre2
      subst hre1;have hre2:=eq_of_heq hre2;subst hre2
      refine .inr ⟨_,_,hoa,hv1,?_,?_,hpl,rfl,fun _ _ _ _ e=>by cases e⟩<;>simp[VObj.ren,elN,lenO,e3]
     |st cs=>simp[VObj.ren]at hre
     |sb _=>simp[VObj.ren]at hre
     |fm _ _ _ _=>simp[VObj.ren]at hre
    ·subst e1
     rw[e2]at hre
     cases o with
     |sq c0 l0=>simp[VObj.ren]at hre
     |st cs=>exact .inr ⟨_,_,hoa,hv1,rfl,rfl,hpl,rfl,fun _ _ _ _ e=>by cases e⟩
     |sb _=>simp[VObj.ren]at hre
     |fm _ _ _ _=>simp[VObj.ren]at hre
    ·subst e1
     rw[e2]at hre
     cases o with
     |sq c0 l0=>simp[VObj.ren]at hre
     |st cs=>simp[VObj.ren]at hre
     |sb s0=>
      simp only[YEX,VObj.ren,Option.some.injEq]at hre
      injection hre with hre1
      subst hre1
      refine .inr ⟨_,_,hoa,hv1,?_,?_,hpl,rfl,fun _ _ _ _ e=>by cases e⟩<;>simp[VObj.ren,elN,lenO,e3]
     |fm _ _ _ _=>simp[VObj.ren]at hre
  ·have hg:=Yja (X:=X) (mapR m X.length) (Y:=X2) hm ha
   cases ho:vget X a with
   |none=>exact .inl (hg.trans ho)
   |some o=>
    refine .inr ⟨o,o,rfl,hg.trans ho,rfl,rfl,?_,rfl,fun c ver hole l e=>⟨ver,hole,l,e,rfl,.inr ⟨rfl,fun h=>⟨h,fun i=>⟨rfl,?_⟩⟩⟩⟩⟩
    ·simp only[plB,YdE hm,if_pos ha]
    ·simp only[plB];rw[if_neg (by rintro(h|h);exact hm h;omega)]
 have hpm: ∀{p:Pos} {x},(p.of∈m\/X.length<=p.of)->plB pl m X.length q p=some x-> ∃i,p= .m (YAk m X.length i)/\q (.m i)=some x:=by
  intro p x hA hp
  cases p with
  |n b i=>
   simp only[plB]at hp
   split at hp
   ·cases hp
   ·rename_i h;exact absurd hA h
  |m b=>
   obtain⟨i,hi,_⟩:=surj b hA
   exact⟨i,by rw[hi],by rw[<-P1 i,hi];exact hp⟩
 refine⟨(Yi7 hal2 v hv).renG look,?_,hx,fun a x ha hp=> ?_⟩
 ·refine hr.build (fun b=>b∈m\/X.length<=b) hx (fun b hb=> ?_) (fun p hb=> ?_) (fun p x hb hp=> ?_) (fun b o hA ho=> ?_) (fun p x hA hp=> ?_) (fun p x hA hp=> ?_) (fun p q x hA hB hp hq=> ?_) (fun x hx=>hkp (hKf x hx)) (by omega)
  ·rw[not_or]at hb
   exact Yja _ hb.1 (by omega)
  ·rw[not_or]at hb
   cases p with
   |m b=>simp only[Pos.of]at hb;simp only[plB,YdE hb.1];rw[if_pos (by omega)]
   |n b i=>simp only[Pos.of]at hb;simp only[plB];rw[if_neg (by rintro(h|h);exact hb.1 h;exact hb.2 h)]
  ·rw[not_or]at hb
   exact hkp (hKp p x hb.1 hp)
  ·obtain⟨i,hi,hl⟩:=surj b hA
   have hil:=hl (Yag ho)
   rw[<-hi,V1 i hil,YEW]at ho
   obtain⟨o2,ho2,rfl⟩:=ho
   obtain⟨z,hz⟩:=hal2 i o2 ho2
   have hp:plB pl m X.length q (.m b)=some z:=by rw[<-hi,P1 i];exact hz
   have hH:=hat hz
   rcases YdL hX ho2 with⟨c,l,rfl,h0⟩| ⟨cs,rfl,h0,hw⟩| ⟨s,rfl⟩
   ·refine⟨z,l.map c.enc,hp,by rw[hH];simp only[encO,ho2],h0,by simp,fun j e v' h1 h2=> ?_⟩
    rw[YD6,h2,YEX]at h1;injection h1 with h1;subst h1
    exact⟨rfl,fun j x x' h1 h2=>by rw[h1]at h2;injection h2 with h2;subst h2;exact .refl _⟩
   ·have hw':=YcC hal2 cs hw
    refine⟨z,YA7 X2 q cs,hp,by rw[hH];simp only[encO,ho2,Yao,YEk],by simpa[Yao]using h0,?_⟩
    refine⟨by rw[Yao];simpa using hw'.1,fun j c a h1 h2=> ?_⟩
    rw[Yao,YD6,YEW]at h1
    obtain⟨y,h1,rfl⟩:=h1
    exact(hw'.2 j y a h1 h2).renG look
   ·exact⟨z,hp,by rw[hH];simp only[encO,ho2]⟩
  ·obtain⟨i,rfl,h2⟩:=hpm hA hp
   obtain⟨o,ho⟩:=hql h2
   exact⟨o.ren (mapR m X.length),by rw[V1 i (Yag ho),ho];rfl⟩
  ·obtain⟨i,rfl,h2⟩:=hpm hA hp
   rcases hqs h2 with⟨a,h3,h4⟩| ⟨_,h4⟩
   ·exact .inl ⟨.m a,h4,.inl (YD5 h3)⟩
   ·exact .inr h4
  ·obtain⟨i,rfl,h2⟩:=hpm hA hp
   obtain⟨j,rfl,h4⟩:=hpm hB hq
   have:=hqi h2 h4
   injection this with this;rw[this]
 ·have hna:a∉m:=fun h=>by have:=hbm a h;omega
  simp only[plB,YdE hna]at hp
  rw[if_neg (by omega)]at hp
  rcases hqs hp with⟨a',h3,h4⟩| ⟨_,h4⟩
  ·have:=(YD4.1 h3).1;omega
  ·exact h4
variable{β:Type}{r:β}
theorem Yje: ∀{d:Nat} {m:List Nat},m.Nodup->(YAs X d m).Nodup
 |0,m,h=>h
 |d+1,m,h=>by
  simp only[YAs]
  cases YEH (Yz1 X m (YBZ m X 0)).length m.length with
  |true=>exact h
  |false=>exact Yje (Ycw (YbB h))
theorem Yjf: ∀{d:Nat} {m:List Nat},(∀a∈m,∃o,vget X a=some o)-> ∀a∈YAs X d m,∃o,vget X a=some o
 |0,m,h=>h
 |d+1,m,h=>by
  simp only[YAs]
  cases YEH (Yz1 X m (YBZ m X 0)).length m.length with
  |true=>exact h
  |false=>exact Yjf (Yfh (Ycx h))
theorem YqH{T:Tabs}{C:Ctx}(hT:TOK T C){g:Nat}{args:List TV}{as:List AV}{K:TV->YzS->Option β}(hp:T.pf g=false)(h:YB0 T g args X K=some r)(hc:CT X pl args as)(hr:HRel Fr H0 X pl H)(hfr:FrOK Fr H0){KA:AV->Heap->Prop}
  (hk: ∀v X' va H' pl',K v X'=some r->TR X' pl' v va->HRel Fr H0 X' pl' H'->Ext X pl X' pl'->H.length<=H'.length->(∀a x,X.length<=a->pl' (.m a)=some x->H.length<=x)->
   (∀b x,b∉YAs X 4 (Yz8 X 5 (Yz1 X [] (TV.idss args)))->pl (.m b)=some x->hf H' x=hf H x)->KA va H'):YBx C g as H KA:=by
 unfold YB0 at h
 simp only at h
 have hnd:(YAs X 4 (Yz8 X 5 (Yz1 X [] (TV.idss args)))).Nodup:=Yje (Ycw (YbB List.nodup_nil))
 have hlv: ∀a∈YAs X 4 (Yz8 X 5 (Yz1 X [] (TV.idss args))),∃o,vget X a=some o:=Yjf (Yfh (Ycx (fun a h=>by cases h)))
 generalize YAs X 4 (Yz8 X 5 (Yz1 X [] (TV.idss args)))=m at h hnd hlv hk
 obtain⟨e1,h⟩:=Yab h
 simp only[YE3]at e1
 split at h
 ·rename_i svs sos hs1 hs2
  obtain⟨e,he,x,y,hx,hy,h⟩:=Yjd h
  split at h
  ·rename_i v l hv
   split at h
   ·rename_i X2 hX2
    obtain⟨e2,h⟩:=Yab h
    simp only[YE3]at e2
    obtain⟨hK,hkd⟩:=YcE h
    obtain⟨hmem,hg⟩:=Yfv he
    have hlen:(renX X m).length<=X2.length:=by simpa[renX]using e2.1
    have hml:m.length<=X2.length:=by simpa using e2.1
    have hXs:(renX X m).length=m.length:=by simp[renX]
    let Kp:Nat->Prop:=fun x=>Fr x\/ ∃p:Pos,p.of∉m/\pl p=some x
    have hrs:=Yfj hr hnd
    have hup: ∀{p:Pos} {x},plR pl m p=some x-> ∃q:Pos,q.of∈m/\pl q=some x:=by
     intro p x h
     cases p with
     |m b=>simp only[plR]at h;split at h
           ·rename_i a ha;exact⟨.m a,YD5 ha,h⟩
           ·cases h
     |n b i=>simp only[plR]at h;split at h
             ·rename_i a ha;exact⟨.n a i,YD5 ha,h⟩
             ·cases h
    have hrK:HRel Kp H (renX X m) (plR pl m) H:=by
     refine⟨hrs.obj,hrs.inj,hrs.own,fun x hx=>⟨?_,rfl⟩,fun p x hp hx=> ?_,YEI _⟩
     ·rcases hx with hx| ⟨p,_,hp⟩
      ·have:=(hr.fr x hx).1;have:=hr.le;omega
      ·exact hr.bd hp
     ·obtain⟨q,h1,h2⟩:=hup hp
      rcases hx with hx| ⟨p',h3,h4⟩
      ·exact hr.nfr _ _ h2 hx
      ·have:=hr.inj _ _ _ h2 h4;subst this;exact h3 h1
    have hA: ∀a x,(vget X a).isSome=true->a∉m->pl (.m a)=some x->Kp x:=fun a x _ h1 h2=>.inr ⟨.m a,h1,h2⟩
    have hfK:FrOK Kp H:=by
     intro x hx
     rcases hx with hx| ⟨p,hpm,hp⟩
     ·obtain⟨⟨o,ho⟩,h2⟩:=hfr x hx
      have h3:=(hr.fr x hx).2
      exact⟨⟨o,h3.trans ho⟩,fun o' ho' e' he' c hc'=>Yqu (fun z hz=>.inl hz) (h2 o' (h3.symm.trans ho') e' he' c hc')⟩
     ·refine⟨hr.lt hp,fun ob hob e' he' c hc'=> ?_⟩
      have hlive:=hr.own p x hp
      have hrow: ∀{el:List (List AV)} {cc:Cs} {l:List cc.den},Rows el cc l->e'∈el->RefIn Kp c:=by
       intro el cc l hrw h1
       obtain⟨i,hi⟩:=YEi.1 h1
       have hil:i<l.length:=by rw[<-hrw.1];exact(YD4.1 hi).1
       have hcc:=hrw.2 i e' l[i] hi (YD7 hil)
       obtain⟨j,hj⟩:=YEi.1 hc'
       obtain⟨z',hz'⟩:=Yac hcc.1.symm hj
       exact YiU (Yde (hcc.2 j c z' hj hz') (Ybv cc _ z' (YD5 hz')))
      have ob0: ∃o,vget X p.of=some o:=by
       cases p with
       |m a=>exact hlive
       |n a i=>obtain⟨c,v,h,l,ho,_⟩:=hlive;exact⟨_,ho⟩
      obtain⟨o,ho⟩:=ob0
      have hcl:=Yjb e1.1 ho (by rw[YEM];exact hpm)
      cases o with
      |sq c0 l0=>
       have hpe:p= .m p.of:=by
        cases p with
        |m a=>rfl
        |n a i=>obtain⟨c,v,h,l,ho',_⟩:=hlive;simp only[Pos.of]at ho;rw[ho']at ho;cases ho
       obtain⟨x',el,q1,q2,q3,q4⟩:=hr.obj _ _ ho
       rw[hpe]at hp;rw[hp]at q1;injection q1 with q1;subst q1
       rw[hob]at q2;injection q2 with q2;injection q2 with q2;subst q2
       exact hrow q4 he'
      |sb s0=>
       have hpe:p= .m p.of:=by
        cases p with
        |m a=>rfl
        |n a i=>obtain⟨c,v,h,l,ho',_⟩:=hlive;simp only[Pos.of]at ho;rw[ho']at ho;cases ho
       obtain⟨x',q1,q2⟩:=hr.obj _ _ ho
       rw[hpe]at hp;rw[hp]at q1;injection q1 with q1;subst q1
       rw[hob]at q2;injection q2 with q2;injection q2 with q2;subst q2
       exact hrow (YaU s0).rows he'
      |st cs=>
       have hpe:p= .m p.of:=by
        cases p with
        |m a=>rfl
        |n a i=>obtain⟨c,v,h,l,ho',_⟩:=hlive;simp only[Pos.of]at ho;rw[ho']at ho;cases ho
       obtain⟨x',f,q1,q2,q3,q4⟩:=hr.obj _ _ ho
       rw[hpe]at hp;rw[hp]at q1;injection q1 with q1;subst q1
       rw[hob]at q2;injection q2 with q2;injection q2 with q2;subst q2
       simp only[YEl]at he';subst he'
       exact YcD hA cs (hcl.1 cs rfl) q4 c hc'
      |fm c0 v0 h0 l0=>
       have hn0:=hcl.2 _ _ _ _ rfl
       obtain⟨x',el,q1,q2,q3,q4,q5,q6⟩:=hr.obj _ _ ho
       rcases Ycr hr ho hp rfl with hpe| ⟨i,hpe,hi,_⟩
       ·rw[hpe]at hp;rw[hp]at q1;injection q1 with q1;subst q1
        rw[hob]at q2;injection q2 with q2;injection q2 with q2;subst q2
        obtain⟨i,hi⟩:=YEi.1 he'
        have hil:i<l0.length:=by rw[<-q4];exact(YD4.1 hi).1
        rcases q6 i e' l0[i] hi (YD7 hil) (by rw[hn0];simp)with⟨y',el',g1,g2,g3,g4⟩| ⟨g1,g2,g3⟩
        ·subst g2;simp only[YEl]at hc';subst hc'
         exact .ref _ _ _ (.inr ⟨.n p.of i,hpm,g1⟩)
        ·subst g3;simp only[YEl]at hc';subst hc';exact .emp
       ·have hil:i<el.length:=by omega
        rcases q6 i _ l0[i] (YD7 hil) (YD7 hi) (by rw[hn0];simp)with⟨y',el',g1,g2,g3,g4⟩| ⟨g1,_⟩
        ·rw[hpe]at hp;rw[hp]at g1;injection g1 with g1;subst g1
         rw[hob]at g3;injection g3 with g3;injection g3 with g3;subst g3
         exact hrow g4 he'
        ·rw[hpe]at hp;rw[hp]at g1;cases g1
    have hcs:CT (renX X m) (plR pl m) (TV.rens (fun a=>idxV m a 0) args) as:=by
     refine⟨by rw[Yao];simpa using hc.1,fun j c a h1 h2=> ?_⟩
     rw[Yao,YD6,YEW]at h1
     obtain⟨z,h1,rfl⟩:=h1
     exact(hc.2 j z a h1 h2).ren
    have hpl0: ∀i o,vget (renX X m) i=some o-> ∃z,plR pl m (.m i)=some z:=fun i o ho=>YCJ hrs ho
    have hpl1: ∀i,i< (renX X m).length-> ∀o,vget X2 i=some o-> ∃z,plR pl m (.m i)=some z:=by
     intro i hi o ho
     rcases hkd i o hi ho with⟨c,l,c',l',_,h2,_⟩| ⟨cs,cs',_,h2⟩| ⟨s,s',_,h2,_⟩
     ·exact hpl0 i _ h2
     ·exact hpl0 i _ h2
     ·exact hpl0 i _ h2
    have hRI:e.RI as H (encT X2 (plI (plR pl m) (renX X m).length H.length X2) v) (YAo Kp H (renX X m).length X2 (plI (plR pl m) (renX X m).length H.length X2)):=
     ⟨x,y,_,renX X m,plR pl m,Kp,v,l,X2,hy,hx,e1.2,hcs,hrK,hfK,hpl0,hv,hX2,hlen,e2.2.1,e2.2.2,hpl1,rfl,rfl⟩
    refine .inr ⟨by rw[hT.p.pf];exact hp,as,_,_,Yij as,by rw[<-hg];exact hT.fnI e hmem (by rw[hg];exact hp) _ _ _ _ hRI,by rw[YdK];omega,?_⟩
    have hal2: ∀i o,vget X2 i=some o-> ∃z,plI (plR pl m) (renX X m).length H.length X2 (.m i)=some z:=by
     intro i o ho
     simp only[plI,ho]
     split
     ·rename_i hi;exact hpl1 i hi o ho
     ·exact⟨_,rfl⟩
    have hme:(renX X m).length<=X2.length:=hlen
    obtain⟨b1,b2,b3,b4⟩:=back hr hrK (fun x h=>.inl h) (fun p x h1 h2=>.inr ⟨p,h1,h2⟩) hnd hlv hkd hal2 hme e2.2.1 e2.2.2
    exact hk _ _ _ _ _ hK b1 b2 b3 (by rw[YdK];omega) b4 (fun b x hb hp=>Yft (Xs:=renX X m) hrK (X2:=X2) (.inr ⟨.m b,hb,hp⟩))
   ·cases h
  ·cases h
 ·cases h
end
end Go.Abs
