/- Calls that use up what they are given: elements are taken out, what else names them is forgotten. No condition. -/
import Derived.Test.YtppagmmeofoekaaDoorA2
import Derived.Test.YtppagmmeofoekaaDoorA1
import Derived.KernelRfl
set_option linter.unusedVariables false
set_option linter.unusedSimpArgs false
set_option linter.unusedSectionVars false
open List renaming getElem?_eq_getElem → YwO, getElem?_eq_some_iff → YwP, mem_of_getElem? → YwQ, getElem?_map → YwR, map_cons → YwS, getElem?_append_left → YwU, mem_iff_getElem? → YwW, length_map → YwY, getElem?_append_right → Yw0, all_eq_true → Yw1, mem_cons → Yw2, mem_map → Yw3, getElem?_eq_none → Yw7, getElem?_range → Yxb, ext_getElem? → Yxc, length_cons → Yxe, mem_singleton → Yxf, length_append → Yxl, length_singleton → Yxn, take_length → Yxo, getElem?_replicate → Yxp
open Nat renaming beq → Yxr, le_refl → Yxs, eq_of_beq_eq_true → Yxt, blt → Yxu, ble → Yxv, lt_of_lt_of_le → Yxw, zero_add → Yxx, le_trans → Yxy, zero_le → Yxz, le_of_ble_eq_true → YxC
open Option renaming map_eq_some_iff → YxE, map_some → YxF, isSome_iff_exists → YxH, getD_some → YxI, bind_eq_some_iff → YxJ
open Bool renaming and_eq_true → YxL, not_true → YxM, eq_iff_iff → YxN, or_eq_true → YxP
namespace Go.Abs
open Go Go.RowKit
section
variable{Fr:Nat->Prop}{H0:Heap}{X:YtI}{pl:Pl}{H:Heap}{β:Type}{r:β}
theorem YoW(hr:HRel Fr H0 X pl H){a i y:Nat}{hd:Hd}{c:Cs}{ver:Nat}{l:List (sn c hd.A).den}(ha:vget X a=some (.fm hd c ver none l))(hp:pl (.n a i)=some y):
  ∃pl',HRel Fr H0 (vset X a (some (.fm hd c ver (some i) l))++[some (.sq c (owI hd c l i))]) pl' H/\Ext X pl (vset X a (some (.fm hd c ver (some i) l))++[some (.sq c (owI hd c l i))]) pl'/\pl' (.m X.length)=some y/\ ∀b,b<X.length->pl' (.m b)=pl (.m b):=by
 have hal:=Yab ha
 obtain⟨x0,el0,h1,h2,h3,h4,h6⟩:=hr.obj a _ ha
 obtain⟨hi,_,el,g3,g4⟩:=YiV hr ha hp
 have hXl:(vset X a (some (.fm hd c ver (some i) l))).length=X.length:=Yac _ _ _
 have hga:vget (vset X a (some (.fm hd c ver (some i) l))++[some (.sq c (owI hd c l i))]) a=some (.fm hd c ver (some i) l):=by
  rw[Yap (by omega)];exact Yam _ hal
 have hgn:vget (vset X a (some (.fm hd c ver (some i) l))++[some (.sq c (owI hd c l i))]) X.length=some (.sq c (owI hd c l i)):=by
  have:=Yal (vset X a (some (.fm hd c ver (some i) l))) (some (.sq c (owI hd c l i)));rw[hXl]at this;exact this
 have hgb: ∀b,b≠a->b≠X.length->vget (vset X a (some (.fm hd c ver (some i) l))++[some (.sq c (owI hd c l i))]) b=vget X b:=fun b h1 h2=>by
  by_cases hb:b<X.length
  ·rw[Yap (by omega),Yak _ (Ne.symm h1)]
  ·rw[Yar (by rw[Yxl,hXl];simp;omega),Yar (by omega)]
 let pl':Pl:=fun q=>if q= .n a i then none else if q= .m X.length then some y else pl q
 have p1:pl' (.n a i)=none:=if_pos rfl
 have p2:pl' (.m X.length)=some y:=by simp[pl']
 have p3: ∀q:Pos,q≠ .n a i->q≠ .m X.length->pl' q=pl q:=fun q h1 h2=>by simp only[pl',if_neg h1,if_neg h2]
 have p4: ∀q:Pos,q.of≠a->q.of≠X.length->pl' q=pl q:=fun q h1 h2=>p3 q (fun e=>h1 (by subst e;rfl)) (fun e=>h2 (by subst e;rfl))
 have p5: ∀j,j≠i->pl' (.n a j)=pl (.n a j):=fun j h=>p3 _ (fun e=>h (by injection e)) (fun e=>by cases e)
 have p6:pl' (.m a)=pl (.m a):=p3 _ (fun e=>by cases e) (fun e=>by injection e with e;omega)
 have hxt:Ext X pl (vset X a (some (.fm hd c ver (some i) l))++[some (.sq c (owI hd c l i))]) pl':=by
  refine⟨by rw[Yxl,hXl];omega,fun b hb=> ?_⟩
  by_cases e1:b=a
  ·subst e1
   refine .inr ⟨_,_,ha,hga,?_,?_,p6,rfl,fun hd1 c1 v1 h1 l1 e=> ?_⟩
   ·cases hd<;>rfl
   ·cases hd<;>rfl
   ·injection e with e0 e1 e2 e3 e4
    subst e0;subst e1;subst e2;subst e3
    exact⟨_,_,_,_,rfl,.inr ⟨rfl,fun h=>by cases h⟩⟩
  ·rw[hgb b e1 (by omega)]
   cases h:vget X b with
   |none=>simp
   |some o=>exact .inr ⟨o,o,rfl,rfl,rfl,rfl,p4 (.m b) e1 (by simp only[Pos.of];omega),rfl,fun hd' c' v' h' l' e=>⟨hd',v',h',l',e,.inr ⟨rfl,fun h=>⟨h,rfl,fun j=>⟨rfl,p4 (.n b j) e1 (by simp only[Pos.of];omega)⟩⟩⟩⟩⟩
 have key: ∀{p:Pos} {z},(p.of=a\/p.of=X.length)->pl' p=some z->(p= .m X.length/\z=y)\/(p≠ .n a i/\p.of=a/\pl p=some z):=by
  intro p z hb hz
  by_cases e1:p= .n a i
  ·subst e1;rw[p1]at hz;cases hz
  ·by_cases e2:p= .m X.length
   ·subst e2;rw[p2]at hz;injection hz with hz;exact .inl ⟨rfl,hz.symm⟩
   ·rw[p3 p e1 e2]at hz
    refine .inr ⟨e1,hb.resolve_right (fun e=> ?_),hz⟩
    have:=hr.dead (p:=p) (by rw[e];exact Yar (Yxs _))
    rw[this]at hz;cases hz
 refine⟨pl',hr.build (fun b=>b=a\/b=X.length) hxt (fun b hb=>hgb b (fun e=>hb (.inl e)) (fun e=>hb (.inr e))) (fun p hb=>p4 p (fun e=>hb (.inl e)) (fun e=>hb (.inr e))) (fun _ _ _ _=>rfl) (fun b o hb ho=> ?_) (fun p z hb hz=> ?_) (fun p z hb hz=> ?_) (fun p q z hb hb' hz hz'=> ?_) (fun _ _=>rfl) (Yxs _),hxt,p2,fun b hb=>p3 _ (fun e=>by cases e) (fun e=>by injection e with e;omega)⟩
 ·rcases hb with rfl|rfl
  ·rw[hga]at ho;injection ho with ho;subst ho
   refine⟨x0,el0,p6.trans h1,h2,h3,h4,fun j e v k1 k2=> ?_⟩
   obtain⟨d,r,q1,q2,q3⟩:=h6 j e v k1 k2
   refine⟨d,r,q1,q2,fun hj=> ?_⟩
   have hji:j≠i:=fun e=>hj (by rw[e])
   rcases q3 (by simp)with⟨y',el',f1,f2,f3,f4⟩| ⟨f0,f1,f2,f3⟩
   ·exact .inl ⟨y',el',(p5 j hji).trans f1,f2,f3,f4⟩
   ·exact .inr ⟨f0,(p5 j hji).trans f1,f2,f3⟩
  ·rw[hgn]at ho;injection ho with ho;subst ho
   exact⟨y,el,p2,g3,h3,g4⟩
 ·rcases key hb hz with⟨rfl,rfl⟩| ⟨k1,k2,k3⟩
  ·exact⟨_,hgn⟩
  ·rcases Ybd hr ha k3 k2 with rfl| ⟨j,rfl,k4,_⟩
   ·exact⟨_,hga⟩
   ·exact⟨_,_,_,_,_,hga,k4,fun e=>k1 (by injection e with e;rw[e])⟩
 ·rcases key hb hz with⟨rfl,rfl⟩| ⟨k1,k2,k3⟩
  ·exact .inl ⟨_,hp,.inl rfl⟩
  ·exact .inl ⟨p,k3,.inl k2⟩
 ·rcases key hb hz with⟨rfl,rfl⟩| ⟨k1,k2,k3⟩<;>rcases key hb' hz' with⟨rfl,k4⟩| ⟨k4,k5,k6⟩
  ·rfl
  ·exact absurd (hr.inj _ _ _ k6 hp) k4
  ·subst k4;exact absurd (hr.inj _ _ _ k3 hp) k1
  ·exact hr.inj _ _ _ k3 k6
theorem Yd8{Q:Prop}: ∀{args:List TV} {X:YtI} {pl:Pl} {as:List AV} {K:List TV->YtI->Option β},detV args X K=some r->CT X pl args as->HRel Fr H0 X pl H->
  (∀as' X' pl',K as' X'=some r->CT X' pl' as' as->HRel Fr H0 X' pl' H->Ext X pl X' pl'->(∀b,b<X.length->pl' (.m b)=pl (.m b))->Q)->Q
 | [],X,pl,as,K,h,hc,hr,hk=>hk _ _ pl h hc hr (Ext.refl _ _) (fun _ _=>rfl)
 |v::args,X,pl,as,K,h,hc,hr,hk=>by
  obtain⟨a,r',rfl,h1,h2⟩:=hc.inv
  have plain:detV args X (fun as X'=>K (v::as) X')=some r->Q:=fun h=>
   Yd8 h h2 hr (fun as' X' pl' k1 k2 k3 k4 k5=>hk _ X' pl' k1 (.cons (h1.ext k4) k2) k3 k4 k5)
  cases v with
  |sub x ver i=>
   simp only[detV]at h
   split at h
   ·rename_i hd c ver' l ho
    have e1:=(Yaa h).1
    replace h:=(Yaa h).2
    simp only[YxL]at e1
    have:=Yxt e1.1;subst this
    cases hb:Yxu i l.length with
    |true=>
     rw[hb,cond_true]at h
     have hi:i<l.length:=by simpa[Nat.blt_eq]using hb
     rcases YbG ho h1 with⟨y,rfl,_,hp⟩| ⟨rfl,hp,h0⟩
     ·obtain⟨pl1,k1,k2,k3,k4⟩:=YoW hr ho hp
      refine Yd8 h (h2.ext k2) k1 (fun as' X' pl' g1 g2 g3 g4 g5=>hk _ X' pl' g1 (.cons (TR.ext g4 ?_) g2) g3 (k2.trans g4) (fun b hb=>(g5 b (by rw[Yxl,Yac];omega)).trans (k4 b hb)))
      have hXl:(vset X x (some (.fm hd c ver (some i) l))).length=X.length:=Yac _ _ _
      have hgn:=Yal (vset X x (some (.fm hd c ver (some i) l))) (some (.sq c (owI hd c l i)))
      rw[hXl]at hgn
      exact .ref X.length y _ _ hgn rfl k3
     ·exfalso
      obtain⟨x0,el0,_,_,_,h4,h6⟩:=hr.obj x _ ho
      obtain⟨d,r0,_,_,q⟩:=YaT (h6 i _ _ (YwO (by omega:i<el0.length)) (YaA hi)) (by simp)
      rcases q with⟨y,el',g1,_⟩| ⟨g0,_⟩
      ·rw[hp]at g1;cases g1
      ·rw[e1.2]at g0;cases g0
    |false=>
     rw[hb,cond_false]at h
     have hge:l.length<=i:=by
      apply Classical.byContradiction;intro hc
      rw[show Yxu i l.length=true from by simp[Nat.blt_eq];omega]at hb;cases hb
     rcases YbG ho h1 with⟨y,rfl,hi,hp⟩| ⟨rfl,hp,h0⟩
     ·omega
     ·exact Yd8 h h2 hr (fun as' X' pl' g1 g2 g3 g4 g5=>hk _ X' pl' g1 (.cons (.e c) g2) g3 g4 g5)
   ·cases h
  |_=>exact plain h
def fgV(m:List Nat):VObj->VObj
 | .st cs=>.st (TV.rens (fun a=>bif m.any (Yxr a)then none else some a) cs)
 |o=>o
theorem YoX(m:List Nat)(o:Option VObj):fgO m o=o.map (fgV m):=by
 cases o with
 |none=>rfl
 |some o=>cases o<;>rfl
theorem Yjf(m:List Nat): ∀(X:YtI) (i b:Nat),vget (fgX m X i) b=if i+b∈m then vget X b else fgO m (vget X b)
 | [],i,b=>by simp[fgX,vget,fgO]
 |o::r,i,0=>by
  simp only[fgX,vget,Nat.add_zero]
  by_cases h:i∈m
  ·rw[any_mem.2 h,cond_true,if_pos h]
  ·rw[show m.any (Yxr i)=false by cases hq:m.any (Yxr i)with|false=>rfl|true=>exact absurd (any_mem.1 hq) h,cond_false,if_neg h]
 |o::r,i,b+1=>by
  simp only[fgX,vget]
  rw[Yjf m r (i+1) b,show i+1+b=i+(b+1) by omega]
theorem Yd9(m:List Nat): ∀(X:YtI) (i:Nat),(fgX m X i).length=X.length
 | [],_=>rfl
 |_::r,i=>by simp[fgX,Yd9 m r]
theorem YfJ(m:List Nat)(o:VObj):lenO (fgV m o)=lenO o/\elN (fgV m o)=elN o/\isFm (fgV m o)=isFm o:=by cases o<;>exact⟨rfl,rfl,rfl⟩
theorem YoY(hr:HRel Fr H0 X pl H)(m:List Nat):HRel Fr H0 (fgX m X 0) pl H/\Ext X pl (fgX m X 0) pl:=by
 have hg: ∀b,vget (fgX m X 0) b=(vget X b).map fun o=>if b∈m then o else fgV m o:=fun b=>by
  rw[Yjf,Yxx,YoX]
  split
  ·rename_i h;cases vget X b<;>simp[h]
  ·rename_i h;cases vget X b<;>simp[h]
 have hgl: ∀(b:Nat) (o:VObj),lenO (if b∈m then o else fgV m o)=lenO o/\elN (if b∈m then o else fgV m o)=elN o:=fun b o=>by
  split
  ·exact⟨rfl,rfl⟩
  ·exact⟨(YfJ m o).1,(YfJ m o).2.1⟩
 have hxt:Ext X pl (fgX m X 0) pl:=by
  refine⟨by rw[Yd9];omega,fun b hb=> ?_⟩
  rw[hg]
  cases h:vget X b with
  |none=>simp
  |some o=>
   refine .inr ⟨o,_,rfl,rfl,(hgl b o).2,(hgl b o).1,rfl,?_,fun hd c v h l e=> ?_⟩
   ·split
    ·rfl
    ·exact(YfJ m o).2.2
   ·have e':o= .fm hd c v h l:=by
     split at e
     ·exact e
     ·cases o with
      |fm _ _ _ _ _=>exact e
      |_=>cases e
    exact⟨hd,v,h,l,e',.inr ⟨rfl,fun h=>⟨h,rfl,fun j=>⟨rfl,rfl⟩⟩⟩⟩
 refine⟨⟨fun a o ho=> ?_,hr.inj,fun p x hp=> ?_,hr.fr,hr.nfr,hr.le⟩,hxt⟩
 ·rw[hg,YxE]at ho
  obtain⟨o0,ho0,rfl⟩:=ho
  have hob:=hr.obj a o0 ho0
  split
  ·cases o0 with
   |st cs=>obtain⟨x,e,e1,e2,e3,e4⟩:=hob;exact⟨x,e,e1,e2,e3,e4.ext hxt⟩
   |_=>exact hob
  ·cases o0 with
   |st cs=>
    obtain⟨x,e,e1,e2,e3,e4⟩:=hob
    refine⟨x,e,e1,by rw[Yao,YwY];exact e2,by rw[Yao,YwY];exact e3,by rw[Yao,YwY];exact e4.1,fun j c a h1 h2=> ?_⟩
    rw[Yao,YwR,YxE]at h1
    obtain⟨y,h1,rfl⟩:=h1
    refine(e4.2 j y a h1 h2).renG (g:=fun b o=>if b∈m then o else fgV m o) hgl (fun{a b} ha hb=> ?_)
    have hab:a=b:=by
     cases hq:m.any (Yxr a)with
     |true=>rw[hq]at hb;cases hb
     |false=>rw[hq]at hb;injection hb
    subst hab
    exact⟨by rw[Yd9];exact ha,hg a,rfl⟩
   |_=>exact hob
 ·have:=hr.own p x hp
  cases p with
  |m a=>obtain⟨o,ho⟩:=this;exact⟨_,by rw[hg,ho];rfl⟩
  |n a i=>
   obtain⟨hd,c,v,h,l,ho,k⟩:=this
   refine⟨hd,c,v,h,l,?_,k⟩
   rw[hg,ho,YxF]
   split<;>rfl
theorem YoZ{T:Tabs}{C:Ctx}(hT:TOK T C){g:Nat}{args:List TV}{as:List AV}{K:TV->YtI->Option β}(hp:T.pf g=false)(h:YvN T g args X K=some r)(hc:CT X pl args as)(hr:HRel Fr H0 X pl H)(hfr:FrOK Fr H0){KA:AV->Heap->Prop}
  (hk: ∀v X' va H' pl',K v X'=some r->TR X' pl' v va->HRel Fr H0 X' pl' H'->Ext X pl X' pl'->H.length<=H'.length->(∀a x,X.length<=a->pl' (.m a)=some x->H.length<=x)->
   (List.isEmpty (TV.idss args)=true-> ∀b x,b<X.length->okF X (vget X b)=true->pl (.m b)=some x->hf H' x=hf H x)->KA va H'):Yvc C g as H KA:=by
 unfold YvN at h
 refine Yd8 h hc hr (fun as' X1 pl1 g1 g2 g3 g4 g5=> ?_)
 obtain⟨e0,g1⟩:=Yaa g1
 obtain⟨k1,k2⟩:=YoY g3 (YtO X1 5 (YtK X1 [] (TV.idss as')))
 refine Yje hT hp g1 (g2.ext k2) k1 hfr (fun v X' va H' pl' h1 h2 h3 h4 h5 h6 _ h7=> ?_)
 obtain⟨e1,e2⟩:=Yaa h1
 refine hk v X' va H' pl' e2 h2 h3 (g4.trans (k2.trans h4)) h5 (fun a x ha hx=> ?_) (fun he b x hb hok hbx=> ?_)
 rotate_left
 ·rw[he,YxM,Bool.false_or,Yw1]at e0
  have hnm: ∀b,b<X.length->b∉Yt5 (fgX (YtO X1 5 (YtK X1 [] (TV.idss as'))) X1 0) 4 (YtO (fgX (YtO X1 5 (YtK X1 [] (TV.idss as'))) X1 0) 5 (YtK (fgX (YtO X1 5 (YtK X1 [] (TV.idss as'))) X1 0) [] (TV.idss as'))):=fun b hb hm=>by
   have:=YxC (e0 b hm)
   omega
  refine h7 b x (hnm b hb) ((g5 b hb).trans hbx) (fun o ho e he' z hz=> ?_)
  generalize Yt5 (fgX (YtO X1 5 (YtK X1 [] (TV.idss as'))) X1 0) 4 (YtO (fgX (YtO X1 5 (YtK X1 [] (TV.idss as'))) X1 0) 5 (YtK (fgX (YtO X1 5 (YtK X1 [] (TV.idss as'))) X1 0) [] (TV.idss as')))=mm at hnm
  cases hvb:vget X b with
  |none=>rw[hvb]at hok;cases hok
  |some ob=>
   rw[hvb]at hok
   have hob:=hr.obj b ob hvb
   cases ob with
   |sq c l=>
    obtain⟨x',el,q1,q2,_,q4⟩:=hob
    rw[hbx]at q1;injection q1 with q1;subst q1
    rw[ho]at q2;injection q2 with q2;injection q2 with q2;subst q2
    exact Yd6 q4 e he' z hz
   |sb s=>
    obtain⟨x',q1,q2⟩:=hob
    rw[hbx]at q1;injection q1 with q1;subst q1
    rw[ho]at q2;injection q2 with q2;injection q2 with q2;subst q2
    exact Yd6 (YaM s).rows e he' z hz
   |fm _ _ _ _ _=>cases hok
   |st cs=>
    obtain⟨x',f,q1,q2,_,q4⟩:=hob
    rw[hbx]at q1;injection q1 with q1;subst q1
    rw[ho]at q2;injection q2 with q2;injection q2 with q2;subst q2
    simp only[Yxf]at he';subst he'
    obtain⟨j,hj⟩:=YwW.1 hz
    obtain⟨v,hv⟩:=Yai q4.1 hj
    refine Yd4 (m:=[]) (fun a y ha _ hy=>.inr ⟨.m a,?_,?_⟩) v (Yw1.1 hok v (YwQ hv)) (q4.2 j v z hv hj)
    ·obtain⟨oa,hoa⟩:=YxH.1 ha
     exact hnm a (Yab hoa)
    ·obtain⟨oa,hoa⟩:=YxH.1 ha
     exact(g5 a (Yab hoa)).trans hy
 by_cases h:a<X1.length
 ·have:=Yw1.1 e1 a (List.mem_range.2 h)
  rw[YxP]at this
  rcases this with h'|h'
  ·have:a<X.length:=by simpa[Nat.blt_eq]using h'
   omega
  ·have hn:vget X' a=none:=by
    cases hq:vget X' a with
    |none=>rfl
    |some o=>rw[hq]at h';cases h'
   have:=h3.dead (p:=.m a) hn
   rw[this]at hx;cases hx
 ·exact h6 a x (by rw[Yd9];omega) hx
end
end Go.Abs
namespace Go.Abs
open Go Go.RowKit
def VI.ai(i:VI):AI:=⟨i.dst,i.op.aop,i.guard,i.old,i.nw⟩
def VCode.er:VCode->ACode
 | .bad=>.bad
 | .skip=>.skip
 | .reg ops=>.reg (ops.map VI.ai)
 | .seq a b=>.seq a.er b.er
 | .cond c a b=>.cond c.er a.er b.er
 | .blk id b=>.blk id b.er
 | .loop _ b=>.loop b.er
 | .jn _ b=>b.er
 | .exit id=>.exit id
 | .ret=>.ret
 | .fz _ b=>b.er
 | .ow _ b=>b.er
 | .regN _ ops=>.reg (ops.map VI.ai)
section
variable{Fr:Nat->Prop}{H0:Heap}{β:Type}{r:β}{T:Tabs}{C:Ctx}
def MK(n0:Nw)(m0:Nat->Prop)(X:YtI)(pl:Pl)(H:Heap):Prop:=
 n0.1<=X.length/\ (∀x,H.length<=x->m0 x)/\ (∀a x,pl (.m a)=some x->(Yuu n0 a=false-> ¬m0 x)/\ (Yuu n0 a=true->m0 x))/\ ∀x,¬m0 x-> ∃a,a<n0.1/\Yuu n0 a=false/\ (pl (.m a)=some x\/vget X a=none)
theorem Yjg{X:YtI}{pl:Pl}{n0:Nw}{X':YtI}{pl':Pl}(h0:n0.1<=X.length)(hx:Ext X pl X' pl'){x:Nat}(h: ∃a,a<n0.1/\Yuu n0 a=false/\ (pl (.m a)=some x\/vget X a=none)): ∃a,a<n0.1/\Yuu n0 a=false/\ (pl' (.m a)=some x\/vget X' a=none):=by
 obtain⟨a,h1,h2,h3⟩:=h
 refine⟨a,h1,h2,?_⟩
 rcases hx.keep a (by omega)with h'| ⟨o1,o',g1,g2,g3,g4,g5,_⟩
 ·simp_all
 simp_all
theorem Yjh{n:Nw}{a:Nat}(h:n.1<=a):Yuu n a=true:=by unfold Yuu;simp_all
structure RS(Fr:Nat->Prop)(H0:Heap)(n0:Nw)(m0:Nat->Prop)(p0:Nat× (Nat->Option Nat))(b:Nat)(s:VSt)(st:ASt):Prop where
 base:st.base=b
 kb:p0.1<=s.heap.length
 ex: ∃pl,ERel s.heap pl s.env st.env/\HRel Fr H0 s.heap pl st.heap/\ (∀i,i<p0.1-> ∀x,pl (.m i)=some x->p0.2 i=some x)/\MK n0 m0 s.heap pl st.heap
theorem Yo0{X:YtI}{pl:Pl}{X':YtI}{pl':Pl}{H':Heap}(hx:Ext X pl X' pl')(hr':HRel Fr H0 X' pl' H'){p0:Nat× (Nat->Option Nat)}(hk:p0.1<=X.length)(h: ∀i,i<p0.1-> ∀x,pl (.m i)=some x->p0.2 i=some x):
  ∀i,i<p0.1-> ∀x,pl' (.m i)=some x->p0.2 i=some x:=by
 intro i hi x hp
 obtain⟨o,ho⟩:=hr'.own _ x hp
 rcases hx.keep i (by omega)with h'| ⟨o1,o',h1,h2,h3,h4,h5,_⟩
 ·simp_all
 simp_all
theorem YfK{X:YtI}{pl:Pl}{H:Heap}{n0:Nw}{m0:Nat->Prop}(hm:MK n0 m0 X pl H){X':YtI}{pl':Pl}{H':Heap}(hr':HRel Fr H0 X' pl' H')(hx:Ext X pl X' pl')(hl:H.length<=H'.length)
  (hn: ∀a x,X.length<=a->pl' (.m a)=some x->H.length<=x):MK n0 m0 X' pl' H':=by
 refine⟨Yxy hm.1 hx.le,fun x h=>hm.2.1 x (Yxy hl h),fun a x ha=> ?_,fun x hx'=>Yjg hm.1 hx (hm.2.2.2 x hx')⟩
 obtain⟨o,ho⟩:=hr'.own _ x ha
 by_cases h:a<X.length
 ·rcases hx.keep a h with h'| ⟨o1,o',h1,h2,h3,h4,h5,_⟩
  ·simp_all
  ·rw[h5]at ha;exact hm.2.2.1 a x ha
 ·have h1:=hn a x (by omega) ha
  have hn':=Yjh (Yxy hm.1 (Nat.le_of_not_lt h))
  exact⟨fun h=>(by simp_all),fun _=>hm.2.1 x h1⟩
theorem Yo1{X:YtI}{pl:Pl}{H:Heap}{n0:Nw}{m0:Nat->Prop}(hm:MK n0 m0 X pl H){X':YtI}{pl':Pl}{H':Heap}(hr':HRel Fr H0 X' pl' H')(hx:Ext X pl X' pl')(hl:H.length<=H'.length)
  (hn:X'.length=X.length\/(X'.length=X.length+1/\pl' (.m X.length)=some H.length)):MK n0 m0 X' pl' H':=by
 refine⟨Yxy hm.1 hx.le,fun x h=>hm.2.1 x (Yxy hl h),fun a x ha=> ?_,fun x hx'=>Yjg hm.1 hx (hm.2.2.2 x hx')⟩
 obtain⟨o,ho⟩:=hr'.own _ x ha
 have hal:=Yab ho
 by_cases h:a<X.length
 ·rcases hx.keep a h with h'| ⟨o1,o',h1,h2,h3,h4,h5,_⟩
  ·simp_all
  ·rw[h5]at ha;exact hm.2.2.1 a x ha
 ·rcases hn with hn| ⟨hn,hp⟩
  ·omega
  ·have:a=X.length:=by omega
   subst this
   rw[hp]at ha;injection ha with ha
   have hn':=Yjh hm.1
   exact⟨fun h=>(by simp_all),fun _=>hm.2.1 x (by omega)⟩
theorem Yji(H:Heap): ∀us:List Upd,H.length<=(Yt1 H us).length
 | []=>Yxs _
 |u::us=>by
  refine Yxy ?_ (Yji _ us)
  cases u<;>simp[YuY]
theorem Ybr{X:YtI}{pl:Pl}{env:VEnv}{ae:Env}(h:ERel X pl env ae){d:Option Nat}{v:TV}{a:AV}(hv:TR X pl v a):ERel X pl (vput env d v) (put ae d a):=by
 cases d with
 |none=>exact h
 |some d=>
  intro t
  simp only[vput,put,YtT,YtM]
  have e0:(d==t)=Yxr d t:=by rw[YxN,beq_iff_eq,Nat.beq_eq]
  rw[e0]
  cases Yxr d t with
  |true=>exact hv
  |false=>exact h t
theorem Yjj{X:YtI}{pl:Pl}{H:Heap}{n0:Nw}{m0:Nat->Prop}(hm:MK n0 m0 X pl H){v:TV}{a:AV}(h:oldC X n0 v=true)(ht:TR X pl v a):(∀i off len,a= .ref i off len-> ¬m0 i)/\ (∀i j k,a= .ptr i j k-> ¬m0 i)/\ (∀cs,a≠ .agg cs)/\ (∀f cs,a≠ .clo f cs\/ ∃g ds,v= .clo g ds)/\ (∀i,a= .np i-> ¬m0 i):=by
 cases v with
 |ref x=>
  simp only[oldC,YxL]at h
  obtain⟨o,ho⟩:=YxH.1 h.1
  obtain⟨y,n,rfl,hp,_⟩:=Yan ho ht
  have:=(hm.2.2.1 x y hp).1 (by simp_all)
  simp_all
 |pre x n=>
  simp only[oldC,YxL]at h
  obtain⟨o,ho⟩:=YxH.1 h.1
  obtain⟨y,n,rfl,hp,_⟩:=Yb4 ho ht
  have:=(hm.2.2.1 x y hp).1 (by simp_all)
  simp_all
 |ptr x i j=>
  simp only[oldC,YxL]at h
  obtain⟨o,ho⟩:=YxH.1 h.1
  obtain⟨y,rfl,hp,_⟩:=Ybm ho ht
  have:=(hm.2.2.1 x y hp).1 (by simp_all)
  simp_all
 |np x=>
  simp only[oldC,YxL]at h
  obtain⟨o,ho⟩:=YxH.1 h.1
  obtain⟨y,rfl,hp⟩:=YaB ho ht
  have:=(hm.2.2.1 x y hp).1 (by simp_all)
  simp_all
 |u=>cases h
 |sub _ _ _=>cases h
 |pti _ _ _ _ _=>cases h
 |v _=>cases h
 |ag _=>cases h
 |clo g ds=>cases ht with
  |clo _ _ as=>simp
 |l c v=>
  cases ht with
  |l _ _ _ hc=>rcases YaZ hc with⟨rfl,_⟩| ⟨l0,rfl,_⟩<;>exact⟨fun i off len e=>(by cases e),fun i j k e=>(by cases e),fun cs e=>(by cases e),fun f cs=>.inl (fun e=>by cases e),fun i e=>(by cases e)⟩
 |_=>cases ht<;>exact⟨fun i off len e=>(by cases e),fun i j k e=>(by cases e),fun cs e=>(by cases e),fun f cs=>.inl (fun e=>by cases e),fun i e=>(by cases e)⟩
theorem Yjk{X:YtI}{pl:Pl}{H:Heap}{n0:Nw}{m0:Nat->Prop}(hm:MK n0 m0 X pl H){v:TV}{a:AV}(h:oldB X n0 v=true)(ht:TR X pl v a):(∀i,nm1 i a-> ¬m0 i)/\ (∀i j k,a= .ptr i j k-> ¬m0 i)/\ (∀cs,a= .agg cs-> ∀i off len,AV.ref i off len∈cs-> ¬m0 i)/\ (∀f cs,a≠ .clo f cs\/ ∃g ds,v= .clo g ds)/\ (∀i,a= .np i-> ¬m0 i):=by
 have gen:oldC X n0 v=true->(∀i,nm1 i a-> ¬m0 i)/\ (∀i j k,a= .ptr i j k-> ¬m0 i)/\ (∀cs,a= .agg cs-> ∀i off len,AV.ref i off len∈cs-> ¬m0 i)/\ (∀f cs,a≠ .clo f cs\/ ∃g ds,v= .clo g ds)/\ (∀i,a= .np i-> ¬m0 i):=by
  intro h
  obtain⟨h1,h2,h3,h4,h5⟩:=Yjj hm h ht
  refine⟨fun i hn=> ?_,h2,fun cs e=>absurd e (h3 cs),h4,h5⟩
  cases a with
  |ref x off len=>have hn:i=x:=hn;simp_all
  |agg cs=>simp_all
  |_=>trivial
 cases v with
 |ag cs=>
  cases ht with
  |ag _ as hl hc=>
   have key: ∀i off len,AV.ref i off len∈as-> ¬m0 i:=by
    intro i off len hmem
    obtain⟨j,hj⟩:=YwW.1 hmem
    obtain⟨c,hcj⟩:=Yai hl hj
    have:=Yw1.1 (show cs.all (oldC X n0)=true from h) c (YwQ hcj)
    exact(Yjj hm this (hc j c _ hcj hj)).1 i off len rfl
   exact⟨fun i ⟨off,len,hn⟩=>key i off len hn,fun i j k e=>(by cases e),fun cs' e i off len hn=>(by grind),fun f cs=>.inl (fun e=>by cases e),fun i e=>(by cases e)⟩
 |_=>exact gen h
theorem Yo2{X:YtI}{pl:Pl}{H:Heap}{n0:Nw}{m0:Nat->Prop}(hm:MK n0 m0 X pl H){v:TV}{a:AV}(h:oldT X n0 v=true)(ht:TR X pl v a):YvW m0 a:=by
 have gen:oldB X n0 v=true->(∀g ds,v≠ .clo g ds)->YvW m0 a:=by
  intro h hn
  obtain⟨h1,h2,h3,h4,h5⟩:=Yjk hm h ht
  cases a with
  |ref x off len=>exact h1 x rfl
  |ptr x i j=>exact h2 x i j rfl
  |np x=>exact h5 x rfl
  |agg cs=>exact h3 cs rfl
  |clo f cs=>simp_all
  |_=>trivial
 cases v with
 |clo g cs=>
  cases ht with
  |clo _ _ as hl hc=>
   intro i c hmem hn
   obtain⟨j,hj⟩:=YwW.1 hmem
   obtain⟨d,hd⟩:=Yai hl hj
   have:=Yw1.1 (show cs.all (oldB X n0)=true from h) d (YwQ hd)
   exact(Yjk hm this (hc j d c hd hj)).1 i hn
 |_=>exact gen h (fun g ds e=>by cases e)
theorem Ybf{X:YtI}{pl:Pl}{H:Heap}{n0:Nw}{m0:Nat->Prop}(hm:MK n0 m0 X pl H){v:TV}{a:AV}(h:newT X n0 v=true)(ht:TR X pl v a):YvF m0 a:=by
 cases v with
 |ref x=>
  simp only[newT,YxL]at h
  obtain⟨o,ho⟩:=YxH.1 h.1
  obtain⟨y,n,rfl,hp,_⟩:=Yan ho ht
  exact(hm.2.2.1 x y hp).2 (by simp_all)
 |ptr x i j=>
  simp only[newT,YxL]at h
  obtain⟨o,ho⟩:=YxH.1 h.1
  obtain⟨y,rfl,hp,_⟩:=Ybm ho ht
  exact(hm.2.2.1 x y hp).2 (by simp_all)
 |np x=>
  simp only[newT,YxL]at h
  obtain⟨o,ho⟩:=YxH.1 h.1
  obtain⟨y,rfl,hp⟩:=YaB ho ht
  exact(hm.2.2.1 x y hp).2 (by simp_all)
 |i k n=>cases ht;trivial
 |b x=>cases ht;trivial
 |s x=>cases ht;trivial
 |e c=>cases ht;trivial
 |l c v=>
  cases ht with
  |l _ _ _ hc=>rcases YaZ hc with⟨rfl,_⟩| ⟨l0,rfl,_⟩<;>trivial
 |_=>cases h
theorem Yo3(op:VOp):op.aop.touched=op.touched.map VOpd.er:=by
 cases op<;>rfl
theorem Yjl{X:YtI}{pl:Pl}{H:Heap}{n0:Nw}{m0:Nat->Prop}(hm:MK n0 m0 X pl H){env:VEnv}{ae:Env}(he:ERel X pl env ae): ∀l:List VOpd,(l.all fun x=>oldT X n0 (vo env x))=true->YuC m0 ae (l.map VOpd.er)
 | [],_=>trivial
 |x::l,h=>by
  simp only[List.all_cons,YxL]at h
  exact⟨Yo2 hm h.1 (Yat he x),Yjl hm he l h.2⟩
theorem Yo4{X:YtI}{pl:Pl}{H:Heap}{n0:Nw}{m0:Nat->Prop}(hm:MK n0 m0 X pl H){env:VEnv}{ae:Env}(he:ERel X pl env ae){op:VOp}(h:nwT X n0 env op=true):nwC m0 ae op.aop:=by
 cases op with
 |app c w s x=>exact Ybf hm h (Yat he s)
 |store n x y=>exact Ybf hm h (Yat he x)
 |appD c s x=>intro y hy;have:y=s.er:=by simpa[XOp.look]using hy
              subst this;exact Ybf hm h (Yat he s)
 |apps s x=>intro y hy;have:y=s.er:=by simpa[XOp.look]using hy
            subst this;exact Ybf hm h (Yat he s)
 |appb s x=>intro y hy;have:y=s.er:=by simpa[XOp.look]using hy
            subst this;exact Ybf hm h (Yat he s)
 |appDb s x=>intro y hy;have:y=s.er:=by simpa[XOp.look]using hy
             subst this;exact Ybf hm h (Yat he s)
 |mput o t V ag m k v=>intro y hy;have:y=m.er:=by simpa[XOp.look]using hy
                       subst this;exact Ybf hm h (Yat he m)
 |mdel o t V m k=>intro y hy;have:y=m.er:=by simpa[XOp.look]using hy
                  subst this;exact Ybf hm h (Yat he m)
 |cpy c d s=>intro y hy;have:y=d.er:=by simpa[XOp.look]using hy
             subst this;exact Ybf hm h (Yat he d)
 |call g args=>trivial
 |callF g args=>trivial
 |_=>cases h
theorem frNo{H0:Heap}:FrOK (fun _=>False) H0:=fun _ h=>h.elim
theorem Yjm(n:Nat):HRel (fun _=>False) (List.replicate n none) [] (fun _=>none) (List.replicate n none):=
 ⟨fun a o h=>(by cases h),fun p q x h=>(by cases h),fun p x h=>(by cases h),fun x h=>h.elim,fun p x h=>(by cases h),Yxs _⟩
theorem Yo5(c:Cs)(x:List c.den):Rows (x.map c.enc) c x:=by
 refine⟨by simp,fun i e v' k1 k2=> ?_⟩
 rw[YwR,k2,YxF]at k1
 injection k1 with k1;subst k1
 exact⟨rfl,fun j x x' k1 k2=>by rw[k1]at k2;injection k2 with k2;subst k2;exact .refl _⟩
theorem heapI_one{n:Nat}{c:Cs}{z:List c.den}:
  Yub (fun _=>False) (List.replicate n none) 0 [some (.sq c z)] (plI (fun _=>none) 0 (List.replicate n (none:Option AObj)).length [some (.sq c z)])=List.replicate n none++[some ⟨c.width,z.map c.enc⟩]:=by
 have hl:(List.replicate n (none:Option AObj)).length=n:=by simp
 have hp0:plI (fun _=>none) ([]:YtI).length (List.replicate n (none:Option AObj)).length [some (.sq c z)] (.m 0)=some n:=by
  show some ((List.replicate n (none:Option AObj)).length+(0-0))=some n
  simp
 have h0:=Yjm n
 apply Yxc
 intro x
 have hlen:=Yc2 (fun _=>False) (List.replicate n none) 0 [some (.sq c z)] (plI (fun _=>none) 0 (List.replicate n (none:Option AObj)).length [some (.sq c z)])
 have hle:(Yub (fun _=>False) (List.replicate n none) 0 [some (.sq c z)] (plI (fun _=>none) 0 (List.replicate n (none:Option AObj)).length [some (.sq c z)])).length=n+1:=by rw[hlen,hl];rfl
 by_cases hx:x<n+1
 ·by_cases hn:x=n
  ·subst hn
   have:=YfC (Xs:=[]) h0 (X2:=[some (.sq c z)]) (Yxz _) hp0
   have e:x-(List.replicate x (none:Option AObj)).length=0:=by simp
   rw[Yw0 (by simp),e]
   exact this
  ·rw[YwU (by rw[hl];omega),Yxp,if_pos (by omega)]
   have hlt:x< (Yub (fun _=>False) (List.replicate n none) 0 [some (.sq c z)] (plI (fun _=>none) 0 (List.replicate n (none:Option AObj)).length [some (.sq c z)])).length:=by rw[hle];exact hx
   rw[YwO hlt]
   cases hq:(Yub (fun _=>False) (List.replicate n none) 0 [some (.sq c z)] (plI (fun _=>none) 0 (List.replicate n (none:Option AObj)).length [some (.sq c z)]))[x]with
   |none=>rfl
   |some o=>
    exfalso
    have h1:(Yub (fun _=>False) (List.replicate n none) 0 [some (.sq c z)] (plI (fun _=>none) 0 (List.replicate n (none:Option AObj)).length [some (.sq c z)]))[x]?=some (some o):=by rw[YwO hlt,hq]
    rcases Yi3 (Xs:=[]) h1 with⟨h,_⟩| ⟨p,h,_⟩
    ·exact h
    ·cases p with
     |m i=>
      rcases(Ycc h0 h).1 with h| ⟨h,_,_⟩
      ·cases h
      ·rw[hl]at h;omega
     |n a i=>
      obtain⟨h2,h3,_⟩:=Ybe h
      rw[hl]at h3
      have:x<n:=by omega
      omega
 ·rw[Yw7 (by rw[hle];omega),Yw7 (by simp;omega)]
theorem Yea: ∀(c:Cs) (v:c.den),c.plain=true-> ∀x∈c.enc v,∃y,x=AV.v y
 | .nil,_,_,x,hx=>by cases hx
 | .cons (.l _) _,_,h,_,_=>by cases h
 | .cons (.i _) r,v,h,x,hx=>by exact(Yw2.1 hx).elim (fun e=>⟨_,e⟩) (Yea r _ h x)
 | .cons .b r,v,h,x,hx=>by exact(Yw2.1 hx).elim (fun e=>⟨_,e⟩) (Yea r _ h x)
 | .cons .s r,v,h,x,hx=>by exact(Yw2.1 hx).elim (fun e=>⟨_,e⟩) (Yea r _ h x)
theorem Yo6(hT:TOK T C){g:Nat}{args:List TV}{as:List AV}{X:YtI}{pl:Pl}{H:Heap}{K:TV->YtI->Option β}(hp:T.pf g=false){d:Bool}(h:YvP T g args d X K=some r)(hc:CT X pl args as)(hr:HRel Fr H0 X pl H){KA:AV->Heap->Prop}
  (hk: ∀v X' va H' pl',K v X'=some r->TR X' pl' v va->HRel Fr H0 X' pl' H'->Ext X pl X' pl'->H.length<=H'.length->(∀a x,X.length<=a->pl' (.m a)=some x->H.length<=x)->KA va H'):
  ∃args1 args' o len,All2 (Bor (hf H)) as args1/\ (args1=as\/Yu0 o)/\All2 Coe args1 args'/\MkC C g args' o len/\ (d=true->len=o.el.length)/\KA (mkV d o H.length len) (H++[mkO d o]):=by
 unfold YvP at h
 cases hl:ldL X args with
 |mk ds lent=>
  rw[hl]at h
  simp only at h
  split at h
  ·rename_i svs hs
   split at h
   ·rename_i e hf
    obtain⟨e1,e2⟩:=Yaa h
    obtain⟨hm,hg⟩:=Yja hf
    split at e2
    ·rename_i x hx
     cases hy:e.F x with
     |none=>simp_all
     |some y=>
      rw[hy]at e2
      simp at e2
      split at e2
      ·rename_i l hv
       split at e2
       ·rename_i c z hX2
        obtain⟨hw,e3⟩:=Yaa e2
        simp only[YxL]at hw
        obtain⟨hw,hlt⟩:=hw
        have hw':0<c.width:=by simp_all
        obtain⟨bs,g1,g2,g3⟩:=Yfz hr hl hc
        have hbs:bs=as\/Yu0 ⟨c.width,z.map c.enc⟩:=by
         cases lent with
         |false=>simp_all
         |true=>
          refine .inr (fun e he x hx=> ?_)
          obtain⟨v,_,rfl⟩:=Yw3.1 he
          exact Yea c v (by trivial) x hx
        refine⟨bs,avTs ds,⟨c.width,z.map c.enc⟩,z.length,g1,hbs,Yi0 g2 e1,⟨hw',fun a ha=>Ycb ds a ha,fun e he x hx=> ?_,fun n=> ?_⟩,fun _=>by simp,?_⟩
        ·obtain⟨v,_,rfl⟩:=Yw3.1 he
         exact YaL c v x hx
        ·rw[<-hg]
         refine hT.fnI e hm (by simp_all) _ _ _ _ ⟨x,y,ds,[],fun _=>none,fun _=>False,.ref 0,l,[some (.sq c z)],hy,hx,rfl,?_,Yjm n,frNo,fun i o h=>(by cases h),hv,hX2,Yxz _,rfl,by simp[wfX,hw],fun i hi=>by trivial,?_,heapI_one.symm⟩
         ·have:=Yc0 (X:=[]) (pl:=fun _=>none) ds e1
          trivial
         ·simp[encT,plI,vget,seqN,lenO]
        ·cases d with
         |true=>
          refine hk _ _ _ _ _ e3 ?_ (YcR hr) (Ext.refl _ _) (by simp) (fun a x ha hx=> ?_)
          ·refine .l c z _ ?_
           show Coe (.rd (wd c.width) _) _
           rw[Yay hw'];exact .refl _
          ·have:=hr.dead (p:=.m a) (Yar ha);simp_all
         |false=>
         obtain⟨k1,k2⟩:=Yas hr (.sq c z) ⟨c.width,z.map c.enc⟩ (fun _=>⟨H.length,z.map c.enc,by unfold plS;simp,by simp,hw',Yo5 c z⟩)
         refine hk _ _ _ _ _ e3 (.ref X.length H.length _ _ (Yal _ _) rfl (by unfold plS;simp)) k1 k2 (by simp) (fun a x ha hx=> ?_)
         unfold plS at hx
         split at hx
         ·simp_all
         ·have:=hr.dead (p:=.m a) (Yar ha);simp_all
       trivial
      trivial
    trivial
   trivial
  trivial
def VOp.isCall:VOp->Bool
 | .call _ _=>true
 | .callF _ _=>true
 |_=>false
theorem Yo7(hT:TOK T C)(hfr:FrOK Fr H0){op:VOp}{env:VEnv}{ae:Env}{X:YtI}{pl:Pl}{H:Heap}{n0:Nw}{m0:Nat->Prop}{K:TV->YtI->Option β}(h:vop T op env X K=some r)(he:ERel X pl env ae)(hr:HRel Fr H0 X pl H)(hm:MK n0 m0 X pl H)
  {KA:AV->Heap->Prop} (hk: ∀v X' va H' pl',K v X'=some r->TR X' pl' v va->HRel Fr H0 X' pl' H'->Ext X pl X' pl'->MK n0 m0 X' pl' H'->(op.isCall=true->nwT X n0 env op=true-> ∀x,¬m0 x->hf H' x=hf H x)->KA va H'):evOp C op.aop ae H KA:=by
 have gen:op.isCall=false->vG op env X K=some r->evG op.aop ae (hf H) H.length (fun v us=>KA v (Yt1 H us)):=fun hic h=>
  Yor h he hr (fun v X' va us h1 ⟨pl',k1,k2,k3⟩=>hk v X' va _ pl' h1 k1 k2.1 k2.2 (Yo1 hm k2.1 k2.2 (Yji H us) k3) (fun e=>by simp_all))
 have call: ∀{g:Nat} {args:List TV} {as:List AV},(op.isCall=true->nwT X n0 env op=true-> ∀x,¬m0 x-> ∃b,b∉Yt5 X 4 (YtO X 5 (YtK X [] (TV.idss args)))/\okO (vget X b)=true/\pl (.m b)=some x)->YvO T g args X K=some r->CT X pl args as->Yvc C g as H KA:=by
  intro g args as hq h hc
  unfold YvO at h
  cases hp:T.pf g with
  |true=>
   rw[hp,cond_true]at h
   exact YoF hT.p hp h hc hr (fun v va h1 h2=>hk v X va H pl h1 h2 hr (Ext.refl _ _) hm (fun _ _ _ _=>rfl))
  |false=>
   rw[hp,cond_false]at h
   exact Yje hT hp h hc hr hfr (fun v X' va H' pl' h1 h2 h3 h4 h5 h6 h7 _=>hk v X' va H' pl' h1 h2 h3 h4 (YfK hm h3 h4 h5 h6) (fun e1 e2 x hx=>by obtain⟨b,q1,q2,q3⟩:=hq e1 e2 x hx;exact h7 b x q1 q2 q3))
 unfold vop at h
 split at h
 ·rename_i g args
  refine call (fun _ hnw x hx=> ?_) h (YaN he args)
  simp only[nwT,YxL]at hnw
  obtain⟨b,k1,k2,k3⟩:=hm.2.2.2 x hx
  have q4:=Yw1.1 hnw.2 b (List.mem_range.2 k1)
  rw[k2,Bool.false_or]at q4
  refine⟨b,fun hb=> ?_,q4,?_⟩
  ·have:=Yw1.1 hnw.1 b hb
   rw[k2]at this;cases this
  ·rcases k3 with k3|k3
   ·exact k3
   ·rw[k3]at q4;cases q4
 ·rename_i x args
  have hx:=Yat he x
  split at h
  ·rename_i f cs e1
   rw[e1]at hx
   simp only[VOp.aop,evOp,opK]
   generalize opd ae x.er=ax at hx⊢
   cases hx with
   |clo _ _ as hl hc=>exact⟨f,as,rfl,call (fun e=>by cases e) h ((YaN he args).append ⟨hl,hc⟩)⟩
  trivial
 ·rename_i x args
  have hx:=Yat he x
  split at h
  ·rename_i f cs e1
   obtain⟨hp,h⟩:=Yaa h
   rw[e1]at hx
   simp only[VOp.aop,evOp,opK]
   generalize opd ae x.er=ax at hx⊢
   cases hx with
   |clo _ _ as hl hc=>exact⟨f,as,rfl,by rw[hT.p.pf];exact hp,call (fun e=>by cases e) h ((YaN he args).append ⟨hl,hc⟩)⟩
  trivial
 ·rename_i g args d
  cases hp:T.pf g with
  |true=>simp_all
  |false=>
   rw[hp,cond_false]at h
   exact Yo6 hT hp h (YaN he args) hr (fun v X' va H' pl' h1 h2 h3 h4 h5 h6=>hk v X' va H' pl' h1 h2 h3 h4 (YfK hm h3 h4 h5 h6) (fun e=>by cases e))
 ·rename_i g args
  cases hp:T.pf g with
  |true=>simp_all
  |false=>
   rw[hp,cond_false]at h
   exact YoZ hT hp h (YaN he args) hr hfr (fun v X' va H' pl' h1 h2 h3 h4 h5 h6 h7=>hk v X' va H' pl' h1 h2 h3 h4 (YfK hm h3 h4 h5 h6) (fun _ hnw x hx=>by
    simp only[nwT,YxL]at hnw
    obtain⟨b,q1,q2,q3⟩:=hm.2.2.2 x hx
    have q4:=Yw1.1 hnw.2 b (List.mem_range.2 q1)
    rw[q2,Bool.false_or]at q4
    rcases q3 with q3|q3
    ·exact h7 hnw.1 b x (Yxw q1 hm.1) q4 q3
    ·rw[q3]at q4;cases q4))
 ·rename_i h1 h2 h3 h4 h5
  have:=gen (by cases op<;>first|rfl|trivial) h
  cases op<;>first|trivial|trivial|trivial|trivial|trivial
theorem YfL(hT:TOK T C)(hfr:FrOK Fr H0){n0:Nw}{m0:Nat->Prop}{b:Nat}{p0:Nat× (Nat->Option Nat)}: ∀{ops:List VI} {s:VSt} {K:VSt->Option β} {st:ASt},vops T n0 ops s K=some r->RS Fr H0 n0 m0 p0 b s st-> ∀{KA:ASt->Prop},
  (∀s' st',K s'=some r->RS Fr H0 n0 m0 p0 b s' st'->KA st')->Yuy C m0 (ops.map VI.ai) KA st
 | [],s,K,st,h,hs,KA,hk=>hk s st h hs
 |i::ops,⟨env,X⟩,K,⟨ae,H,b0⟩,h,⟨hb,hkb,pl,he,hr,hpk,hm⟩,KA,hk=>by
  have hb:b0=b:=hb
  subst hb
  simp only[vops]at h
  simp only[YwS,Yuy]
  have rec': ∀s' st',vops T n0 ops s' K=some r->RS Fr H0 n0 m0 p0 b0 s' st'->Yuy C m0 (ops.map VI.ai) KA st':=fun s' st' h1 h2=>YfL hT hfr h1 h2 hk
  have go: ∀{env:VEnv} {ae:Env},ERel X pl env ae->vgo T n0 i env X (fun s'=>vops T n0 ops s' K)=some r->
    Yu5 C m0 i.old i.nw i.op.aop ae H (fun v H'=>Yuy C m0 (ops.map VI.ai) KA ⟨put ae i.dst v,H',b0⟩):=by
   intro env ae he h
   unfold vgo at h
   obtain⟨hmk,h⟩:=Yaa h
   simp only[okM,YxL,YxP,Bool.not_eq_true']at hmk
   refine⟨fun hold=> ?_,fun hnw=> ?_,Yo7 hT hfr h he hr hm (fun v X' va H' pl' h1 h2 h3 h4 h5 h6=>⟨fun hnw hic=>h6 ?_ ?_,rec' _ _ h1 ⟨rfl,Yxy hkb h4.le,pl',Ybr (he.ext h4) h2,h3,Yo0 h4 h3 hkb hpk,h5⟩⟩)⟩
   rotate_left 2
   ·revert hic;show i.op.aop.isCall=true->_;cases i.op<;>first|exact fun _=>rfl|exact fun h=>by cases h
   ·simp_all
   ·rw[Yo3]
    rcases hmk.1 with h1|h1
    ·simp_all
    ·exact Yjl hm he _ h1
   ·rcases hmk.2 with h1|h1
    ·simp_all
    ·exact Yo4 hm he h1
  have skip: ∀{env:VEnv} {ae:Env},ERel X pl env ae->vops T n0 ops ⟨vput env i.dst undV,X⟩ K=some r->Yuy C m0 (ops.map VI.ai) KA ⟨put ae i.dst (.v undef),H,b0⟩:=
   fun he h=>rec' _ _ h ⟨rfl,hkb,pl,Ybr he (.v _),hr,hpk,hm⟩
  have her: ∀{g:Nat} {t:Bool},ERel X pl ((g,.b t)::env) ((g,.v (.bool t))::ae):=fun{g t}=>Ybr (d:=some g) he (.b t)
  unfold vai at h
  unfold evAI
  have e1:(VI.ai i).guard=i.guard:=rfl
  rw[e1]
  split at h
  ·rename_i hg
   rw[hg]
   exact go he h
  ·rename_i g w hg
   rw[hg]
   have hgt:=he g
   simp only at h
   split at h
   ·rename_i t hx
    rw[hx]at hgt
    have hv:opd ae (.t g)= .v (.bool t):=by
     show YtM ae g=_
     generalize YtM ae g=a at hgt⊢
     cases hgt;rfl
    cases w with
    |true=>
     simp only[opK]
     refine .inl ⟨t,hv,fun ht=> ?_,fun ht=> ?_⟩
     ·subst ht;exact go her h
     ·subst ht;exact skip her h
    |false=>
     simp only[opK]
     refine .inl ⟨t,hv,fun ht=> ?_,fun ht=> ?_⟩
     ·subst ht;exact skip her h
     ·subst ht;exact go her h
   ·rename_i hx
    rw[hx]at hgt
    have hv:opd ae (.t g)= .v undef:=by
     show YtM ae g=_
     generalize YtM ae g=a at hgt⊢
     cases hgt;rfl
    have:=skip he h
    cases w<;>exact .inr ⟨hv,this⟩
   trivial
structure VS(Fr:Nat->Prop)(H0:Heap)(p0:Nat× (Nat->Option Nat))(b:Nat)(s:VSt)(st:ASt):Prop where
 base:st.base=b
 kb:p0.1<=s.heap.length
 ex: ∃pl,ERel s.heap pl s.env st.env/\HRel Fr H0 s.heap pl st.heap/\ ∀i,i<p0.1-> ∀x,pl (.m i)=some x->p0.2 i=some x
theorem RS.vs{n0:Nw}{m0:Nat->Prop}{b:Nat}{p0:Nat× (Nat->Option Nat)}{s:VSt}{st:ASt}(h:RS Fr H0 n0 m0 p0 b s st):VS Fr H0 p0 b s st:=⟨h.base,h.kb,by obtain⟨pl,h1,h2,h3,_⟩:=h.ex;grind⟩
theorem VS.rs{b:Nat}{p0:Nat× (Nat->Option Nat)}{s:VSt}{st:ASt}(h:VS Fr H0 p0 b s st)(S:List Nat): ∃m0,(∀x,st.heap.length<=x->m0 x)/\RS Fr H0 (s.heap.length,S) m0 p0 b s st:=by
 obtain⟨pl,h1,h2,h3⟩:=h.ex
 have hnew: ∀a x,pl (.m a)=some x->(Yuu (s.heap.length,S) a=true↔a∈S):=fun a x ha=>by
  obtain⟨o,ho⟩:=h2.own _ x ha
  have:=Yab ho
  unfold Yuu
  have hb:Yxv s.heap.length a=false:=by
   cases hq:Yxv s.heap.length a with
   |false=>rfl
   |true=>have:=YxC hq;omega
  simp_all
 have hbd: ∀x,st.heap.length<=x-> ¬ ∃a,a∉S/\pl (.m a)=some x:=fun x hx ⟨a,_,ha⟩=>by have:=h2.bd ha;omega
 refine⟨fun x=> ¬ ∃a,a∉S/\pl (.m a)=some x,hbd,h.base,h.kb,pl,h1,h2,h3,Yxs _,hbd,fun a x ha=>⟨fun hn hm=> ?_,fun hn=> ?_⟩,fun x hx=> ?_⟩
 ·grind
 ·rintro⟨b,hb,hbx⟩
  have:=h2.inj _ _ _ ha hbx
  simp_all
 ·obtain⟨a,ha,hax⟩:=Classical.byContradiction hx
  obtain⟨o,ho⟩:=h2.own _ x hax
  refine⟨a,Yab ho,?_,.inl hax⟩
  grind
def Yud(Fr:Nat->Prop)(H0:Heap)(kb:Nat)(C:Ctx)(code:ACode)(e:LpE):Prop:=
 ∀x y,e.F x=some y-> ∀s,e.g.fill x=some s-> ∀q b st,VS Fr H0 (kb,q) b s st->Sat C code (fun ex st'=> ∃s',altK e.outs y (fun o z=>o.ex=ex/\o.g.fill z=some s')/\VS Fr H0 (kb,q) b s' st') st
def LsOK(Fr:Nat->Prop)(H0:Heap)(C:Ctx)(T:Tabs):VCode->Prop
 | .seq a b=>LsOK Fr H0 C T a/\LsOK Fr H0 C T b
 | .cond _ a b=>LsOK Fr H0 C T a/\LsOK Fr H0 C T b
 | .blk _ b=>LsOK Fr H0 C T b
 | .fz _ b=>LsOK Fr H0 C T b
 | .ow _ b=>LsOK Fr H0 C T b
 | .loop lid b=> ∀e,Yvq lid T.ls=some e->Yud Fr H0 T.kb C (.loop b.er) e
 | .jn lid b=> ∀e,Yvq lid T.ls=some e->Yud Fr H0 T.kb C b.er e
 |_=>True
theorem Yjn: ∀(os:List Out1) (y:Alt os),∃(o:Out1) (z:o.g.c.den),∀{γ:Type} (k:(o:Out1)->o.g.c.den->γ),altK os y k=k o z
 | [o],y=>⟨o,y,fun k=>rfl⟩
 |o::o'::r,.inl x=>⟨o,x,fun k=>rfl⟩
 |o::o'::r,.inr z=>by
  obtain⟨o1,z1,h⟩:=Yjn (o'::r) z
  exact⟨o1,z1,fun k=>h k⟩
 | [],y=>nomatch y
theorem Yjo{lid b:Nat}{s:VSt}{K:Ex->VSt->Option β}{st:ASt}{code:ACode}{q:Nat->Option Nat}(h:vsub T lid s K=some r)(hs:VS Fr H0 (T.kb,q) b s st)(hl: ∀e,Yvq lid T.ls=some e->Yud Fr H0 T.kb C code e)
  {Q:Ex->ASt->Prop} (hk: ∀e s' st',K e s'=some r->VS Fr H0 (T.kb,q) b s' st'->Q e st'):Sat C code Q st:=by
 unfold vsub at h
 split at h
 ·rename_i e he
  cases hkp:YuH T.kb e.g.ts (ownV e.own s)with
  |mk vs X=>
   rw[hkp]at h
   simp only at h
   split at h
   ·rename_i x hx
    cases hy:e.F x with
    |none=>simp_all
    |some y=>
     obtain⟨hb,hkb,pl,h1,h2,hpk⟩:=hs
     obtain⟨st1,pl1,k1,k2,k3,k4,k8,k9⟩:=YaG (ws:=e.own) hb h1 h2
     obtain⟨pl2,k5,k6,k7,k10⟩:=YcY (env:=(ownV e.own s).env) (X:=(ownV e.own s).heap) k3 k4 (Yxy hkb k8) hkp
     refine Sat.wk k1 ((hl e he x y hy _ (YaV hx) q b st1 ⟨k2,k7,pl2,k5,k6,fun i hi z hz=>hpk i hi z (k9 i (Yxw hi hkb) z (k10 i hi z hz))⟩).mono (fun ex st' hq=> ?_))
     obtain⟨s',g1,g2⟩:=hq
     obtain⟨o,z,hpk⟩:=Yjn e.outs y
     grind
   trivial
 trivial
theorem frzV_ok'{b:Nat}{p0:Nat× (Nat->Option Nat)}{ts:List Nat}{s:VSt}{st:ASt}(hFr:FrOK Fr H0)(hnh:Yvv s.heap=true)(hs:VS Fr H0 p0 b s st): ∃st',Wk st st'/\VS Fr H0 p0 b (frzV ts s) st':=by
 obtain⟨env,X⟩:=s
 obtain⟨ae,H,b0⟩:=st
 obtain⟨hb,hkb,pl,h1,h2,hpk⟩:=hs
 have hF: ∀a∈ (ts.flatMap (Ywq ⟨env,X⟩)),Yvi X a=true:=by
  intro a ha
  obtain⟨t,_,ha⟩:=List.mem_flatMap.1 ha
  unfold Ywq at ha
  cases hb:Yxu t 1000000 with
  |true=>
   unfold Ywc at ha
   grind
  |false=>
   grind
 obtain⟨ae',H',k1,k2,k3⟩:=YoD (b:=b0) hFr h1 h2 hF (fun{a hd c v h l} ho=>by
  have: ∀{X:YtI} {a:Nat},Yvv X=true->vget X a=some (.fm hd c v h l)->h=none:=by
   intro X
   induction X with
   |nil=>intro a _ h;cases h
   |cons o X ih=>
    intro a hn hg
    simp only[Yvv,List.all_cons,YxL]at hn
    cases a with
    |zero=>
     subst hg
     cases h with
     |none=>rfl
     |some i=>grind
    |succ a=>exact ih hn.2 hg
  grind)
 refine⟨⟨ae',H',b0⟩,k1,hb,?_,_,k2,k3,fun i hi x hx=>hpk i hi x ?_⟩
 ·show p0.1<=(frzX X _).length
  rw[Yca];omega
 ·unfold plF at hx
  simp_all
theorem YaC(hT:TOK T C)(hfr:FrOK Fr H0){b:Nat}{q:Nat->Option Nat}: ∀{code:VCode} {s:VSt} {K:Ex->VSt->Option β} {st:ASt},ev T code s K=some r->LsOK Fr H0 C T code->VS Fr H0 (T.kb,q) b s st-> ∀{Q:Ex->ASt->Prop},
  (∀e s' st',K e s'=some r->VS Fr H0 (T.kb,q) b s' st'->Q e st')->Sat C code.er Q st
 | .bad,s,K,st,h,_,hs,Q,hk=>by cases h
 | .skip,s,K,st,h,_,hs,Q,hk=>Yne (hk _ _ _ h hs)
 | .exit id,s,K,st,h,_,hs,Q,hk=>Ynf (hk _ _ _ h hs)
 | .ret,s,K,st,h,_,hs,Q,hk=>Yng (hk _ _ _ h hs)
 | .reg ops,s,K,st,h,_,hs,Q,hk=>by
   obtain⟨m0,k1,k2⟩:=hs.rs []
   exact YhN k1 (YfL hT hfr h k2 (fun s' st' h1 h2=>hk _ _ _ h1 h2.vs))
 | .regN ns ops,s,K,st,h,hl,hs,Q,hk=>by
   obtain⟨m0,k1,k2⟩:=hs.rs (ns.flatMap (YwE s)++Yu9 s.heap 0)
   exact YhN k1 (YfL hT hfr h k2 (fun s' st' h1 h2=>hk _ _ _ h1 h2.vs))
 | .seq x y,s,K,st,h,hl,hs,Q,hk=>by
   simp only[ev]at h
   refine YdC (YaC hT hfr h hl.1 hs (fun e s' st' h1 h2=> ?_))
   cases e with
   |nor=>exact YaC hT hfr h1 hl.2 h2 hk
   |exit id=>exact hk _ _ _ h1 h2
   |ret=>exact hk _ _ _ h1 h2
 | .cond c x y,s,K,st,h,hl,hs,Q,hk=>by
   simp only[ev]at h
   obtain⟨hb,hkb,pl,he,hr,hpk⟩:=hs
   have hc:=Yat he c
   split at h
   ·rename_i t ht
    rw[ht]at hc
    have hv:opd st.env c.er= .v (.bool t):=by
     generalize opd st.env c.er=a at hc⊢
     cases hc;rfl
    have hs': ∀t,VS Fr H0 (T.kb,q) b (refV s c t) (Yu7 st c.er t)\/vo s.env c≠ .b t:=by
     intro t'
     by_cases e:t'=t
     ·subst e
      left
      cases c with
      |t g=>exact⟨hb,hkb,pl,Ybr (d:=some g) he (.b t'),hr,hpk⟩
      |c k=>exact⟨hb,hkb,pl,he,hr,hpk⟩
     grind
    refine Ynh (b:=t) hv (fun e=> ?_) (fun e=> ?_)
    ·subst e;exact YaC hT hfr h hl.1 ((hs' true).resolve_right (fun hn=>hn ht)) hk
    ·subst e;exact YaC hT hfr h hl.2 ((hs' false).resolve_right (fun hn=>hn ht)) hk
   trivial
 | .blk id x,s,K,st,h,hl,hs,Q,hk=>by
   simp only[ev]at h
   refine YhP (YaC hT hfr h hl hs (fun e s' st' h1 h2=> ?_))
   cases e with
   |nor=>exact hk _ _ _ h1 h2
   |ret=>exact hk _ _ _ h1 h2
   |exit id'=>
    simp only[Ex.blk]
    have e0:(id'==id)=Yxr id' id:=by rw[YxN,beq_iff_eq,Nat.beq_eq]
    grind
 | .loop lid x,s,K,st,h,hl,hs,Q,hk=>by
   exact Yjo h hs hl hk
 | .jn lid x,s,K,st,h,hl,hs,Q,hk=>by
   exact Yjo h hs hl hk
 | .fz ts x,s,K,st,h,hl,hs,Q,hk=>by
   obtain⟨h1,h2⟩:=Yaa h
   obtain⟨st',k1,k2⟩:=frzV_ok' (ts:=ts) hfr h1 hs
   exact Sat.wk k1 (YaC hT hfr h2 hl k2 hk)
 | .ow ws x,s,K,st,h,hl,hs,Q,hk=>by
   simp only[ev]at h
   obtain⟨hb,hkb,pl,h1,h2,hpk⟩:=hs
   obtain⟨st1,pl1,k1,k2,k3,k4,k8,k9⟩:=YaG (ws:=ws) hb h1 h2
   exact Sat.wk k1 (YaC hT hfr h hl ⟨k2,Yxy hkb k8,pl1,k3,k4,fun i hi z hz=>hpk i hi z (k9 i (Yxw hi hkb) z hz)⟩ hk)
theorem Yjp{e:Ex}: ∀{os:List Out1} {n m:Nat},Yv0 e os n=some m-> ∃k o,m=n+k/\os[k]?=some o/\o.ex=e
 | [],n,m,h=>by cases h
 |o::r,n,m,h=>by
  simp only[Yv0]at h
  cases hq:exEq o.ex e with
  |true=>
   rw[hq,cond_true]at h;injection h with h;subst h
   refine⟨0,o,rfl,rfl,?_⟩
   cases h1:o.ex<;>cases h2:e<;>rw[h1,h2]at hq<;>first|rfl|cases hq|skip
   exact congrArg _ (Yxt hq)
  |false=>
   rw[hq,cond_false]at h
   obtain⟨k,o',h1,h2,h3⟩:=Yjp h
   exact⟨k+1,o',by omega,h2,h3⟩
theorem Yjq: ∀{os:List Out1} {n:Nat} {f:(o:Out1)->Option o.g.c.den} {y:Alt os} {o:Out1},YvK os n f=some y->os[n]?=some o-> ∃z,f o=some z/\ ∀{γ:Type} (k:(o:Out1)->o.g.c.den->γ),altK os y k=k o z
 | [],n,f,y,o,h,_=>by cases h
 | [o1],0,f,y,o,h,ho=>by
   injection ho with ho;subst ho
   exact⟨y,h,fun k=>rfl⟩
 |o1::o2::r,0,f,y,o,h,ho=>by
  injection ho with ho;subst ho
  simp only[YvK]at h
  split at h
  ·rename_i x hx;injection h with h;subst h;exact⟨x,hx,fun k=>rfl⟩
  trivial
 | [_],n+1,f,y,o,h,_=>by cases h
 |o1::o2::r,n+1,f,y,o,h,ho=>by
  simp only[YvK]at h
  split at h
  ·rename_i z hz
   injection h with h;subst h
   obtain⟨w,h1,h2⟩:=Yjq hz (by simpa using ho)
   exact⟨w,h1,fun k=>h2 k⟩
  trivial
theorem Yeb{kb:Nat}{q:Nat->Option Nat}{outs:List Out1}{e:Ex}{s:VSt}{y:Alt outs}{b:Nat}{st:ASt}(h:outK kb outs e s=some y)(hs:VS Fr H0 (kb,q) b s st): ∃s',altK outs y (fun o z=>o.ex=e/\o.g.fill z=some s')/\VS Fr H0 (kb,q) b s' st:=by
 unfold outK at h
 split at h
 ·rename_i n hn
  obtain⟨k,o,h1,h2,h3⟩:=Yjp hn
  rw[Yxx]at h1;subst h1
  obtain⟨z,h4,h5⟩:=Yjq h h2
  obtain⟨env,X⟩:=s
  obtain⟨hb,hkb,pl,he,hr,hpk⟩:=hs
  cases hkp:YuH kb o.g.ts ⟨env,X⟩with
  |mk vs X'=>
   rw[hkp]at h4
   obtain⟨pl',k1,k2,k3,k4⟩:=YcY he hr hkb hkp
   refine⟨⟨zipE o.g.ts vs,X'⟩,?_,hb,k3,pl',k1,k2,fun i hi x hx=>hpk i hi x (k4 i hi x hx)⟩
   rw[h5];exact⟨h3,YaV h4⟩
 trivial
theorem Yec{S R:Type}{step:S->Option (S⊕R)}{s:S}{y:R}(h:Yuk step s=some y): ∃n,Yuv step n s=some y:=by
 unfold Yuk at h
 split at h
 ·grind
 trivial
theorem Yo8(hT:TOK T C)(hfr:FrOK Fr H0){id:Nat}{own:List (Nat×Option Nat×Bool)}{g:Sg}{outs:List Out1}{body:VCode}(hl:LsOK Fr H0 C T body){F:g.c.den->Option (Alt outs)}(hF: ∀x y,F x=some y->Yuk (YvQ T own g outs body) x=some y):
  Yud Fr H0 T.kb C (.loop body.er) ⟨id,own,g,outs,F⟩:=by
 intro x y hx s hfill q b st hs
 obtain⟨n,hn⟩:=Yec (hF x y hx)
 refine YhQ (fun m t=> ∃x s,Yuv (YvQ T own g outs body) m x=some y/\g.fill x=some s/\VS Fr H0 (T.kb,q) b s t) ⟨n,st,⟨x,s,hn,hfill,hs⟩,.refl _⟩ ?_
 rintro m t ⟨x,s,h1,h2,h3⟩
 cases m with
 |zero=>cases h1
 |succ m=>
  simp only[Yuv]at h1
  cases hst:YvQ T own g outs body x with
  |none=>simp_all
  |some q=>
   rw[hst]at h1
   unfold YvQ at hst
   rw[h2]at hst
   refine YaC hT hfr hst hl h3 (fun e s' st' g1 g2=> ?_)
   cases e with
   |nor=>
    cases hkp:YuH T.kb g.ts (ownV own s')with
    |mk vs X=>
     rw[hkp]at g1
     simp only at g1
     split at g1
     ·rename_i x' hx'
      injection g1 with g1;subst g1
      obtain⟨hb,hkb,pl,he,hr,hpk⟩:=g2
      obtain⟨st1,pl1,k1,k2,k3,k4,k8,k9⟩:=YaG (ws:=own) hb he hr
      obtain⟨pl2,k5,k6,k7,k10⟩:=YcY (env:=(ownV own s').env) (X:=(ownV own s').heap) k3 k4 (Yxy hkb k8) hkp
      exact⟨m,st1,⟨x',_,h1,YaV hx',k2,k7,pl2,k5,k6,fun i hi z hz=>hpk i hi z (k9 i (Yxw hi hkb) z (k10 i hi z hz))⟩,by omega,k1⟩
     trivial
   |exit id'=>
    simp only at g1
    split at g1
    ·rename_i y' hy'
     injection g1 with g1;subst g1
     injection h1 with h1;subst h1
     obtain⟨s2,k1,k2⟩:=Yeb hy' g2
     exact⟨s2,k1,k2⟩
    trivial
   |ret=>
    simp only at g1
    split at g1
    ·rename_i y' hy'
     injection g1 with g1;subst g1
     injection h1 with h1;subst h1
     obtain⟨s2,k1,k2⟩:=Yeb hy' g2
     exact⟨s2,k1,k2⟩
    trivial
theorem Yo9(hT:TOK T C)(hfr:FrOK Fr H0){id:Nat}{own:List (Nat×Option Nat×Bool)}{g:Sg}{outs:List Out1}{body:VCode}(hl:LsOK Fr H0 C T body){F:g.c.den->Option (Alt outs)}(hF: ∀x y,F x=some y->stepJ T g outs body x=some y):
  Yud Fr H0 T.kb C body.er ⟨id,own,g,outs,F⟩:=by
 intro x y hx s hfill q b st hs
 have h1:=hF x y hx
 unfold stepJ at h1
 rw[hfill]at h1
 exact YaC hT hfr h1 hl hs (fun e s' st' g1 g2=>Yeb g1 g2)
end
end Go.Abs
namespace Go.Abs
open Go Go.RowKit
section
variable{Fr:Nat->Prop}{H0:Heap}{X:YtI}{pl:Pl}{H:Heap}
theorem Yed(X:YtI): ∀l:List TV,TV.dats X l=l.map (TV.dat X)
 | []=>rfl
 |a::r=>by simp[TV.dats,Yed X r]
theorem Ypa(hr:HRel Fr H0 X pl H){v:TV}{a:AV}(h:TR X pl v a):YuI (v.dat X)=true->Out H a (avT (v.dat X)):=by
 have one: ∀{v:TV} {a:AV},TR X pl v a->v.dat X=v->YuI (v.dat X)=true->Out H a (avT (v.dat X)):=by
  intro v a ht e hd
  rw[e]at hd⊢
  exact YaY (YiX ht hd) (Yfw v)
 have list: ∀{cs:List TV} {as:List AV},cs.length=as.length->(∀(j:Nat) (c:TV) (a:AV),cs[j]?=some c->as[j]?=some a->YuI (c.dat X)=true->Out H a (avT (c.dat X)))->YtZ (TV.dats X cs)=true->
   as.length=(avTs (TV.dats X cs)).length/\ ∀(j:Nat) (x x':AV),as[j]?=some x->(avTs (TV.dats X cs))[j]?=some x'->Out H x x':=by
  intro cs as hl h hd
  refine⟨by simp[YbN,Yed,hl],fun j x x' h1 h2=> ?_⟩
  rw[YbN,Yed,List.map_map,YwR,YxE]at h2
  obtain⟨c,h2,rfl⟩:=h2
  refine h j c x h2 h1 (Yd1 hd j _ ?_)
  rw[Yed,YwR,h2];rfl
 induction h with
 |i k n=>exact one (.i k n) rfl
 |b x=>exact one (.b x) rfl
 |eft=>exact one .eft rfl
 |eff=>exact one .eff rfl
 |s x=>exact one (.s x) rfl
 |l c v a h=>exact one (.l c v a h) rfl
 |e c=>intro _;exact .empRd _
 |ref a x o n h hn hp=>
  intro hd
  simp only[TV.dat,h]at hd⊢
  cases o with
  |sq c l=>
   injection hn with hn;subst hn
   have:=YdZ (Fz:=fun _=>True) (h1:=fun _=>none) hr h hp trivial (Yxs _)
   rw[Yxo]at this
   trivial
  |fm hh c ver hole l=>
   cases hole with
   |some i=>cases hh<;>cases hd
   |none=>
    cases hh with
    |mp o n=>cases hn
    |rw A nn=>
    injection hn with hn;subst hn
    have:=Yd0 (Fz:=fun _=>True) (h1:=fun _=>none) hr h hp (fun _ _ _ _=>trivial) (Yxs _)
    rw[Yxo]at this
    exact this
  |st cs=>cases hd
  |sb s=>
   injection hn with hn;subst hn
   exact YiT (Fz:=fun _=>True) (h1:=fun _=>none) hr h hp trivial
 |pre a x m o n h hn hp h0 hm=>
  intro hd
  simp only[TV.dat,h]at hd⊢
  cases o with
  |sq c l=>
   injection hn with hn;subst hn
   exact YdZ (Fz:=fun _=>True) (h1:=fun _=>none) hr h hp trivial hm
  |fm hh c ver hole l=>
   cases hole with
   |some i=>cases hh<;>cases hd
   |none=>
    cases hh with
    |mp o n=>cases hn
    |rw A nn=>
    injection hn with hn;subst hn
    exact Yd0 (Fz:=fun _=>True) (h1:=fun _=>none) hr h hp (fun _ _ _ _=>trivial) hm
  |st cs=>cases hd
  |sb s=>cases hd
 |refD a av h ha=>intro hd;simp only[TV.dat,h]at hd;cases hd
 |preD a x m h ha h0=>intro hd;simp only[TV.dat,h]at hd;cases hd
 |ag cs as hl h ih=>
  intro hd
  have:=list hl ih hd
  exact .agg _ _ this.1 this.2
 |tp cs as hl h ih=>
  intro hd
  have:=list hl ih hd
  exact .tup _ _ this.1 this.2
 |clo g cs as hl h ih=>
  intro hd
  have:=list hl ih hd
  exact .clo g _ _ this.1 this.2
 |_=>intro hd;cases hd
theorem YfM{s:VSt}{st:ASt}(he:ERel s.heap pl s.env st.env)(hr:HRel Fr H0 s.heap pl st.heap): ∀{rs:List RV} {vs:List TV},Yvr s rs=some vs-> ∃as,YuF st rs as/\CT s.heap pl vs as
 | [],vs,h=>by injection h with h;subst h;exact⟨[],trivial,.nil⟩
 |r::rs,vs,h=>by
  simp only[Yvr]at h
  split at h
  ·rename_i v vs' h1 h2
   injection h with h;subst h
   obtain⟨as,k1,k2⟩:=YfM he hr h2
   cases r with
   |t n=>
    injection h1 with h1;subst h1
    exact⟨_::as,⟨rfl,k1⟩,.cons (he n) k2⟩
   |c n g sz=>
    simp only[YwF]at h1
    have hx:TR s.heap pl (YtT s.env n) (opd st.env (.t n)):=he n
    have key: ∃va,evG (.load g sz (.t n)) st.env (hf st.heap) 0 (fun v' _=>v'=va)/\TR s.heap pl v va:=by
     have:=Yil (KA:=fun va=>TR s.heap pl v va) h1 hx hr (fun w wa e1 e2=>by simp_all)
     have hev:evG (.load g sz (.t n)) st.env (hf st.heap) 0 (fun va _=>TR s.heap pl v va):=this
     obtain⟨va,us,g1,g2⟩:=Yhn _ _ _ _ _ hev
     refine⟨va,?_,g1⟩
     simp only[evG,opK]at g2⊢
     revert g2
     generalize opd st.env (.t n)=p
     intro g2
     have lm: ∀{cs:List AV},Yul g sz cs (fun a=>a=va/\ ([]:List Upd)=us)->Yul g sz cs (fun a=>a=va):=fun h=>by
      cases g with
      |true=>exact⟨h.1,h.2.1⟩
      |false=>obtain⟨c,h1,h2,_⟩:=h;exact⟨c,h1,h2⟩
     split at g2<;>first|exact lm g2|skip
     ·obtain⟨o,ho,e,he',hl⟩:=g2;exact⟨o,ho,e,he',lm hl⟩
     trivial
    obtain⟨va,g1,g2⟩:=key
    exact⟨va::as,⟨g1,k1⟩,.cons g2 k2⟩
  trivial
theorem Yjr{vs:List TV}{as:List AV}(h:CT X pl vs as):TR X pl (tupV vs) (tupR as):=by
 match vs,as,h with
 | [],as,h=>
   have:=h.1
   cases as with
   |nil=>exact .tp _ _ rfl (fun j c a h=>by simp)
   |cons _ _=>trivial
 | [v],as,h=>
   obtain⟨a,r,rfl,h1,h2⟩:=h.inv
   have:=h2.1
   cases r with
   |nil=>exact h1
   |cons _ _=>trivial
 |v::w::r,as,h=>
  have hl:=h.1
  match as,hl with
  |a::b::r',_=>exact .tp _ _ h.1 h.2
theorem Yjs: ∀(i:Nat) (vs:List TV),YtZ vs=true->ERel X pl (zipE (List.range' i vs.length) vs) (Yuf i (avTs vs))
 |i,[],_=>fun t=>.u _
 |i,v::vs,h=>by
  simp only[YtZ,YxL]at h
  intro t
  simp only[Yxe,List.range'_succ,zipE,avTs,Yuf,YtT,YtM]
  have e0:(i==t)=Yxr i t:=by rw[YxN,beq_iff_eq,Nat.beq_eq]
  rw[e0]
  cases Yxr i t with
  |true=>exact Yfy v h.1
  |false=>exact Yjs (i+1) vs h.2 t
theorem Ypb(k:Nat):HRel (fun _=>False) [] [] (fun _=>none) (Z k []):=
 ⟨fun a o h=>(by cases h),fun p q x h=>(by cases h),fun p x h=>(by cases h),fun x h=>h.elim,fun p x h=>(by cases h),Yxz _⟩
theorem Yee: ∀{vs:List TV} {svs:List SV},TV.shs vs=some svs->svs.length=vs.length
 | [],svs,h=>by simp only[TV.shs]at h;simp_all
 |a::vs,svs,h=>by
  simp only[TV.shs]at h
  split at h
  ·rename_i x xs h1 h2;injection h with h;subst h;simp[Yee h2]
  trivial
theorem Ypc(vs:List TV):(avTs vs).length=vs.length:=by simp[YbN]
theorem Ypd{sv:SV}{c:Cs}{v:TV}{y:c.den}(h:Yv1 sv c v=some y):YtU sv (unp c y)=some (v,[]):=by
 unfold Yv1 at h
 split at h
 ·rename_i sv' hs
  obtain⟨h1,h2⟩:=Yaa h
  have e1:=SV.eq_of h1
  have hu:=YdU v.lv
  generalize Yut v.lv=p at h2 hu
  obtain⟨c',z⟩:=p
  obtain⟨e,he⟩:=Cs.cast_some h2
  have hx:unp c y=v.lv:=by
   grind
  have:=Yfp [] hs
  simp_all
 trivial
def Yue(P:Program)(fm:FM)(T:Tabs):Prop:= ∃C:Ctx,CtxOK P fm C/\TOK T C
theorem Ype(P:Program)(fm:FM)(pf:Nat->Bool)(ls:List LpE):Yue P fm ⟨pf,[],ls,0⟩:=
 ⟨YwA pf [],Ynr P fm pf,⟨rfl,fun e h=>by cases h⟩,fun e h=>by cases h⟩
def Yum(C:Ctx)(g:Nat)(R:Yt0):Ctx:=⟨fun h args H r H'=>C.C h args H r H'\/(h=g/\R args H r H'),C.pf⟩
theorem Ybs{P:Program}{fm:FM}{C:Ctx}{g:Nat}{R:Yt0}(h:CtxOK P fm C)(hp:C.pf g=true->Pure R)(hf: ∀f,fm f=g->FOK P fm f R):CtxOK P fm (Yum C g R):=by
 refine⟨fun f args H r H' hc=> ?_,fun f args H r H' hp' hc=> ?_,fun f args r n hp' hc=> ?_⟩
 ·rcases hc with hc| ⟨e,hc⟩
  ·exact h.ok f args H r H' hc
  ·exact hf f e args H r H' hc
 ·rcases hc with hc| ⟨e,hc⟩
  ·exact h.nr f args H r H' hp' hc
  ·exact(hp (e▸hp')).nr _ _ _ _ hc
 ·rcases hc with hc| ⟨e,hc⟩
  ·exact .inl (h.any f args r n hp' hc)
  ·exact .inr ⟨e,(hp (e▸hp')).any _ _ _ hc⟩
theorem Ycg{T:Tabs}{C:Ctx}(h:TOK T C){e:FnE}{R:Yt0}(hR:T.pf e.g=true-> ∀args r,e.R args r->R args [] r [])(hI:T.pf e.g=false-> ∀args H r H',e.RI args H r H'->R args H r H'):TOK ⟨T.pf,e::T.fs,T.ls,0⟩ (Yum C e.g R):=by
 refine⟨⟨h.p.pf,fun e' he' hp args r hr=> ?_⟩,fun e' he' hp args H r H' hr=> ?_⟩
 ·rcases Yw2.1 he' with rfl|he'
  ·exact .inr ⟨rfl,hR hp _ _ hr⟩
  ·exact .inl (h.p.fn e' he' hp args r hr)
 ·rcases Yw2.1 he' with rfl|he'
  ·exact .inr ⟨rfl,hI hp _ _ _ _ hr⟩
  ·exact .inl (h.fnI e' he' hp args H r H' hr)
theorem Ypf{e:FnE}{args:List AV}{r:AV}(hr:e.R args r):YuO e.R args [] r []:=by
 refine⟨0,rfl,rfl,?_,?_,hr⟩
 ·obtain⟨x,y,vs,v,h1,h2,h3,rfl,h5,h6,rfl⟩:=hr
  exact fun a ha=>Ycb vs a ha
 ·obtain⟨x,y,vs,v,h1,h2,h3,rfl,h5,h6,rfl⟩:=hr
  exact Yfw v
theorem YfN{T:Tabs}{C:Ctx}(h:TOK T C){e:FnE}(hp:T.pf e.g=true):TOK ⟨T.pf,e::T.fs,T.ls,0⟩ (Yum C e.g (YuO e.R)):=
 Ycg h (fun _ _ _ hr=>Ypf hr) (fun hq=>by simp_all)
theorem Ypg{P:Program}{fm:FM}{T:Tabs}{C:Ctx}(hC:CtxOK P fm C)(hT:TOK T C)(hm:P.follows .mixedOrders=true){e:FnE}{F:VFn}{f:FuncId}
  (htie:fnTr P fm T.pf f=some (F.slots,F.res,F.code.er)) (h4:F.res.length<=4) (hts:e.args.ts=List.range' 0 e.args.vs.length) (hsl:e.args.vs.length<=F.slots)
  (hkb:T.kb=0) (hl:LsOK (fun _=>False) [] C T F.code) (hF: ∀x y,e.F x=some y->evP T F e.args e.res e.co x=some y):FOK P fm f (YuO e.R):=by
 refine Ynp hC hm (by rw[hT.p.pf];exact htie) h4 ?_
 rintro args r ⟨x,y,vs,v,h1,h2,h3,rfl,h5,h6,rfl⟩
 have hlen:e.args.vs.length=vs.length:=by
  unfold Sg.read at h2
  split at h2
  ·rename_i svs sos k1 k2
   obtain⟨e1,_⟩:=Yaa h2
   simp at e1
   rw[<-SV.eqs_of e1.1,Yee k1]
  trivial
 refine⟨by rw[Ypc,<-hlen];omega,fun k=> ?_⟩
 have hev:=hF x y h1
 unfold evP at hev
 rw[YaV h2]at hev
 have hvs:VS (fun _=>False) [] (T.kb,fun _=>none) k ⟨zipE e.args.ts vs,[]⟩ ⟨Yuf 0 (avTs vs),Z k [],k⟩:=by
  refine⟨rfl,by omega,fun _=>none,?_,Ypb k,fun i hi x hx=>by cases hx⟩
  rw[hts,hlen];exact Yjs 0 vs h3
 refine YaC hT frNo hev hl hvs (fun ex s' st' g1 g2=> ?_)
 have post:(match Yvr s' F.res with|some vs=>Yv1 e.res e.co ((tupV vs).dat s'.heap)|none=>none)=some y->st'.base=k/\ ∃vs,YuF st' F.res vs/\Out st'.heap (tupR vs) (avT v):=by
  intro g1
  split at g1
  ·rename_i ws hws
   obtain⟨hb,_,pl,he,hr,_⟩:=g2
   obtain⟨as,k1,k2⟩:=YfM he hr hws
   have hfill:=Ypd g1
   rw[h5]at hfill
   injection hfill with hfill;injection hfill with hfill _
   refine⟨hb,as,k1,?_⟩
   rw[hfill]
   exact Ypa hr (Yjr k2) (by simp_all)
  trivial
 cases ex with
 |exit id=>cases g1
 |nor=>exact post g1
 |ret=>exact post g1
theorem Yph{P:Program}{fm:FM}{T:Tabs}(hS:Yue P fm T)(hm:P.follows .mixedOrders=true)(L:List LpE)(e:FnE)(hp:T.pf e.g=true)(F:VFn)
  (htie: ∀f,fm f=e.g->fnTr P fm T.pf f=some (F.slots,F.res,F.code.er)) (h4:F.res.length<=4) (hts:e.args.ts=List.range' 0 e.args.vs.length) (hsl:e.args.vs.length<=F.slots)
  (hl: ∀C,TOK ⟨T.pf,T.fs,L,0⟩ C->LsOK (fun _=>False) [] C ⟨T.pf,T.fs,L,0⟩ F.code) (hF: ∀x y,e.F x=some y->evP ⟨T.pf,T.fs,L,0⟩ F e.args e.res e.co x=some y):Yue P fm ⟨T.pf,e::T.fs,T.ls,0⟩:=by
 obtain⟨C,hC,hT⟩:=hS
 have hT':TOK ⟨T.pf,T.fs,L,0⟩ C:=⟨⟨hT.p.pf,hT.p.fn⟩,hT.fnI⟩
 exact⟨Yum C e.g (YuO e.R),Ybs hC (fun _=>Yfc _) (fun f hf=>Ypg hC hT' hm (htie f hf) h4 hts hsl rfl (hl C hT') hF),YfN hT hp⟩
theorem Ypi{P:Program}{fm:FM}{T:Tabs}(hS:Yue P fm T){e:FnE}(he:e∈T.fs)(hp:T.pf e.g=true){f:FuncId}(hf:fm f=e.g){args:List AV}{r:AV}(h:e.R args r){W:World}{vals:Array Value}(hsz:vals.size=args.length)
  (hv: ∀j a,args[j]?=some a->VR fm W Yug (vals.getD j undef) a) (htb:TabW fm W):Calls P f vals W fun ex W'=> ∃v,ex= .returned v/\Keep Yug W W'/\ ∃L',VR fm W' L' v r:=by
 obtain⟨C,hC,hT⟩:=hS
 have h1:=hT.p.fn e he hp args r h
 rw[<-hf]at h1
 obtain⟨_,h2⟩:=hC.ok f args [] r [] h1
 refine(h2 W Yug vals (Ynt fm W htb) hsz hv).mono ?_
 grind
end
end Go.Abs
namespace Go.Abs
open Go Go.RowKit
theorem Ypj{sv:SV}{os:List SO}{c:Cs}{v:TV}{X:YtI}{y:c.den}(h:Yv2 sv os c v X=some y):YtU sv (unp c y)=some (v,lvOs X)/\Yt8 os (lvOs X)=some (X,[]):=by
 unfold Yv2 at h
 split at h
 ·rename_i sv' os' h1 h2
  obtain⟨e1,e2⟩:=Yaa h
  simp at e1
  have q1:=SV.eq_of e1.1;have q2:=SO.eqs_of e1.2
  have hu:=YdU (v.lv++lvOs X)
  generalize Yut (v.lv++lvOs X)=p at e2 hu
  obtain⟨c',z⟩:=p
  obtain⟨e,he⟩:=Cs.cast_some e2
  have hx:unp c y=v.lv++lvOs X:=by
   grind
  subst q1;subst q2
  refine⟨by rw[hx];exact Yfp _ h1,?_⟩
  have:=YdT [] h2
  simp_all
 trivial
section
variable{Fr:Nat->Prop}{H0:Heap}{X:YtI}{pl:Pl}{H:Heap}
theorem Yjt: ∀(i:Nat) (vs:List TV) (as:List AV),CT X pl vs as->ERel X pl (zipE (List.range' i vs.length) vs) (Yuf i as)
 |i,[],as,_=>fun t=>.u _
 |i,v::vs,as,h=>by
  obtain⟨a,r,rfl,h1,h2⟩:=h.inv
  intro t
  simp only[Yxe,List.range'_succ,zipE,Yuf,YtT,YtM]
  have e0:(i==t)=Yxr i t:=by rw[YxN,beq_iff_eq,Nat.beq_eq]
  rw[e0]
  cases Yxr i t with
  |true=>exact h1
  |false=>exact Yjt (i+1) vs r h2 t
theorem Yju{m:List Nat}{q:Pl}{ρ:Nat->Nat}{H':HF}{X2:YtI}
  (look: ∀{b i o},idxV m b 0=some i->vget X b=some o-> ∀{x},pl (.m b)=some x->vget X2 i=some (o.ren fun a=>idxV m a 0)/\ ∃z,q (.m i)=some z/\ρ z=x/\ ∃o',H' z=some (some o'))
  (dead: ∀{b i},idxV m b 0=some i->vget X b=none->vget X2 i=none) {tv:TV} {av:AV} (h:TR X pl tv av):
  wfT X2 (tv.ren fun a=>idxV m a 0)=true->Cz ρ (fun _=>False) (hf H) H' av (encT X2 q (tv.ren fun a=>idxV m a 0)):=by
 have hn: ∀(o:VObj),lenO (o.ren fun a=>idxV m a 0)=lenO o/\elN (o.ren fun a=>idxV m a 0)=elN o:=Yb9 _
 have list: ∀{cs:List TV} {as:List AV},cs.length=as.length->(∀(j:Nat) (c:TV) (a:AV),cs[j]?=some c->as[j]?=some a->wfT X2 (c.ren fun a=>idxV m a 0)=true->Cz ρ (fun _=>False) (hf H) H' a (encT X2 q (c.ren fun a=>idxV m a 0)))->wfTs X2 (TV.rens (fun a=>idxV m a 0) cs)=true->
   as.length=(YuS X2 q (TV.rens (fun a=>idxV m a 0) cs)).length/\ ∀(j:Nat) (x x':AV),as[j]?=some x->(YuS X2 q (TV.rens (fun a=>idxV m a 0) cs))[j]?=some x'->Cz ρ (fun _=>False) (hf H) H' x x':=by
  intro cs as hl h hd
  refine⟨by simp[YfA,Yao,hl],fun j x x' h1 h2=> ?_⟩
  rw[YfA,Yao,List.map_map,YwR,YxE]at h2
  obtain⟨c,h2,rfl⟩:=h2
  refine h j c x h2 h1 ?_
  have wf: ∀{l:List TV} {j:Nat} {c:TV},wfTs X2 l=true->l[j]?=some c->wfT X2 c=true:=by
   intro l
   induction l with
   |nil=>simp
   |cons a l ih=>
    intro j c hw hj
    simp only[wfTs,YxL]at hw
    grind
  refine wf hd (j:=j) ?_
  rw[Yao,YwR,h2];rfl
 induction h with
 |i k n=>intro _;exact .v _
 |b x=>intro _;exact .v _
 |s x=>intro _;exact .v _
 |l c v a h=>intro _;exact YaY h (YcL (.l c) v)
 |e c=>intro hw;exact .emp
 |u a=>intro _;exact .u _
 |v x=>intro _;exact .u _
 |nl=>intro _;exact .v _
 |eft=>intro _;exact .er
 |eff=>intro _;exact .v _
 |ref a x o n h hl hp=>
  intro hw
  simp only[TV.ren]at hw⊢
  split
  ·rename_i i hi
   obtain⟨h1,z,h2,rfl,o',h3⟩:=look hi h hp
   have hs:seqN X2 i=n:=by simp only[seqN,h1,(hn o).1,hl,YxI]
   simp only[encT,h2,hs]
   exact .ref z 0 n o' h3
  ·exact .u _
 |refD a av h ha=>
  intro hw
  simp only[TV.ren]at hw⊢
  split
  ·rename_i i hi
   simp only[hi,wfT,dead hi h]at hw;cases hw
  ·exact .u _
 |pre a x k o n h hl hp h0 hm=>
  intro hw
  simp only[TV.ren]at hw⊢
  split
  ·rename_i i hi;simp only[hi,wfT]at hw;cases hw
  ·exact .u _
 |preD a k av h ha=>
  intro hw
  simp only[TV.ren]at hw⊢
  split
  ·rename_i i hi;simp only[hi,wfT]at hw;cases hw
  ·exact .u _
 |ptr a i j x o h hi hp=>
  intro hw
  simp only[TV.ren]at hw⊢
  split
  ·rename_i b hb
   obtain⟨h1,z,h2,rfl,o',h3⟩:=look hb h hp
   simp only[encT,h2]
   exact .ptr z i j o' h3
  ·exact .u _
 |ptrD a i j av h ha=>
  intro hw
  simp only[TV.ren]at hw⊢
  split
  ·rename_i b hb
   simp only[hb,wfT,dead hb h,Bool.and_false]at hw;cases hw
  ·exact .u _
 |np a x o h hp=>
  intro hw
  simp only[TV.ren]at hw⊢
  split
  ·rename_i b hb
   obtain⟨h1,z,h2,rfl,o',h3⟩:=look hb h hp
   simp only[encT,h2]
   exact .np z o' h3
  ·exact .u _
 |npD a av h ha=>
  intro hw
  simp only[TV.ren]at hw⊢
  split
  ·rename_i b hb
   simp only[hb,wfT,dead hb h]at hw;cases hw
  ·exact .u _
 |ag cs as hl h ih=>
  intro hw
  have:=list hl ih hw
  exact .agg _ _ this.1 this.2
 |tp cs as hl h ih=>
  intro hw
  have:=list hl ih hw
  exact .tup _ _ this.1 this.2
 |clo g cs as hl h ih=>
  intro hw
  have:=list hl ih hw
  exact .clo g _ _ this.1 this.2
 |_=>intro _;exact .u _
theorem YfO: ∀{X:YtI} {so:List SO},shOs X=some so->so.length=X.length
 | [],so,h=>by simp only[shOs]at h;simp_all
 |none::X,so,h=>by
  simp only[shOs]at h
  split at h
  ·rename_i xs h2;injection h with h;subst h;simp[YfO h2]
  trivial
 |some o::X,so,h=>by
  simp only[shOs]at h
  split at h
  ·rename_i x xs h1 h2;injection h with h;subst h;simp[YfO h2]
  trivial
theorem getElem?_pre{l m:List Nat}(h:l<+:m){i:Nat}(hi:i<l.length):m[i]?=l[i]?:=by
 obtain⟨r,rfl⟩:=h
 grind
def actP(m:List Nat)(ph:Pl):Pos->Option Nat
 | .m i=>match m[i]? with|some b=>ph (.m b)|none=>none
 | .n i k=>match m[i]? with|some b=>ph (.n b k)|none=>none
theorem YfP{Kp:Nat->Prop}{Xs:YtI}{pls:Pl}{Xh:YtI}{ph:Pl}{s:ASt}{v:TV}{a:AV}{m:List Nat}(hrs:HRel Kp H Xs pls H)(hfr:FrOK Kp H)(hr:HRel Kp H Xh ph s.heap)(hb:s.base=H.length)(hk:Xs.length<=Xh.length)
  (hpk: ∀i,i<Xs.length-> ∀x,ph (.m i)=some x->pls (.m i)=some x) (hnd:m.Nodup) (hpre:List.range Xs.length<+:m) (ht:TR Xh ph v a)
  (hw:wfT (renX Xh m) (v.ren fun a=>idxV m a 0)=true) (hX:wfX (renX Xh m) (renX Xh m)=true):
  Fin s a (encT (renX Xh m) (plI pls Xs.length H.length (renX Xh m)) (v.ren fun a=>idxV m a 0)) (Yub Kp H Xs.length (renX Xh m) (plI pls Xs.length H.length (renX Xh m))):=by
 classical
 have hlm:Xs.length<=m.length:=by simpa using hpre.length_le
 have hlX:(renX Xh m).length=m.length:=by simp[renX]
 have hlen:Xs.length<=(renX Xh m).length:=by omega
 let ρ:Nat->Nat:=fun z=>if z<H.length then z else if h: ∃p,plI pls Xs.length H.length (renX Xh m) p=some z then(actP m ph (Classical.choose h)).getD z else z
 have hlow: ∀z,z<H.length->ρ z=z:=fun z hz=>by simp only[ρ,if_pos hz]
 have hm1: ∀{i},i<Xs.length->m[i]?=some i:=fun{i} hi=>by
  rw[getElem?_pre hpre (by simpa using hi),Yxb hi]
 have hrho: ∀{p:Pos} {z x:Nat},H.length<=z->plI pls Xs.length H.length (renX Xh m) p=some z->actP m ph p=some x->ρ z=x:=by
  intro p z x h0 h1 h2
  have hex: ∃p,plI pls Xs.length H.length (renX Xh m) p=some z:=⟨p,h1⟩
  have:=Yd2 (Xs:=Xs) hrs (Classical.choose_spec hex) h1
  simp only[ρ,if_neg (show¬z<H.length by omega),dif_pos hex]
  rw[this,h2];rfl
 have src: ∀{i o},vget (renX Xh m) i=some o-> ∃b ob x,m[i]?=some b/\vget Xh b=some ob/\o=ob.ren (fun a=>idxV m a 0)/\ph (.m b)=some x/\ ∃z,plI pls Xs.length H.length (renX Xh m) (.m i)=some z/\ρ z=x:=by
  intro i o ho
  have ho':=ho
  rw[YdV]at ho'
  cases hb:m[i]? with
  |none=>rw[hb]at ho';cases ho'
  |some b=>
   rw[hb]at ho'
   simp at ho'
   obtain⟨ob,hob,rfl⟩:=ho'
   obtain⟨x,hx⟩:=Ywe hr hob
   refine⟨b,ob,x,rfl,hob,rfl,hx,?_⟩
   by_cases hi:i<Xs.length
   ·have:=hm1 hi;rw[hb]at this;injection this with this;subst this
    have hz:=hpk b hi x hx
    exact⟨x,by simp only[plI,ho,if_pos hi];exact hz,hlow x (hrs.bd hz)⟩
   ·have hz:plI pls Xs.length H.length (renX Xh m) (.m i)=some (H.length+(i-Xs.length)):=by simp only[plI,ho,if_neg hi]
    exact⟨_,hz,hrho (by omega) hz (by simp only[actP,hb];exact hx)⟩
 have srcN: ∀{i k z},plI pls Xs.length H.length (renX Xh m) (.n i k)=some z-> ∃b hd c v l y el',m[i]?=some b/\vget Xh b=some (.fm hd c v none l)/\vget (renX Xh m) i=some (.fm hd c 0 none l)/\k<l.length/\ph (.n b k)=some y/\ρ z=y/\
   s.heap[y]?=some (some ⟨c.width,el'⟩)/\Rows el' c (owI hd c l k):=by
  intro i k z hz
  obtain⟨h1,h2,h3⟩:=Ybe hz
  cases ho:vget (renX Xh m) i with
  |none=>rw[ho]at h1;exact absurd h1 (Nat.not_lt_zero _)
  |some o=>
   rw[ho]at h1
   obtain⟨b,ob,x,g1,g2,g3,g4,_⟩:=src ho
   rcases Ycd hX ho with⟨_,_,e,_⟩| ⟨_,e,_⟩| ⟨_,e⟩| ⟨hd,c,v,l,e,h0,hnn⟩
   ·subst e;exact absurd h1 (Nat.not_lt_zero _)
   ·subst e;exact absurd h1 (Nat.not_lt_zero _)
   ·subst e;exact absurd h1 (Nat.not_lt_zero _)
   ·subst e
    cases ob with
    |fm hd' c' v' h' l'=>
     simp only[VObj.ren]at g3
     injection g3 with e0 e1 e2 e3 e4
     subst e0;subst e1;subst e2;subst e3
     have e4:=eq_of_heq e4;subst e4
     obtain⟨x',el,q1,q2,q3,q4,q6⟩:=hr.obj b _ g2
     have hk:k<l.length:=h1
     obtain⟨d,r,_,_,qq⟩:=YaT (q6 k _ _ (YwO (by omega:k<el.length)) (YaA hk)) (by simp)
     rcases qq with⟨y,el',f1,f2,f3,f4⟩| ⟨f0,_⟩
     ·exact⟨b,hd,c,v',l,y,el',g1,g2,rfl,hk,f1,hrho (by omega) hz (by simp only[actP,g1];exact f1),f3,f4⟩
     ·rw[hnn]at f0;cases f0
    |_=>cases g3
 have hat:=fun{p:Pos} {x:Nat}=>YfC (Xs:=Xs) hrs hlen (p:=p) (x:=x)
 have hkp:=fun{x:Nat}=>Yd3 (Xs:=Xs) hrs (X2:=renX Xh m) (x:=x)
 have hqi:=fun{p q:Pos} {x:Nat}=>Yd2 (Xs:=Xs) hrs (X2:=renX Xh m) (p:=p) (q:=q) (x:=x)
 have hqv: ∀{i x},plI pls Xs.length H.length (renX Xh m) (.m i)=some x-> ∃o,vget (renX Xh m) i=some o:=fun h=>Yi2 h
 have hqm: ∀{i k},k<memN (vget (renX Xh m) i)-> ∃x,plI pls Xs.length H.length (renX Xh m) (.n i k)=some x:=fun{i k} h=>⟨H.length+((renX Xh m).length-Xs.length)+(offN (renX Xh m) i+k),by simp only[plI];rw[if_pos h]⟩
 have hHl:=Yc2 Kp H Xs.length (renX Xh m) (plI pls Xs.length H.length (renX Xh m))
 have hinv:=fun{x:Nat} {o:AObj}=>Yi3 (Kp:=Kp) (H:=H) (Xs:=Xs) (pls:=pls) (X2:=renX Xh m) (x:=x) (o:=o)
 clear_value ρ
 generalize hH':Yub Kp H Xs.length (renX Xh m) (plI pls Xs.length H.length (renX Xh m))=H' at hat hkp hHl hinv⊢
 generalize hq:plI pls Xs.length H.length (renX Xh m)=q at hat hqi hqv hqm hinv src srcN⊢
 have look: ∀{b i o},idxV m b 0=some i->vget Xh b=some o-> ∀{x},ph (.m b)=some x->vget (renX Xh m) i=some (o.ren fun a=>idxV m a 0)/\ ∃z,q (.m i)=some z/\ρ z=x/\ ∃o',hf H' z=some (some o'):=by
  intro b i o hi ho x hx
  have hmi:=(Yb7 hi).2
  simp only[Nat.sub_zero]at hmi
  have hv:vget (renX Xh m) i=some (o.ren fun a=>idxV m a 0):=by rw[Yb8 hmi,ho];rfl
  obtain⟨b',ob,x',h1,h2,h3,h4,z,h5,h6⟩:=src hv
  rw[hmi]at h1;injection h1 with h1;subst h1
  rw[hx]at h4;injection h4 with h4;subst h4
  exact⟨hv,z,h5,h6,_,hat h5⟩
 have dead: ∀{b i},idxV m b 0=some i->vget Xh b=none->vget (renX Xh m) i=none:=by
  intro b i hi ho
  have hmi:=(Yb7 hi).2
  simp only[Nat.sub_zero]at hmi
  rw[Yb8 hmi,ho];rfl
 have keepA: ∀x,Kp x->ρ x=x/\ ∃o,hf H' x=some (some o):=fun x hx=>by
  obtain⟨⟨o,ho⟩,_⟩:=hfr x hx
  exact⟨hlow x (hrs.fr x hx).1,o,(hkp hx).trans ho⟩
 have srcP: ∀{p:Pos} {z},q p=some z-> ∃p':Pos,ph p'=some (ρ z)/\ ∀{p2:Pos} {z2},q p2=some z2->ρ z=ρ z2->p=p2:=by
  have one: ∀{p:Pos} {z},q p=some z-> ∃i b,m[i]?=some b/\ ((p= .m i/\ph (.m b)=some (ρ z))\/ ∃k,p= .n i k/\ph (.n b k)=some (ρ z)):=by
   intro p z hz
   cases p with
   |m i=>
    obtain⟨o,ho⟩:=hqv hz
    obtain⟨b,ob,x,g1,g2,g3,g4,z',g5,g6⟩:=src ho
    rw[hz]at g5;injection g5 with g5;subst g5
    exact⟨i,b,g1,.inl ⟨rfl,by rw[g6];exact g4⟩⟩
   |n i k=>
    obtain⟨b,hd,c,v,l,y,el',g1,_,_,_,g2,g3,_⟩:=srcN hz
    exact⟨i,b,g1,.inr ⟨k,rfl,by rw[g3];exact g2⟩⟩
  intro p z hz
  obtain⟨i,b,g1,g2⟩:=one hz
  have inj: ∀{i j b:Nat},m[i]?=some b->m[j]?=some b->i=j:=fun h1 h2=>by
   have:=Yd7 hnd h1;rw[Yd7 hnd h2]at this;injection this with this;exact this.symm
  rcases g2 with⟨rfl,g3⟩| ⟨k,rfl,g3⟩
  ·refine⟨_,g3,fun{p2 z2} hz2 he=> ?_⟩
   obtain⟨i2,b2,f1,f2⟩:=one hz2
   rw[he]at g3
   rcases f2 with⟨rfl,f3⟩| ⟨k2,rfl,f3⟩
   ·have:=hr.inj _ _ _ g3 f3;injection this with this;subst this;rw[inj g1 f1]
   ·have:=hr.inj _ _ _ g3 f3;cases this
  ·refine⟨_,g3,fun{p2 z2} hz2 he=> ?_⟩
   obtain⟨i2,b2,f1,f2⟩:=one hz2
   rw[he]at g3
   rcases f2 with⟨rfl,f3⟩| ⟨k2,rfl,f3⟩
   ·have:=hr.inj _ _ _ g3 f3;cases this
   ·have:=hr.inj _ _ _ g3 f3;injection this with this t2;subst this;subst t2;rw[inj g1 f1]
 have rows: ∀{i b:Nat} {hd:Hd} {c:Cs} {v0:Nat} {l:List (sn c hd.A).den} {el:List (List AV)},vget (renX Xh m) i=some (.fm hd c 0 none l)->m[i]?=some b->vget Xh b=some (.fm hd c v0 none l)->hd.nn=true->el.length=l.length->(∀(i:Nat) (e:List AV) (v:(sn c hd.A).den),el[i]?=some e->l[i]?=some v->ElR ph s.heap b hd c none i e v)->
   ∀(k:Nat) (e e':List AV),el[k]?=some e->(encR q i hd c l)[k]?=some e'->e.length=e'.length/\ ∀(j:Nat) (x x':AV),e[j]?=some x->e'[j]?=some x'->Cz ρ (fun _=>False) (hf s.heap) (hf H') x x':=by
  intro i b hd c v0 l el ho hmi hob hnn hel h6 k e e' h1 h2
  have hkl:k<l.length:=by rw[<-hel];exact(YwP.1 h1).1
  unfold encR at h2
  rw[YwR,Yxb hkl,YxF]at h2;injection h2 with h2;subst h2
  obtain⟨d,r,rfl,q2,q3⟩:=YaT (h6 k e _ h1 (YaA hkl)) (by simp)
  have hdl:=q2.1
  refine⟨by simp only[Yxl,Yxn];rw[hdl];rfl,fun j x x' h3 h4=> ?_⟩
  by_cases hj:j<d.length
  ·rw[YwU hj]at h3
   rw[YwU (show j< (hd.A.enc (daI hd c l k)).length by rw[show(hd.A.enc (daI hd c l k)).length=d.length from hdl.symm];exact hj)]at h4
   exact YaY (q2.2 j x x' h3 h4) (YaL hd.A _ x' (YwQ h4))
  ·have hdl':(hd.A.enc (daI hd c l k)).length=d.length:=hdl.symm
   rw[Yw0 (by omega)]at h3
   rw[Yw0 (by omega),hdl']at h4
   have hj0:j-d.length=0:=by
    have:=(YwP.1 h3).1
    simp at this;omega
   rw[hj0]at h3 h4
   injection h3 with h3;injection h4 with h4;subst h3;subst h4
   obtain⟨z,hz⟩:=hqm (i:=i) (k:=k) (by rw[ho];exact hkl)
   obtain⟨b2,hd2,c2,v2,l2,y,el',g1,g2,g3,g4,g5,g6,g7,g8⟩:=srcN hz
   rw[hmi]at g1;injection g1 with g1;subst g1
   rcases q3 with⟨y2,el2,f1,f2,_⟩| ⟨f0,_⟩
   ·rw[g5]at f1;injection f1 with f1;subst f1
    rw[f2,hz]
    have:=Cz.ref (ρ:=ρ) (Fz:=fun _=>False) (H:=hf s.heap) (H':=hf H') z 0 (owI hd c l k).length _ (hat hz)
    rw[g6]at this
    exact this
   ·rw[hnn]at f0;cases f0
 refine YhU ρ (fun _=>False) ⟨fun a b o o' h1 h2 he=> ?_,fun a ha=>⟨hlow a (by omega),fun _=> ?_⟩,fun a o' ho=>⟨fun h=>h,?_⟩⟩ (Yju look dead ht hw)
 ·rcases hinv h1 with⟨k1,_⟩| ⟨i,k1,_⟩<;>rcases hinv h2 with⟨k2,_⟩| ⟨j,k2,_⟩
  ·rw[(keepA a k1).1,(keepA b k2).1]at he;exact he
  ·obtain⟨p',g1,_⟩:=srcP k2
   rw[(keepA a k1).1]at he
   exact absurd (he▸k1) (hr.nfr _ _ g1)
  ·obtain⟨p',g1,_⟩:=srcP k1
   rw[(keepA b k2).1]at he
   exact absurd (he▸k2) (hr.nfr _ _ g1)
  ·obtain⟨p',g1,g2⟩:=srcP k1
   have:=g2 k2 he;subst this
   rw[k1]at k2;injection k2
 ·show H'[a]?≠none
  rw[YwO (by rw[hHl];omega)];simp
 ·rcases hinv ho with⟨k1,k2⟩| ⟨p,k1,k2⟩
  ·refine⟨o',?_,rfl,rfl,fun j e e' h1 h2=> ?_⟩
   ·show s.heap[ρ a]?=_
    rw[(keepA a k1).1,(hr.fr a k1).2];exact k2
   ·rw[h1]at h2;injection h2 with h2;subst h2
    refine⟨rfl,fun j x x' h3 h4=> ?_⟩
    rw[h3]at h4;injection h4 with h4;subst h4
    exact Yfv keepA ((hfr a k1).2 o' k2 e (YwQ h1) x (YwQ h3))
  ·cases p with
   |n i k=>
    obtain⟨b,hd,c,v0,l,y,el',g1,g2,g3,g4,g5,g6,g7,g8⟩:=srcN k1
    rw[k2]
    simp only[encP,g3]
    refine⟨⟨c.width,el'⟩,by show s.heap[ρ a]?=_;rw[g6];exact g7,rfl,by simp[g8.1],fun j e e' h1 h2=> ?_⟩
    simp at h2
    obtain⟨w,h2,rfl⟩:=h2
    have:=g8.2 j e w h1 h2
    exact⟨this.1,fun k y y' h3 h4=>YaY (this.2 k y y' h3 h4) (YaL c w y' (YwQ h4))⟩
   |m i=>
   obtain⟨o2,ho2⟩:=hqv k1
   obtain⟨b,ob,x,g1,g2,g3,g4,z,g5,g6⟩:=src ho2
   rw[k1]at g5;injection g5 with g5;subst g5
   have hob:=hr.obj b ob g2
   have k2:o'=encO (renX Xh m) q i:=k2
   cases ob with
   |fm hd c ver hole l=>
    rcases Ycd hX ho2 with⟨_,_,e,_⟩| ⟨_,e,_⟩| ⟨_,e⟩| ⟨hd',c',v',l',e,_,hnn⟩
    ·rw[g3]at e;cases e
    ·rw[g3]at e;cases e
    ·rw[g3]at e;cases e
    rw[g3]at e
    simp only[VObj.ren]at e g3
    injection e with e0 e1 e2 e3 e4
    subst e0;subst e1;subst e3
    subst g3
    obtain⟨x',el,q1,q2,q3,q4,q6⟩:=hob
    rw[g4]at q1;injection q1 with q1;subst q1
    have hrw:=rows ho2 g1 g2 hnn q4 q6
    rw[k2]
    simp only[encO,ho2]
    refine⟨hd.obj el,by show s.heap[ρ a]?=_;rw[g6];exact q2,?_,?_,?_⟩
    ·cases hd<;>rfl
    ·cases hd with
     |rw A nn=>show(encR q i _ c l).length=el.length;rw[q4];simp[encR]
     |mp o n=>rfl
    ·cases hd with
     |rw A nn=>exact fun j e e' h1 h2=>hrw j e e' h1 h2
     |mp o n=>
      intro j e e' h1 h2
      simp only[Hd.obj]at h1 h2
      cases j with
      |succ j=>simp at h1
      |zero=>
       simp only[List.getElem?_cons_zero,Option.some.injEq]at h1 h2
       subst h1;subst h2
       refine⟨rfl,fun j x x' h3 h4=> ?_⟩
       match j,h3,h4 with
       |0,h3,h4=>simp at h3 h4;subst h3;subst h4;exact .v _
       |1,h3,h4=>
        simp at h3 h4;subst h3;subst h4
        exact .rd 3 _ _ (by rw[q4];simp[encR]) (fun k e e' h1 h2=>(hrw k e e' h1 h2).1) (fun k e e' j x x' h1 h2 h3 h4=>(hrw k e e' h1 h2).2 j x x' h3 h4)
       |2,h3,h4=>simp at h3 h4;subst h3;subst h4;exact .v _
       |j+3,h3,h4=>simp at h3
   |sb s0=>
    obtain⟨x',e1,e2⟩:=hob
    rw[g4]at e1;injection e1 with e1;subst e1
    have g3:o2= .sb s0:=g3
    subst g3
    rw[k2]
    simp only[encO,ho2]
    refine⟨⟨0,strA s0⟩,by show s.heap[ρ a]?=_;rw[g6];exact e2,rfl,rfl,fun j e e' h1 h2=> ?_⟩
    rw[h1]at h2;injection h2 with h2;subst h2
    refine⟨rfl,fun k y y' h3 h4=> ?_⟩
    rw[h3]at h4;injection h4 with h4;subst h4
    obtain⟨n,hn⟩:=Yai (YaM s0).1.symm h1
    have:=(YaM s0).2 j e n h1 hn
    subst this
    cases k with
    |zero=>simp at h3;subst h3;exact .v _
    |succ k=>simp at h3
   |sq c l=>
    obtain⟨x',el,e1,e2,e3,e4⟩:=hob
    rw[g4]at e1;injection e1 with e1;subst e1
    have g3:o2= .sq c l:=g3
    subst g3
    rw[k2]
    simp only[encO,ho2]
    refine⟨⟨c.width,el⟩,by show s.heap[ρ a]?=_;rw[g6];exact e2,rfl,by simp[e4.1],fun j e e' h1 h2=> ?_⟩
    simp at h2
    obtain⟨w,h2,rfl⟩:=h2
    have:=e4.2 j e w h1 h2
    exact⟨this.1,fun k y y' h3 h4=>YaY (this.2 k y y' h3 h4) (YaL c w y' (YwQ h4))⟩
   |st cs=>
    obtain⟨x',e,e1,e2,e3,e4⟩:=hob
    rw[g4]at e1;injection e1 with e1;subst e1
    have g3:o2= .st (TV.rens (fun a=>idxV m a 0) cs):=g3
    subst g3
    rcases Ycd hX ho2 with⟨_,_,e,_⟩| ⟨cs',e5,_,hwc⟩| ⟨_,e⟩| ⟨_,_,_,_,e,_⟩
    ·cases e
    rotate_left
    ·cases e
    ·cases e
    ·injection e5 with e5;subst e5
     rw[k2]
     simp only[encO,ho2]
     refine⟨⟨cs.length,[e]⟩,by show s.heap[ρ a]?=_;rw[g6];exact e2,by simp[Yao],rfl,fun j f f' h1 h2=> ?_⟩
     cases j with
     |succ j=>simp at h1
     |zero=>
      simp at h1 h2;subst h1;subst h2
      have:=Yju (H:=s.heap) (tv:=.tp cs) look dead (.tp cs e e4.1 e4.2) (by simpa[TV.ren,wfT]using hwc)
      simp only[TV.ren,encT]at this
      cases this with
      |tup _ _ hl hc=>exact⟨hl,hc⟩
theorem Yjv{P:Program}{fm:FM}{T:Tabs}{C:Ctx}(hC:CtxOK P fm C)(hT:TOK T C)(hm:P.follows .mixedOrders=true){e:FnE}{F:VFn}{f:FuncId}
  (htie:fnTr P fm T.pf f=some (F.slots,F.res,F.code.er)) (h4:F.res.length<=4) (hts:e.args.ts=List.range' 0 e.args.vs.length) (hsl:e.args.vs.length<=F.slots)
  (hkb:T.kb=e.args.os.length) (hl: ∀Fr H0,FrOK Fr H0->LsOK Fr H0 C T F.code) (hF: ∀x y,e.F x=some y->evI T F e.args e.res e.os e.co x=some y):FOK P fm f e.RI:=by
 refine YhW hC hm (by rw[hT.p.pf];exact htie) h4 ?_
 rintro args H r H' ⟨x,y,vs,Xs,pls,Kp,v,l,X2,h1,h2,h3,hct,hrs,hfr,hall,h5,h6,h7,h8,h9,h10,rfl,rfl⟩
 have hlen:e.args.vs.length=vs.length/\e.args.os.length=Xs.length:=by
  unfold Sg.read at h2
  split at h2
  ·rename_i svs sos k1 k2
   obtain⟨e1,_⟩:=Yaa h2
   simp at e1
   exact⟨by rw[<-SV.eqs_of e1.1,Yee k1],by rw[<-SO.eqs_of e1.2,YfO k2]⟩
  trivial
 refine⟨by rw[<-hct.1,<-hlen.1];omega,?_⟩
 have hev:=hF x y h1
 unfold evI at hev
 rw[YaV h2]at hev
 have hkb':T.kb=Xs.length:=hkb.trans hlen.2
 have hvs:VS Kp H (T.kb,fun i=>pls (.m i)) H.length ⟨zipE e.args.ts vs,Xs⟩ ⟨Yuf 0 args,H,H.length⟩:=by
  refine⟨rfl,by simp_all,pls,?_,hrs,fun i hi x hx=>hx⟩
  rw[hts,hlen.1];exact Yjt 0 vs args hct
 refine YaC hT hfr hev (hl Kp H hfr) hvs (fun ex s' st' g1 g2=> ?_)
 have post:(match Yvr s' F.res with|some vs=>(match retI T.kb (tupV vs) s'.heap with| (v,X)=>Yv2 e.res e.os e.co v X)|none=>none)=some y->
   ∃as,YuF st' F.res as/\Fin st' (tupR as) (encT X2 (plI pls Xs.length H.length X2) v) (Yub Kp H Xs.length X2 (plI pls Xs.length H.length X2)):=by
  intro g1
  split at g1
  ·rename_i ws hws
   obtain⟨hb,hkl,ph,he,hr,hpk⟩:=g2
   obtain⟨as,k1,k2⟩:=YfM he hr hws
   have hr:=YiI hr
   have k3:=TR.nrm _ ((Yjr k2).ext Yfu)
   have hkl':Xs.length<=(nrmX s'.heap).length:=by rw[<-hkb'];simpa[nrmX]using hkl
   unfold retI at g1
   simp only at g1
   have hmin:min T.kb (nrmX s'.heap).length=Xs.length:=by omega
   rw[hmin]at g1
   generalize nrmX s'.heap=Xh at g1 hr k3 hkl' hmin
   generalize(tupV ws).nrm=tw at g1 k3
   have hnd:(YtO Xh 5 (YtK Xh (List.range Xs.length) tw.ids)).Nodup:=YcV (YbL List.nodup_range)
   have hpre:List.range Xs.length<+:YtO Xh 5 (YtK Xh (List.range Xs.length) tw.ids):=(YcX _ _ _).trans (Yfr _ _ _)
   generalize YtO Xh 5 (YtK Xh (List.range Xs.length) tw.ids)=m at g1 hnd hpre
   obtain⟨q1,q2⟩:=Ypj g1
   rw[h5]at q1;injection q1 with q1;injection q1 with q1 q3
   rw[<-q3,h6]at q2;injection q2 with q2;injection q2 with q2 _
   subst q1;subst q2
   exact⟨as,k1,YfP hrs hfr hr hb hkl' (fun i hi z hz=>hpk i (by omega) z hz) hnd hpre k3 h8 h9⟩
  trivial
 cases ex with
 |exit id=>cases g1
 |nor=>exact post g1
 |ret=>exact post g1
theorem Ypk{P:Program}{fm:FM}{T:Tabs}(hS:Yue P fm T)(hm:P.follows .mixedOrders=true)(L:List LpE)(e:FnE)(hp:T.pf e.g=false)(F:VFn)
  (htie: ∀f,fm f=e.g->fnTr P fm T.pf f=some (F.slots,F.res,F.code.er)) (h4:F.res.length<=4) (hts:e.args.ts=List.range' 0 e.args.vs.length) (hsl:e.args.vs.length<=F.slots)
  (hl: ∀C,TOK ⟨T.pf,T.fs,L,e.args.os.length⟩ C-> ∀Fr H0,FrOK Fr H0->LsOK Fr H0 C ⟨T.pf,T.fs,L,e.args.os.length⟩ F.code) (hF: ∀x y,e.F x=some y->evI ⟨T.pf,T.fs,L,e.args.os.length⟩ F e.args e.res e.os e.co x=some y):Yue P fm ⟨T.pf,e::T.fs,T.ls,0⟩:=by
 obtain⟨C,hC,hT⟩:=hS
 have hT':TOK ⟨T.pf,T.fs,L,e.args.os.length⟩ C:=⟨⟨hT.p.pf,hT.p.fn⟩,hT.fnI⟩
 have hpC:C.pf e.g=true->Pure e.RI:=fun h=>by rw[hT.p.pf,hp]at h;cases h
 exact⟨Yum C e.g e.RI,Ybs hC hpC (fun f hf=>Yjv hC hT' hm (htie f hf) h4 hts hsl rfl (hl C hT') hF),Ycg hT (fun h=>by simp_all) (fun _ _ _ _ _ h=>h)⟩
theorem Ypl{P:Program}{fm:FM}{T:Tabs}(hS:Yue P fm T)(hm:P.follows .mixedOrders=true)(e:FnE)(hp:T.pf e.g=false)(Fn:Nat->e.args.c.den->Option e.co.den)(L:Nat->List LpE)(F:VFn)
  (htie: ∀f,fm f=e.g->fnTr P fm T.pf f=some (F.slots,F.res,F.code.er)) (h4:F.res.length<=4) (hts:e.args.ts=List.range' 0 e.args.vs.length) (hsl:e.args.vs.length<=F.slots)
  (h0: ∀x,Fn 0 x=none) (hlim: ∀x y,e.F x=some y-> ∃n,Fn n x=some y)
  (hl: ∀n C,TOK ⟨T.pf,⟨e.g,e.pf,e.args,e.res,e.os,e.co,Fn n⟩::T.fs,L n,e.args.os.length⟩ C-> ∀Fr H0,FrOK Fr H0->LsOK Fr H0 C ⟨T.pf,⟨e.g,e.pf,e.args,e.res,e.os,e.co,Fn n⟩::T.fs,L n,e.args.os.length⟩ F.code)
  (hF: ∀n x y,Fn (n+1) x=some y->evI ⟨T.pf,⟨e.g,e.pf,e.args,e.res,e.os,e.co,Fn n⟩::T.fs,L n,e.args.os.length⟩ F e.args e.res e.os e.co x=some y):Yue P fm ⟨T.pf,e::T.fs,T.ls,0⟩:=by
 obtain⟨C,hC,hT⟩:=hS
 have hpC: ∀R:Yt0,C.pf e.g=true->Pure R:=fun R h=>by rw[hT.p.pf,hp]at h;cases h
 have step: ∀n f,fm f=e.g->FOK P fm f (FnE.RI ⟨e.g,e.pf,e.args,e.res,e.os,e.co,Fn n⟩):=by
  intro n
  induction n with
  |zero=>
   intro f _ args H r H' hc
   obtain⟨x,y,vs,Xs,pls,Kp,v,l,X2,h1,_⟩:=hc
   simp_all
  |succ n ih=>
   intro f hf
   have hC':=Ybs hC (hpC _) ih
   have hT':=Ycg hT (e:=⟨e.g,e.pf,e.args,e.res,e.os,e.co,Fn n⟩) (R:=FnE.RI ⟨e.g,e.pf,e.args,e.res,e.os,e.co,Fn n⟩) (fun h=>by simp_all) (fun _ _ _ _ _ h=>h)
   have hT2:TOK ⟨T.pf,⟨e.g,e.pf,e.args,e.res,e.os,e.co,Fn n⟩::T.fs,L n,e.args.os.length⟩ _:=⟨⟨hT'.p.pf,hT'.p.fn⟩,hT'.fnI⟩
   exact Yjv (e:=⟨e.g,e.pf,e.args,e.res,e.os,e.co,Fn (n+1)⟩) hC' hT2 hm (htie f hf) h4 hts hsl rfl (hl n _ hT2) (hF n)
 refine⟨Yum C e.g e.RI,Ybs hC (hpC _) (fun f hf args H r H' hc=> ?_),Ycg hT (fun h=>by simp_all) (fun _ _ _ _ _ h=>h)⟩
 obtain⟨x,y,vs,Xs,pls,Kp,v,l,X2,h1,h2⟩:=hc
 obtain⟨n,hn⟩:=hlim x y h1
 exact step n f hf args H r H' ⟨x,y,vs,Xs,pls,Kp,v,l,X2,hn,h2⟩
end
end Go.Abs
namespace Go.Abs
open Go Go.RowKit
theorem Ypm{P:Program}{fm:FM}{o:Oper}{xs:List Opd}(h:trOp P fm o=some (.px .mnxt xs)): ∃x,o.op= .next x false/\xs=[YtP fm x]:=by
 obtain⟨dst,oop,ty,pos,after,guard⟩:=o
 cases oop<;>simp only[trOp]at h
 case next x st=>
  cases st with
  |true=>cases h
  |false=>injection h with h;injection h with _ h;exact⟨x,rfl,h.symm⟩
 all_goals exfalso
 all_goals first
  | (cases h;done)
  |skip
 all_goals(repeat' (first| (cases h;done)|split at h))
 all_goals first
  | (cases h;done)
  | (rename_i hq;cases hq;done)
  | (simp only[YxE,YxJ]at h;grind)
  |skip
section
variable{C:Ctx}{Q:Ex->ASt->Prop}{st:ASt}
theorem Ypn{bl:List (List AV)}{sn:List Int}(h:bl=sn.map fun b=>[.v (.int .i64 b)]){fm:FM}{w:World}{L:Nat->Loc}{seen:Array Nat}(hs:Ywf fm w L seen bl):seen.toList.map (fun(n:Nat)=>(n:Int))=sn:=by
 refine Yxc fun i=> ?_
 cases hi:sn[i]? with
 |none=>
  have:seen.toList.length=sn.length:=by simp[hs.1,h]
  simp_all
 |some b=>
  obtain⟨n,c,h1,h2,h3⟩:=hs.2 i [.v (.int .i64 b)] (by simp_all)
  injection h2 with h2 _;subst h2
  have:=Yae h3;simp_all
theorem Ypo{it nx mo i m:Nat}{s:Int}{bl el:List (List AV)}{tags:List AV}{oi o:AObj}{B sn:List Int}{S tg:AV}
  (h1:YtM st.env it= .np i) (h2:st.heap[i]?=some (some oi)) (h3:oi=⟨5,[[.np m,.v (.int .i64 s),.v (.int .i64 s),S,tg]]⟩) (hS:Yvd S=some bl) (hbl:bl=sn.map fun b=>[.v (.int .i64 b)])
  (h4:st.heap[m]?=some (some o)) (h5:mapO o=some (s,el,tags)) (hel:el.map YuV=B.map some)
  (hdone:(∀b∈B,b∈sn)->Q .nor ⟨(mo,.v (.bool false))::(nx,.u)::st.env,st.heap,st.base⟩)
  (hstep: ∀b∈B,b∉sn->Q .nor ⟨(mo,.v (.bool true))::(nx,.u)::st.env,st.heap.set i (some ⟨5,[[.np m,.v (.int .i64 s),.v (.int .i64 s),.rd 1 (bl++[[.v (.int .i64 b)]]),tg]]⟩),st.base⟩):
  Sat C (.reg [⟨some nx,.px .mnxt [.t it],none,false,false⟩,⟨some mo,.ext (.t nx) 0,none,false,false⟩]) Q st:=by
 intro P fm n code hC hm ht w0 L0 a w hs
 cases code with
 |region id ops draw=>
  obtain⟨is,zs,k1,k2,k3⟩:=Ya9 ht (fun e=>by cases e)
  injection k2 with k2
  replace k3:(draw=true/\YuD ops.toList 0=true/\Yur C.pf (mkAt fm ops) (ddAt fm ops) (ancs ops.toList []) is=some zs)\/draw=false/\zs=is:=by
   rcases k3 with k3| ⟨k3,k4|k4⟩
   ·exact .inl k3
   ·exact .inr ⟨k3,k4⟩
   ·exact .inr ⟨k3,YhM k4 (by rw[<-k2];intro y hy;simp at hy;rcases hy with rfl|rfl<;>(intro _ _ _ e;cases e))⟩
  rcases k3 with⟨rfl,hE,k3⟩| ⟨rfl,rfl⟩
  ·exfalso
   obtain⟨hok,_,_⟩:=YdB k3
   rw[<-k2]at hok
   unfold Yur at k3
   split at k3
   ·trivial
   ·rename_i hd
    obtain⟨_,_,hv⟩:=YdB (pf:=C.pf) (mk:=mkAt fm ops) (dd:=ddAt fm ops) (an:=ancs ops.toList []) (is:=is) (ys:=zs) (by unfold Yur;simp_all)
    obtain⟨x,hx,_,_,hv⟩:=hv 0 ⟨some nx,.px .mnxt [.t it],none,false,false⟩ (by grind)
    apply hd
    rw[List.any_eq_true]
    refine⟨x,YwQ hx,?_⟩
    rcases hv with e| ⟨g,n',z,e1,e2⟩| ⟨z,as,e1,e2⟩| ⟨z,as,_,e1,e2⟩
    ·rw[<-e];rfl
    ·cases e2
    ·cases e2
    trivial
  ·obtain⟨ops⟩:=ops
   refine wp_region_lit ?_
   subst k2
   simp only at k1
   cases ops with
   |nil=>simp[Yt7]at k1
   |cons o1 r=>
   obtain⟨y1,z1,g1,g2,e⟩:=YbY k1
   injection e with e1 e2
   subst e1;subst e2
   cases r with
   |nil=>simp[Yt7]at g2
   |cons o2 r2=>
   obtain⟨y2,z2,g3,g4,e⟩:=YbY g2
   injection e with e1 e2
   subst e1;subst e2
   cases r2 with
   |cons o3 r3=>obtain⟨_,_,_,_,e⟩:=YbY g4;cases e
   |nil=>
   obtain⟨hop,hdst,hdn,_,_,hg⟩:=YeU g1
   have hg0:o1.guard=none:=by
    simp_all
   obtain⟨x,hx1,hx2⟩:=Ypm hop
   have hx:x= .tmp it:=by
    injection hx2 with hx2 _
    cases x<;>simp[YtP]at hx2
    rw[hx2]
   subst hx
   obtain⟨L1,hk1,hs1,hr1,he1⟩:=hs.rel
   have hiv:=he1 it
   rw[h1]at hiv
   have hio:YuG oi=some (m,s,s,bl):=by rw[h3];unfold YuG;simp_all
   have hoi:hf st.heap i=some (some oi):=h2
   obtain⟨g,g',since,seen,stepped,ex,hL,hgi,hvm,es1,es2,hseen⟩:=YgZ hr1 hoi hio hiv
   obtain⟨es,nc,enc,hLm,hgm,hmr,hasc⟩:=YgT hr1 (show hf st.heap m=_ from h4) h5 hvm
   have hsc:since=nc:=by omega
   have hst:since=stepped:=by omega
   subst hsc;subst hst
   have hsn:=Ypn hbl hseen
   have hBe:es.toList.map (fun e=>((e.born:Nat):Int))=B:=by
    have:es.toList.map (fun e=>some ((e.born:Nat):Int))=B.map some:=by
     rw[<-hel]
     refine Yxc fun j=> ?_
     rw[YwR,YwR]
     have hlen:es.toList.length=el.length:=by simpa using hmr.len
     cases hj:el[j]? with
     |none=>
      simp_all
     |some e=>
      obtain⟨me,b,k,r,q1,rfl,q3,_⟩:=hmr.row j e hj
      have q1':es.toList[j]?=some me:=by simp_all
      rw[q1']
      have hbb: ∃bb:Int,YuV (b::k::r)=some bb:=by
       have:=congrArg (fun l=>l[j]?) hel
       grind
      obtain⟨bb,hbb⟩:=hbb
      have:b= .v (.int .i64 bb):=by
       unfold YuV at hbb
       grind
      subst this
      have:=Yae q3;simp_all
    have h':=congrArg (List.map (fun(o:Option Int)=>o.getD 0)) this
    simpa[List.map_map,Function.comp_def]using h'
   have hold: ∀x∈es.toList,x.born<since:=fun x hx=>by
    obtain⟨j,hj⟩:=YwW.1 hx
    exact hasc.1 j x (by simp_all)
   have hmemB: ∀b:Nat,((b:Int)∈sn↔seen.contains b=true):=fun b=>by
    grind
   have hexec: ∀y w',(Instr.next (.pointer (some ⟨g,0,none⟩)) false o1.type).run P w= .ok y w'->YvG P o1 a w y w':=by
    intro y w' hy
    refine .inl ?_
    have hev:a.eval (.tmp it)= .pointer (some ⟨g,0,none⟩):=ex
    obtain⟨d1,op1,t1,p1,a1,gd1⟩:=o1
    simp only at hx1
    subst hx1
    simp[execOp,hev,hy]
   have hnx:nx<a.tmps.size:=by rw[hs.size];simp_all
   have fin: ∀(t:Bool) (y:Value) (w':World) (L':Nat->Loc) (H':Heap),(∃xs,y= .tuple xs/\xs.getD 0 undef= .bool t/\0<xs.size)->Keep L1 w w'->LStep L1 L' w.heap.size->HR fm w' L' (hf H')->
     Q .nor ⟨(mo,.v (.bool t))::(nx,.u)::st.env,H',st.base⟩->wpList P ⟨o1::o2::[]⟩ (PostA fm n w0 L0 Q) [o2] (a.put o1.dst y) w':=by
    rintro t y w' L' H' ⟨xs,rfl,hx0,hxs⟩ hkp hls hhr hq
    have hER:ER fm w' L' (a.put o1.dst (.tuple xs)) ((nx,.tup (.v (.bool t)::List.replicate (xs.size-1) .u))::st.env):=by
     have:=er_put' (d:=o1.dst) (x:=.tuple xs) (v:=.tup (.v (.bool t)::List.replicate (xs.size-1) .u)) (fun t=>(he1 t).mono hkp hls) (fun k hk=>by simp_all)
      (.tup xs _ (by grind) (fun j c hj=>by
       cases j with
       |zero=>simp at hj;subst hj;rw[hx0];exact .v _
       |succ j=>
        rw[List.getElem?_cons_succ,Yxp]at hj
        split at hj
        ·injection hj with hj;subst hj;exact .u _
        trivial))
     have hd1:o1.dst=some nx:=hdst.symm
     rw[hd1]at this⊢
     trivial
    have hs':SR fm n w0 L0 ⟨(nx,.tup (.v (.bool t)::List.replicate (xs.size-1) .u))::st.env,H',st.base⟩ (a.put o1.dst (.tuple xs)) w':=
     hs.step (YbX _ _ _) (YbW _ _ _) ⟨hk1,hs1⟩ hkp hls hhr hER
    refine Ydt hC (n0:=fun _=>True) (K:=fun s'=>s'=⟨(mo,.v (.bool t))::(nx,.tup (.v (.bool t)::List.replicate (xs.size-1) .u))::st.env,H',st.base⟩) (fun s' a' w'' hs'' hsr=> ?_) [o2] [_] _ _ _ g2 ?_ hs'
    ·subst hs''
     obtain⟨L2,m1,m2,m3,m4⟩:=hsr.rel
     refine⟨_,hq,hsr.defers,hsr.size,hsr.base,L2,m1,m2,m3,fun u=> ?_⟩
     have:=m4 u
     simp only[YtM]at this⊢
     cases hmu:(mo==u)with
     |true=>simp_all
     |false=>
      rw[hmu]at this
      simp only[cond_false]at this⊢
      cases hnu:(nx==u)with
      |true=>exact .u _
      |false=>simp_all
    ·show evAI C _ ⟨some mo,.ext (.t nx) 0,none,false,false⟩ _ _
     simp only[YlC,YeD]
     show∃l,opd _ (.t nx)=AV.tup l/\ ∃b,l[0]?=some b/\_
     exact⟨.v (.bool t)::List.replicate (xs.size-1) .u,by simp[opd,YtM],_,rfl,rfl⟩
   rcases run_next_at (P:=P) w o1.type g g' since since seen es since hgi hgm hold (Yxs _)with⟨hz,hrun⟩| ⟨e,he,w1,hw1,hrun⟩
   ·
    unfold wpList
    rw[show Region.wanted o1 _=true by simp[Region.wanted,hg0],if_pos rfl]
    refine .inl (YcC (hexec _ _ hrun) (fin false _ w L1 st.heap ⟨_,rfl,rfl,by simp⟩ (Keep.refl _ _) (LStep.refl _ _) hr1 (hdone (fun b hb=> ?_))))
    rw[<-hBe]at hb
    obtain⟨e,he,rfl⟩:=Yw3.1 hb
    rw[hmemB]
    apply Classical.byContradiction
    intro hc
    have:e∈ (leftOf es seen).toList:=by
     unfold leftOf
     simp_all
    simp_all
   ·have he':e∈es.toList/\seen.contains e.born=false:=by
     unfold leftOf at he
     simp_all
    have hbB:((e.born:Nat):Int)∈B:=by grind
    have hbn:((e.born:Nat):Int)∉sn:=fun hc=>by
     simp_all
    have hq:=hstep _ hbB hbn
    obtain⟨S0,tag0,hoe,hSS,_⟩:=YgY hio
    have hobj:=hr1.obj i oi hoi
    rw[hL,h3]at hobj
    obtain⟨_,a0,s',t',S',tag',g2',since',seen',stepped',q1,q2,q3,q4,q5,q6,q7⟩:=hobj
    injection q2 with q2 _
    injection q2 with e1 q2;injection q2 with e2 q2;injection q2 with e3 q2;injection q2 with e4 q2;injection q2 with e5 q2
    subst e1;subst e2;subst e3;subst e4;subst e5
    obtain⟨m1,m2⟩:=Ycz hr1 hoi hL (ob:=.mapIter (some g') since (seen.push e.born) since) (fun c t f e=>by cases e) (w':=ChangeMaps.setBlock w1 g (.mapIter (some g') since (seen.push e.born) since))
     (by rcases hw1 with rfl|rfl<;>rfl) (by rcases hw1 with rfl|rfl<;>rfl) (by rcases hw1 with rfl|rfl<;>rfl) (by rcases hw1 with rfl|rfl<;>rfl)
     (o':=⟨5,[[.np m,.v (.int .i64 s),.v (.int .i64 s),.rd 1 (bl++[[.v (.int .i64 ((e.born:Nat):Int))]]),tg]]⟩) (fun e=>by cases e)
     (fun hkp hg'=>⟨rfl,_,_,_,_,_,g',since,seen.push e.born,since,hg',rfl,hvm.mono hkp (LStep.refl _ _),by rw[es1];exact .v _,by rw[es1];exact .v _,q6.mono hkp (LStep.refl _ _),.inr ⟨1,_,rfl,by grind,fun j ej hj=>by
      by_cases hjl:j<bl.length
      ·rw[YwU hjl]at hj
       obtain⟨n',b',r1,r2,r3⟩:=hseen.2 j ej hj
       exact⟨n',b',by grind,r2,r3.mono hkp (LStep.refl _ _)⟩
      ·have hje:j=bl.length:=by
        grind
       subst hje
       rw[Yw0 (Yxs _)]at hj
       simp at hj;subst hj
       exact⟨e.born,_,by grind,rfl,.v _⟩⟩⟩)
    unfold wpList
    rw[show Region.wanted o1 _=true by simp[Region.wanted,hg0],if_pos rfl]
    refine .inl (YcC (hexec _ _ hrun) (fin true _ _ L1 _ ⟨_,rfl,rfl,by simp⟩ m1 (LStep.refl _ _) ?_ hq))
    have:=YeR (H:=st.heap) (a:=i) (o:=some ⟨5,[[.np m,.v (.int .i64 s),.v (.int .i64 s),.rd 1 (bl++[[.v (.int .i64 ((e.born:Nat):Int))]]),tg]]⟩) (by simp_all) 0
    rw[<-this]
    exact m2
 |seq x y=>simp only[tr]at ht;grind
 |cond c x y=>simp only[tr]at ht;grind
 |block id b=>simp[tr]at ht
 |loop b=>simp[tr]at ht
 |_=>cases ht
end
end Go.Abs
namespace Go.Abs
open Go
def cs:List Ty->Cs
 | []=>.nil
 |t::r=>.cons t (cs r)
abbrev I:Ty:=.i .i64
abbrev o(d:Nat)(op:VOp):VI:=⟨some d,op,none,false,false⟩
abbrev on(op:VOp):VI:=⟨none,op,none,false,false⟩
abbrev og(d g:Nat)(w:Bool)(op:VOp):VI:=⟨some d,op,some (g,w),false,false⟩
abbrev t(n:Nat):VOpd:=.t n
abbrev k(n:Int):VOpd:=.c (.one (.i .i64 n))
abbrev ki(kd:IntKind)(n:Int):VOpd:=.c (.one (.i kd n))
abbrev kb(x:Bool):VOpd:=.c (.one (.b x))
abbrev ks(x:ByteArray):VOpd:=.c (.one (.s x))
abbrev ke(c:Cs):VOpd:=.c (.one (.e c))
def alt2{A B γ:Type}(y:A⊕B)(f:A->γ)(g:B->γ):γ:=match y with| .inl a=>f a| .inr b=>g b
theorem Ypz{S R:Type}{step s:S->Option (S⊕R)}(h: ∀x,step x=s x){x:S}{y:R}(hs:Yuk s x=some y):Yuk step x=some y:=by
 have:step=s:=funext h
 simp_all
theorem Ych{p:Nat->Bool}{fs:List FnE}{l l':List LpE}{k k':Nat}{C:Ctx}(h:TOK ⟨p,fs,l,k⟩ C):TOK ⟨p,fs,l',k'⟩ C:=⟨⟨h.p.pf,h.p.fn⟩,h.fnI⟩
structure Lo where
 run: ∀{S R:Type},(S->Option (S⊕R))->S->Option R
def LoOK(lo:Lo):Prop:= ∀{S R:Type} (step:S->Option (S⊕R)) (x:S) (y:R),lo.run step x=some y->Yuk step x=some y
theorem YfQ{S R:Type}{step:S->Option (S⊕R)}: ∀{n m:Nat} {x:S} {y:R},n<=m->Yuv step n x=some y->Yuv step m x=some y
 |0,_,_,_,_,h=>by cases h
 |n+1,0,_,_,h,_=>by omega
 |n+1,m+1,x,y,h,hy=>by
  simp only[Yuv]at hy⊢
  split at hy
  ·exact YfQ (by omega) hy
  ·exact hy
  trivial
theorem Yef{S R:Type}{step:S->Option (S⊕R)}{n:Nat}{x:S}{y:R}(h:Yuv step n x=some y):Yuk step x=some y:=by
 have hx: ∃n r,Yuv step n x=some r:=⟨n,y,h⟩
 unfold Yuk
 have h2:=Classical.choose_spec (Classical.choose_spec hx)
 have k1:=YfQ (Nat.le_max_left n (Classical.choose hx)) h
 have k2:=YfQ (Nat.le_max_right n (Classical.choose hx)) h2
 grind
noncomputable def loO:Lo:=⟨fun step x=>Yuk step x⟩
theorem YpA:LoOK loO:=fun _ _ _ h=>h
theorem Yaj{S R:Type}(step:S->Option (S⊕R))(x:S):Yuk step x=match step x with|some (.inl s)=>Yuk step s|some (.inr r)=>some r|none=>none:=by
 refine Option.ext (fun y=>⟨fun h=> ?_,fun h=> ?_⟩)
 ·obtain⟨n,hn⟩:=Yec h
  cases n with
  |zero=>cases hn
  |succ n=>
   simp only[Yuv]at hn
   split at hn
   ·rename_i hs;rw[hs];exact Yef hn
   ·simp_all
   trivial
 ·split at h
  ·rename_i s hs
   obtain⟨n,hn⟩:=Yec h
   exact Yef (n:=n+1) (by simp only[Yuv,hs];exact hn)
  ·rename_i r hs
   exact Yef (n:=1) (by simp only[Yuv,hs];exact h)
  trivial
def fixS{A B:Type}(f:Nat->A->Option B):Nat×A->Option ((Nat×A)⊕B):=fun x=>match f x.1 x.2 with
 |some y=>some (.inr y)
 |none=>some (.inl (x.1+1,x.2))
theorem YpB{A B:Type}{f:Nat->A->Option B}{n:Nat}{x:A}{y:B}(h:Yuk (fixS f) (n,x)=some y): ∃m,f m x=some y:=by
 obtain⟨k,hk⟩:=Yec h
 induction k generalizing n with
 |zero=>cases hk
 |succ k ih=>
  simp only[Yuv,fixS]at hk
  cases hf:f n x with
  |some z=>grind
  |none=>rw[hf]at hk;exact ih (Yef hk) hk
end Go.Abs
