/- Operations, calls among them, in a region whose order is the text's. No condition. -/
import Derived.Test.YtppagmmeofoekaaDoorA
import Derived.ProofKit
set_option linter.unusedVariables false
set_option linter.unusedSimpArgs false
set_option linter.unusedSectionVars false
open List renaming getElem?_eq_getElem → YwO, getElem?_eq_some_iff → YwP, mem_of_getElem? → YwQ, getElem?_map → YwR, map_cons → YwS, getElem?_append_left → YwU, getElem?_set_ne → YwV, mem_iff_getElem? → YwW, length_eq_zero_iff → YwZ, getElem?_append_right → Yw0, all_eq_true → Yw1, mem_cons → Yw2, mem_map → Yw3, getElem?_set_self → Yw4, length_set → Yw5, mem_cons_self → Yw6, getElem?_eq_none → Yw7, getElem?_take → Yw8, ext_getElem? → Yxc, nil_append → Yxd, length_cons → Yxe, getElem?_drop → Yxh, mem_append → Yxi, mem_cons_of_mem → Yxj, map_append → Yxk, drop_eq_getElem_cons → Yxm, getElem?_replicate → Yxp
open Nat renaming beq → Yxr, le_refl → Yxs, blt → Yxu, ble → Yxv, lt_of_lt_of_le → Yxw, le_trans → Yxy, zero_le → Yxz, mul_le_mul_right → YxA, add_mul → YxB, le_of_ble_eq_true → YxC
open Option renaming bind → YxD, map_eq_some_iff → YxE, map_some → YxF, bind_some → YxG, isSome_iff_exists → YxH, getD_some → YxI, bind_eq_some_iff → YxJ, bind_none → YxK
open Bool renaming and_eq_true → YxL, eq_iff_iff → YxN, not_false → YxO, or_eq_true → YxP
open Array renaming getD_eq_getD_getElem? → YxS, getElem?_eq_some_iff → YxT, getElem?_eq_getElem → YxV
open ByteArray renaming mk → YxW
namespace Go.Abs
open Go Go.RowKit
def OKus(h:HF)(us:List Upd):Prop:=
 us=[]\/(∃o,us=[.push o])\/(∃a o,us=[.set a o]/\h a≠none)\/(∃a o p,us=[.set a o,.push p]/\h a≠none)
theorem Yg7(h:HF):OKus h []=True:=by simp[OKus]
theorem Yds(h:HF)(o:Option AObj):OKus h [.push o]=True:=by simp[OKus]
theorem Yg8(h:HF)(a:Nat)(o:Option AObj)(ha:h a≠none):OKus h [.set a o]:=.inr (.inr (.inl ⟨a,o,rfl,ha⟩))
theorem Yg9(h:HF)(a:Nat)(o p:Option AObj)(ha:h a≠none):OKus h [.set a o,.push p]:=.inr (.inr (.inr ⟨a,o,p,rfl,ha⟩))
theorem Yha{es:Nat}{s:AV}{l:List (List AV)}{h:HF}{nid:Nat}{K:AV->List Upd->Prop}(hev:appK es s l h nid K):appK es s l h nid (fun v us=>K v us/\OKus h us):=by
 cases s<;>try exact hev
 case emp=>simpa[Yvz,Yds]using hev
 case ref a off len=>
  obtain⟨o,ha,h1,h2,h3,h4,h5,h6⟩:=hev
  exact⟨o,ha,h1,h2,h3,h4,h5,h6,Yg9 _ _ _ _ (by simp_all)⟩
theorem YmC{op:XOp}{xs:List AV}{h:HF}{nid:Nat}{v:AV}{us:List Upd}(hx:xF op xs h nid=some (v,us)):OKus h us:=by
 have app: ∀{os es s l o us0},apX os es s l h nid=some (o,us0)-> ∀p,OKus h (us0++[.push p]):=by
  intro os es s l o us0 hap p
  unfold apX at hap
  obtain⟨_,h1⟩:=cond_ok' hap
  split at h1
  ·obtain⟨_,h2⟩:=cond_ok' h1;injection h2 with h2;injection h2 with _ h2;subst h2
   rw[Yxd,Yds];trivial
  ·split at h1
   ·rename_i o' ho
    obtain⟨_,h2⟩:=cond_ok' h1;injection h2 with h2;injection h2 with _ h2;subst h2
    exact Yg9 _ _ _ _ (by simp_all)
   trivial
  trivial
 unfold xF at hx
 split at hx
 all_goals(repeat' (first| (cases hx;done)| (replace hx:=(cond_ok' hx).2)|split at hx))
 all_goals
  injection hx with hx
  injection hx with _ hx
  subst hx
  first
   | (rw[Yg7];trivial)
   | (rw[Yds];trivial)
   |exact app (by assumption) _
   |exact Yg8 _ _ _ (fun hn=>by simp_all)
theorem Yhb{op:AOp}{env:Env}{h:HF}{nid:Nat}{K:AV->List Upd->Prop}(hev:evG op env h nid K):evG op env h nid (fun v us=>K v us/\OKus h us):=by
 cases op
 case store n x y=>
  simp only[evG,opK]at hev⊢
  split at hev<;>try trivial
  rename_i a i j e
  obtain⟨o,ha,e,he,cs,hcs,h1,h2,h3⟩:=hev
  exact⟨o,ha,e,he,cs,hcs,h1,h2,h3,Yg8 _ _ _ (by simp_all)⟩
 case app es s x=>
  simp only[evG,opK]at hev⊢
  split at hev<;>try trivial
  ·exact⟨hev.1,Yha hev.2⟩
  ·exact Yha hev
 case px op xs=>obtain⟨v,us,h1,h2⟩:=hev;exact⟨v,us,h1,h2,YmC h1⟩
 all_goals(simp only[evG,Yg7,Yds,and_true]at hev⊢ <;>exact hev)
theorem YeR{H:Heap}{a:Nat}{o:Option AObj}(ha:hf H a≠none)(nid:Nat):appU (hf H) nid (.set a o)=hf (H.set a o):=by
 funext b
 have hlt:a<H.length:=by
  apply Classical.byContradiction
  intro hn
  exact ha (Yw7 (by omega))
 simp only[appU,hf,List.getElem?_set]
 grind
theorem hf_push{H:Heap}{o:Option AObj}:appU (hf H) H.length (.push o)=hf (H++[o]):=by
 funext b
 simp only[appU,hf]
 grind
theorem Yhc{H:Heap}{us:List Upd}(h:OKus (hf H) us):appF (hf H) H.length us=hf (Yt1 H us):=by
 rcases h with rfl| ⟨o,rfl⟩| ⟨a,o,rfl,ha⟩| ⟨a,o,p,rfl,ha⟩
 ·rfl
 ·exact hf_push
 ·simp only[appF,Yt1,YuY];exact YeR ha _
 ·simp only[appF,Yt1,YuY]
  rw[YeR ha]
  have:=hf_push (H:=H.set a o) (o:=p)
  simp_all
section
variable{P:Program}{fm:FM}{w:World}{L:Nat->Loc}
theorem YcC{o:Oper}{a:Act}{next:Act->World->Prop}{Q:Exit->Act->World->Prop}{x:Value}{w':World}(h:YvG P o a w x w')(hn:next (a.put o.dst x) w'):
  o.wp P a w next Q:=by
 unfold Oper.wp
 rcases h with h| ⟨h,rfl⟩
 ·rw[h];exact hn
 ·rw[h];exact hn
theorem YcD{f:FuncId}(h:YtL P f=true)(args:Array Value)(w:World):(callFunc f args).run P w= .ok (.enter f args) w:=by
 unfold YtL at h
 cases hf:P.funcs[f]? with
 |none=>simp_all
 |some fn=>
  simp[hf]at h
  obtain⟨h1,h2⟩:=h
  obtain⟨c,hc⟩:=YxH.1 h1
  simp[callFunc,hf,h2,hc]
def Ywb(fm:FM)(w:World)(L:Nat->Loc)(a:Act)(dst:Option Tmp)(K:AV->Heap->Prop):Act->World->Prop:=
 fun a' w'=> ∃x v H' L',a'=a.put dst x/\K v H'/\Keep L w w'/\LStep L L' w.heap.size/\HR fm w' L' (hf H')/\VR fm w' L' x v
theorem YcE{a:Act}{env:Env}(he:ER fm w L a env)(xs:List Operand): ∀j c,((xs.map (YtP fm)).map (opd env))[j]?=some c->VR fm w L ((xs.map a.eval).toArray.getD j undef) c:=by
 intro j c hj
 cases hc:xs[j]? with
 |none=>simp_all
 |some y=>
  simp[hc]at hj
  subst hj
  have:(xs.map a.eval).toArray.getD j undef=a.eval y:=by
   simp_all
  rw[this]
  exact Yad he y
theorem YbC{e e':List AV}(hl:e.length=e'.length){j:Nat}{x':AV}(h:e'[j]?=some x'): ∃x,e[j]?=some x:=by
 have:=(YwP.1 h).1
 exact⟨e[j],YwO (by omega)⟩
theorem YbD{x:Value}{c c':AV}(h:VR fm w L x c)(k:FgC c c'):VR fm w L x c':=by
 rcases k with rfl|rfl
 ·exact h
 ·exact .u x
theorem YbE{x:Value}{c c':AV}(h:VR fm w L x c)(k:FgA c c'):VR fm w L x c':=by
 rcases k with k| ⟨es,l,l',rfl,rfl,hl,hr⟩
 ·exact YbD h k
 ·have row: ∀{i:Nat} {e':List AV},l'[i]?=some e'-> ∃e,l[i]?=some e/\FgR e e':=fun{i e'} hi=>by
   have hlt:=(YwP.1 hi).1
   exact⟨l[i],YwO (by omega),hr i _ _ (YwO (by omega)) hi⟩
  cases h with
  |rd0 A es c=>
   have:l'=[]:=YwZ.1 hl.symm
   subst this;exact .rd0 A es c
  |rd b o c es l vals hne hes hes0 hlc hb hbs hc h1 hr'=>
   rw[hl]
   refine .rd b o c es l' vals (fun e=>hne (YwZ.1 (by rw[hl,e];rfl))) (fun e' he'=> ?_) hes0 (by omega) hb hbs (fun i e' j x' h2 h3=> ?_) (fun i e' j x' h2 h3=> ?_) (fun i e' j x' h2 h3=> ?_)
   ·obtain⟨i,hi⟩:=YwW.1 he'
    obtain⟨e,h2,h3⟩:=row hi
    rw[<-h3.1];exact hes e (YwQ h2)
   ·obtain⟨e,q1,q2⟩:=row h2
    obtain⟨x,q3⟩:=YbC q2.1 h3
    exact hc i e j x q1 q3
   ·obtain⟨e,q1,q2⟩:=row h2
    obtain⟨x,q3⟩:=YbC q2.1 h3
    exact h1 i e j x q1 q3
   ·obtain⟨e,q1,q2⟩:=row h2
    obtain⟨x,q3⟩:=YbC q2.1 h3
    exact YbD (hr' i e j x q1 q3) (q2.2 j x x' q3 h3)
theorem YaR{a:AV}{r e':List AV}(h:(a::r).length=e'.length): ∃a' r',e'=a'::r'/\r.length=r'.length:=by
 cases e' with
 |nil=>simp at h
 |cons a' r'=>exact⟨a',r',rfl,by simpa using h⟩
theorem YeS{e':List AV}(h:([]:List AV).length=e'.length):e'=[]:=(YwZ.1 h.symm)
theorem YmD{loc:Loc}{o o':AObj}(h:ObjR fm w L loc o)(k:FgO o o'):ObjR fm w L loc o':=by
 obtain⟨ke,kl,kr⟩:=k
 have row: ∀{i:Nat} {e':List AV},o'.el[i]?=some e'-> ∃e,o.el[i]?=some e/\e.length=e'.length/\ ∀(j:Nat) (x x':AV),e[j]?=some x->e'[j]?=some x'->FgA x x':=fun{i e'} hi=>by
  have hlt:=(YwP.1 hi).1
  exact⟨o.el[i],YwO (by omega),kr i _ _ (YwO (by omega)) hi⟩
 have one: ∀{e:List AV},o.el=[e]-> ∃e',o'.el=[e']/\e.length=e'.length/\ ∀(j:Nat) (x x':AV),e[j]?=some x->e'[j]?=some x'->FgA x x':=fun{e} he=>by
  rw[he]at kl
  obtain⟨e',h1⟩:=List.length_eq_one_iff.1 kl.symm
  obtain⟨e2,h2,h3⟩:=row (i:=0) (e':=e') (by rw[h1];rfl)
  rw[he]at h2;injection h2 with h2;subst h2
  exact⟨e',h1,h3⟩
 cases loc with
 |nil b=>
  obtain⟨h1,h2⟩:=h
  exact⟨YwZ.1 (by rw[<-kl,h1];rfl),fun h=>h2 (by rw[<-ke];exact h)⟩
 |cells g es cap=>
  obtain⟨h1,h2,h3,h4,h5,cur,ty,h6,h7,h8⟩:=h
  refine⟨by rw[ke];exact h1,h2,by omega,h4,fun e' he'=> ?_,cur,ty,h6,h7,fun i e' j x' q1 q2=> ?_⟩
  ·obtain⟨i,hi⟩:=YwW.1 he'
   obtain⟨e,q1,q2,_⟩:=row hi
   rw[<-q2];exact h5 e (YwQ q1)
  ·obtain⟨e,q3,q4,q5⟩:=row q1
   obtain⟨x,q6⟩:=YbC q4 q2
   have:=h8 i e j x q3 q6
   exact⟨this.1,YbE this.2 (q5 j x x' q6 q2)⟩
 |mp i g=>
  cases i with
  |false=>
   obtain⟨h1,es,clock,c0,R,tags,h2,h3,h4,h5,h6,h7⟩:=h
   obtain⟨e',q1,q2,q3⟩:=one h3
   obtain⟨c0',r1,rfl,p2⟩:=YaR q2
   obtain⟨R',tags',rfl,p3⟩:=YaR p2
   refine⟨by rw[ke];exact h1,es,clock,c0',R',tags',h2,q1,YbE h4 (q3 0 c0 c0' rfl rfl),fun t' ht'=> ?_,h6,?_⟩
   ·obtain⟨j,hj⟩:=YwW.1 ht'
    obtain⟨t,ht⟩:=YbC p3 hj
    exact YbE (h5 t (YwQ ht)) (q3 (j+2) t t' ht hj)
   ·rcases q3 1 R R' rfl rfl with(rfl|rfl)| ⟨wd,l,l',rfl,rfl,hl,hrr⟩
    ·rw[ke];exact h7
    ·exact .inl rfl
    ·rcases h7 with h7| ⟨wd',el,h7,h8⟩
     ·cases h7
     ·cases h7
      refine .inr ⟨_,l',rfl,⟨by rw[h8.len,hl],fun i e' hi=> ?_⟩⟩
      have hlt:=(YwP.1 hi).1
      obtain⟨m,b,kk,r,g1,g2,g3,g4,g5⟩:=h8.row i l[i] (YwO (by omega))
      have hf:=hrr i l[i] e' (YwO (by omega)) hi
      rw[g2]at hf
      obtain⟨f1,f2⟩:=hf
      obtain⟨b',r1,rfl,f3⟩:=YaR f1
      obtain⟨k',r',rfl,f4⟩:=YaR f3
      refine⟨m,b',k',r',g1,rfl,YbD g3 (f2 0 b b' rfl rfl),YbD g4 (f2 1 kk k' rfl rfl),?_⟩
      rw[ke]
      rcases g5 with⟨hk1,a,rfl,g6,g7⟩| ⟨hk2,xs,g6,g7⟩
      ·obtain⟨a',r2,rfl,f5⟩:=YaR f4
       have:=YeS f5;subst this
       exact .inl ⟨hk1,a',rfl,g6,YbD g7 (f2 2 a a' rfl rfl)⟩
      ·refine .inr ⟨hk2,xs,g6,?_⟩
       cases g7 with
       |agg xs cs hs n1 n2=>
        refine .agg xs r' (by omega) (fun j a' ha'=> ?_) (fun j a' ha'=> ?_)
        ·obtain⟨a,ha⟩:=YbC f4 ha'
         exact n1 j a ha
        ·obtain⟨a,ha⟩:=YbC f4 ha'
         exact YbD (n2 j a ha) (f2 (j+2) a a' ha ha')
  |true=>
   obtain⟨h1,a0,s,t,S,tag,g',since,seen,stepped,h2,h3,h4,h5,h6,h7,h8⟩:=h
   obtain⟨e',q1,q2,q3⟩:=one h3
   obtain⟨a0',r1,rfl,p2⟩:=YaR q2
   obtain⟨s',r2,rfl,p3⟩:=YaR p2
   obtain⟨t',r3,rfl,p4⟩:=YaR p3
   obtain⟨S',r4,rfl,p5⟩:=YaR p4
   obtain⟨tag',r5,rfl,p6⟩:=YaR p5
   have:=YeS p6;subst this
   refine⟨by rw[ke];exact h1,a0',s',t',S',tag',g',since,seen,stepped,h2,q1,YbE h4 (q3 0 _ _ rfl rfl),YbE h5 (q3 1 _ _ rfl rfl),YbE h6 (q3 2 _ _ rfl rfl),YbE h7 (q3 4 _ _ rfl rfl),?_⟩
   rcases q3 3 S S' rfl rfl with(rfl|rfl)| ⟨wd,l,l',rfl,rfl,hl,hrr⟩
   ·exact h8
   ·exact .inl rfl
   ·rcases h8 with h8| ⟨wd',bl,h8,h9⟩
    ·cases h8
    ·cases h8
     refine .inr ⟨_,l',rfl,by rw[h9.1,hl],fun i e' hi=> ?_⟩
     have hlt:=(YwP.1 hi).1
     obtain⟨n,b,g1,g2,g3⟩:=h9.2 i l[i] (YwO (by omega))
     have hf:=hrr i l[i] e' (YwO (by omega)) hi
     rw[g2]at hf
     obtain⟨f1,f2⟩:=hf
     obtain⟨b',r1,rfl,f3⟩:=YaR f1
     have:=YeS f3;subst this
     exact⟨n,b',g1,rfl,YbD g3 (f2 0 b b' rfl rfl)⟩
 |_=>cases h
theorem YmE{H H1:Heap}(hr:HR fm w L (hf H))(k:YvD H H1):HR fm w L (hf H1):=by
 have hn: ∀a,hf H1 a=none↔hf H a=none:=fun a=>by
  show H1[a]?=none↔H[a]?=none
  simp only[List.getElem?_eq_none_iff,k.1]
 have hs: ∀a o,hf H a=some (some o)-> ∃o1,hf H1 a=some (some o1):=fun a o ho=>by
  rcases k.2 a with e| ⟨o0,o1,e1,e2,_⟩
  ·exact⟨o,e.trans ho⟩
  ·exact⟨o1,e2⟩
 have hb: ∀a o1,hf H1 a=some (some o1)-> ∃o,hf H a=some (some o)/\ (o1=o\/FgO o o1):=fun a o1 ho=>by
  rcases k.2 a with e| ⟨o0,o2,e1,e2,e3⟩
  ·exact⟨o1,e.symm.trans ho,.inl rfl⟩
  ·have:=e2.symm.trans ho
   injection this with this;injection this with this;subst this
   exact⟨o0,e1,.inr e3⟩
 refine⟨fun a o1 ho=> ?_,fun a h=> ?_,fun a=>(hr.fresh a).trans (hn a).symm,hr.inj,hr.hid,fun a o1 g es cap ho h0 hl=> ?_,fun a i g hl=> ?_,hr.tab⟩
 ·obtain⟨o,h1,h2⟩:=hb a o1 ho
  have:=hr.obj a o h1
  rcases h2 with rfl|h2
  ·exact this
  ·exact YmD this h2
 ·obtain⟨o,ho⟩:=hr.live a h
  exact hs a o ho
 ·obtain⟨o,h1,h2⟩:=hb a o1 ho
  refine hr.byt a o g es cap h1 ?_ hl
  rcases h2 with rfl|h2
  ·exact h0
  ·rw[<-h2.1];exact h0
 ·obtain⟨⟨o,ho⟩,h2⟩:=hr.mps a i g hl
  exact⟨hs a o ho,h2⟩
theorem Yhd{C:Ctx}(hC:CtxOK P fm C){f:FuncId}{H:Heap}(hr:HR fm w L (hf H)){vs:Array Value}{args:List AV}(hsz:vs.size=args.length)
  (hvs: ∀j a,args[j]?=some a->VR fm w L (vs.getD j undef) a) {K:AV->Heap->Prop} (hev:Yvc C (fm f) args H K):
  YtL P f=true/\Calls P f vs w fun e w'=> ∃v r H' L',e= .returned v/\K r H'/\Keep L w w'/\LStep L L' w.heap.size/\HR fm w' L' (hf H')/\VR fm w' L' v r:=by
 rcases hev with⟨hpf,args1,args',r,hb,hsc,hco,hc,hk⟩| ⟨_,args',H1,r,H',hco,hfg,hc,_,hk⟩
 ·obtain⟨h1,h2⟩:=YeQ hC hpf hr hsz hvs hb hsc hco hc
  refine⟨h1,h2.mono ?_⟩
  rintro e w' ⟨v,rfl,k1,k2,k3⟩
  exact⟨v,r,H,L,rfl,hk,k1,LStep.refl _ _,k2,k3⟩
 ·obtain⟨hlen,hget⟩:=Ya6 hco
  obtain⟨h1,h2⟩:=hC.ok f args' H1 r H' hc
  refine⟨h1,(h2 w L vs (YmE hr hfg) (by omega) (fun j b hb=> ?_)).mono ?_⟩
  ·obtain⟨a,ha,hab⟩:=hget j b hb
   exact Yg3 hab (hvs j a ha)
  grind
theorem YcF{o:Oper}{a:Act}{next:Act->World->Prop}{Q:Exit->Act->World->Prop}{f:FuncId}{vs:Array Value}(h:(execOp a.eval o).run P w= .ok (.enter f vs) w)
  (hc:Calls P f vs w fun e w'=> ∃v,e= .returned v/\next (a.put o.dst v) w'):o.wp P a w next Q:=by
 unfold Oper.wp
 rw[h]
 refine hc.mono ?_
 simp_all
theorem YeT{o:Oper}{g:Nat}{args:List Opd}(h:trOp P fm o=some (.call g args)):
  ∃f xs ats,o.op= .call ⟨.value (.func f),xs,ats⟩/\YtL P f=true/\fm f=g/\xs.toList.map (YtP fm)=args:=by
 obtain⟨dst,oop,ty,pos,after,guard⟩:=o
 cases oop<;>simp only[trOp]at h
 case call c=>
  obtain⟨callee,xs,ats⟩:=c
  cases callee with
  |invoke r m=>cases h
  |builtin b=>
   cases b<;>simp only at h<;>try(cases h;done)
   all_goals(repeat' (split at h))
   all_goals(first| (cases h;done)| (simp only[YxJ,YxE]at h;obtain⟨z,_,h⟩:=h;(repeat' (split at h))<;>first| (cases h;done)|simp at h)|simp at h)
  |value f=>
   cases f with
   |func f=>
    simp only at h
    split at h
    ·injection h with h
     injection h with e1 e2
     exact⟨f,xs,ats,rfl,by assumption,e1,e2⟩
    ·repeat' (split at h)
     all_goals(simp at h)
   |tmp t=>injection h with h;cases h
   |_=>cases h
 case binOp bop t a b q=>
  cases bop<;>simp only at h
  case eql=>
   cases hu:P.underlying t with
   |none=>simp[hu]at h
   |some d=>
    cases d<;>simp only[hu]at h
    all_goals(repeat' (split at h))
    all_goals(first|contradiction|simp at h)
  case neq=>
   cases hu:P.underlying t with
   |none=>simp[hu]at h
   |some d=>
    cases d<;>simp only[hu]at h
    all_goals(repeat' (split at h))
    all_goals(first|contradiction|simp at h)
  all_goals(simp at h)
 case convert s d a=>
  cases hs:P.underlying s with
  |none=>simp[hs]at h
  |some ds=>
   cases hd:P.underlying d with
   |none=>cases ds<;>simp[hs,hd]at h
   |some dd=>
    cases ds<;>cases dd<;>simp[hs,hd]at h
    all_goals(repeat' (split at h))
    all_goals(simp at h)
 case alloc e=>
  cases hz:Yt3 P e<;>simp only[hz,YxG,YxK,YxF,Option.map_none]at h<;>(repeat' (split at h))<;>simp at h
 case buildSlice t len parts=>
  cases hu:P.underlying t with
  |none=>simp[hu]at h
  |some d=>
   cases d<;>simp only[hu]at h<;>try(cases h;done)
   rename_i e
   cases hz:Yt3 P e<;>simp only[hz,YxG,YxK]at h<;>(repeat' (split at h))<;>simp at h
 all_goals(repeat' (split at h))
 all_goals(first|contradiction|simp[YxJ]at h)
theorem Yhe{o:Oper}{x:Opd}{args:List Opd}(h:trOp P fm o=some (.dyn x args)):
  ∃t xs ats,o.op= .call ⟨.value (.tmp t),xs,ats⟩/\x= .t t/\xs.toList.map (YtP fm)=args:=by
 obtain⟨dst,oop,ty,pos,after,guard⟩:=o
 cases oop<;>simp only[trOp]at h
 case call c=>
  obtain⟨callee,xs,ats⟩:=c
  cases callee with
  |invoke r m=>cases h
  |builtin b=>
   cases b<;>simp only at h<;>try trivial
   all_goals(repeat' (split at h))
   all_goals(first| (cases h;done)| (simp only[YxJ,YxE]at h;obtain⟨z,_,h⟩:=h;(repeat' (split at h))<;>first| (cases h;done)|simp at h)|simp at h)
  |value f=>
   cases f with
   |func f=>
    grind
   |tmp t=>
    grind
   |_=>cases h
 case binOp bop t a b q=>
  cases bop<;>simp only at h
  case eql=>
   cases hu:P.underlying t with
   |none=>simp_all
   |some d=>
    cases d<;>simp only[hu]at h
    all_goals(repeat' (split at h))
    all_goals(first|contradiction|simp at h)
  case neq=>
   cases hu:P.underlying t with
   |none=>simp_all
   |some d=>
    cases d<;>simp only[hu]at h
    all_goals(repeat' (split at h))
    all_goals(first|contradiction|simp at h)
  all_goals simp_all
 case convert s d a=>
  grind
 case alloc e=>
  cases hz:Yt3 P e<;>simp only[hz,YxG,YxK,YxF,Option.map_none]at h<;>(grind)<;>simp at h
 case buildSlice t len parts=>
  cases hu:P.underlying t with
  |none=>simp_all
  |some d=>
   cases d<;>simp only[hu]at h<;>try trivial
   rename_i e
   cases hz:Yt3 P e<;>simp only[hz,YxG,YxK]at h<;>(grind)<;>simp at h
 all_goals(repeat' (split at h))
 all_goals(first|contradiction|simp[YxJ]at h)
theorem Yhf{o:Oper}{x:Opd}{args:List Opd}(h:trOp P fm o=some (.dynP x args)):False:=by
 obtain⟨dst,oop,ty,pos,after,guard⟩:=o
 cases oop<;>simp only[trOp]at h
 case binOp bop t a b q=>
  cases bop<;>simp only at h
  case eql=>
   cases hu:P.underlying t with
   |none=>simp_all
   |some d=>
    cases d<;>simp only[hu]at h
    all_goals(repeat' (split at h))
    all_goals(first|contradiction|simp at h)
  case neq=>
   cases hu:P.underlying t with
   |none=>simp_all
   |some d=>
    cases d<;>simp only[hu]at h
    all_goals(repeat' (split at h))
    all_goals(first|contradiction|simp at h)
  all_goals simp_all
 case convert s d a=>
  grind
 case alloc e=>
  cases hz:Yt3 P e<;>simp only[hz,YxG,YxK,YxF,Option.map_none]at h<;>(grind)<;>simp at h
 case buildSlice t len parts=>
  cases hu:P.underlying t with
  |none=>simp_all
  |some d=>
   cases d<;>simp only[hu]at h<;>try trivial
   rename_i e
   cases hz:Yt3 P e<;>simp only[hz,YxG,YxK]at h<;>(grind)<;>simp at h
 all_goals(repeat' (split at h))
 all_goals(first|contradiction|simp[YxJ]at h)
theorem Yhg{o:Oper}{g:Nat}{args:List Opd}{d:Bool}(h:trOp P fm o=some (.callN g args d)):False:=by
 obtain⟨dst,oop,ty,pos,after,guard⟩:=o
 cases oop<;>simp only[trOp]at h
 case binOp bop t a b q=>
  cases bop<;>simp only at h
  case eql=>
   cases hu:P.underlying t with
   |none=>simp_all
   |some d=>
    cases d<;>simp only[hu]at h
    all_goals(repeat' (split at h))
    all_goals(first|contradiction|simp at h)
  case neq=>
   cases hu:P.underlying t with
   |none=>simp_all
   |some d=>
    cases d<;>simp only[hu]at h
    all_goals(repeat' (split at h))
    all_goals(first|contradiction|simp at h)
  all_goals simp_all
 case convert s d a=>
  grind
 case alloc e=>
  cases hz:Yt3 P e<;>simp only[hz,YxG,YxK,YxF,Option.map_none]at h<;>(grind)<;>simp at h
 case buildSlice t len parts=>
  cases hu:P.underlying t with
  |none=>simp_all
  |some d=>
   cases d<;>simp only[hu]at h<;>try trivial
   rename_i e
   cases hz:Yt3 P e<;>simp only[hz,YxG,YxK]at h<;>(grind)<;>simp at h
 all_goals(repeat' (split at h))
 all_goals(first|contradiction|simp[YxJ]at h)
theorem Yhh{C:Ctx}(hC:CtxOK P fm C){o:Oper}{op:AOp}(htr:trOp P fm o=some op){H:Heap}(hr:HR fm w L (hf H)){a:Act}{env:Env}(he:ER fm w L a env)
  {K:AV->Heap->Prop} (hev:evOp C op env H K) {Q:Exit->Act->World->Prop}:o.wp P a w (Ywb fm w L a o.dst K) Q:=by
 have plain:evG op env (hf H) H.length (fun v us=>K v (Yt1 H us))->o.wp P a w (Ywb fm w L a o.dst K) Q:=by
  intro hev
  obtain⟨x,v,us,w',h1,⟨h2,h3⟩,L',h4,h5,h6,h7⟩:=YeP htr hr he (nid:=H.length) (by simp[hf]) (Yhb hev)
  rw[Yhc h3]at h6
  exact YcC h1 ⟨x,v,_,L',rfl,h2,h4,h5,h6,h7⟩
 cases op
 case call g args=>
  obtain⟨f,xs,ats,ho,h0,rfl,rfl⟩:=YeT htr
  obtain⟨h1,h2⟩:=Yhd hC hr (vs:=(xs.toList.map a.eval).toArray) (by simp) (YcE he xs.toList) hev
  refine YcF (f:=f) (vs:=(xs.toList.map a.eval).toArray) ?_ (h2.mono ?_)
  ·have e3:(xs.map a.eval)=(xs.toList.map a.eval).toArray:=by grind
   unfold execOp
   simp[ho,resolve,Deferred.ofValue,Act.eval,invoke]
   rw[YcD h1]
   simp_all
  ·rintro e w' ⟨v,r,H',L',rfl,hk,k1,k2,k3,k4⟩
   exact⟨v,rfl,v,r,H',L',rfl,hk,k1,k2,k3,k4⟩
 case dyn x args=>
  obtain⟨t,xs,ats,ho,rfl,rfl⟩:=Yhe htr
  obtain⟨g,cs,e,hev⟩:=hev
  have hx:=Yad he (.tmp t)
  simp only[YtP]at hx
  rw[show opd env (.t t)= .clo g cs from e]at hx
  obtain⟨f,ys,ex,hfm,hsz,hall⟩:=Ycy hx
  subst hfm
  have e3:(xs.map a.eval)++ys=((xs.toList.map a.eval)++ys.toList).toArray:=by simp
  obtain⟨h1,h2⟩:=Yhd hC hr (vs:=((xs.toList.map a.eval)++ys.toList).toArray) (by grind) (fun j c hj=>by
   by_cases hlt:j<xs.toList.length
   ·rw[YwU (by simp_all)]at hj
    rw[Ycx (by simp_all)]
    have:=YcE he xs.toList j c hj
    simp_all
   ·rw[Yw0 (by simp_all)]at hj
    obtain⟨m,hm⟩: ∃m,j=(xs.toList.map a.eval).length+m:=⟨j-(xs.toList.map a.eval).length,by simp_all⟩
    subst hm
    rw[Ydh]
    simp_all) hev
  refine YcF (f:=f) (vs:=((xs.toList.map a.eval)++ys.toList).toArray) ?_ (h2.mono ?_)
  ·unfold execOp
   simp[ho,resolve,ex,Deferred.ofValue,invoke]
   rw[YcD h1]
   simp
  ·rintro e w' ⟨v,r,H',L',rfl,hk,k1,k2,k3,k4⟩
   exact⟨v,rfl,v,r,H',L',rfl,hk,k1,k2,k3,k4⟩
 case dynP x args=>exact(Yhf htr).elim
 case callN g args d=>exact(Yhg htr).elim
 all_goals exact plain hev
end
end Go.Abs
namespace Go.Abs
open Go Go.RowKit
structure SR(fm:FM)(n:Nat)(w0:World)(L0:Nat->Loc)(st:ASt)(a:Act)(w:World):Prop where
 defers:a.defers=[]
 size:a.tmps.size=n
 base: ∀b,L0 b≠ .fresh->b<st.base
 rel: ∃L,Keep L0 w0 w/\LStep L0 L w0.heap.size/\HR fm w L (hf st.heap)/\ER fm w L a st.env
section
variable{P:Program}{fm:FM}{w:World}{L:Nat->Loc}{n:Nat}{w0:World}{L0:Nat->Loc}
theorem YmF{a:Act}{env:Env}(he:ER fm w L a env){d:Nat}(hd:d<a.tmps.size){x:Value}{v:AV}(hv:VR fm w L x v):ER fm w L (a.put (some d) x) ((d,v)::env):=by
 intro t
 simp only[Act.put,YtM]
 by_cases e:d=t
 ·simp_all
 ·have h1:(d==t)=false:=by simp[e]
  have h2:(a.tmps.setIfInBounds d x).getD t undef=a.tmps.getD t undef:=by
   simp_all
  rw[h1,h2]
  exact he t
theorem er_put'{a:Act}{env:Env}(he:ER fm w L a env){d:Option Nat}(hd: ∀k,d=some k->k<a.tmps.size){x:Value}{v:AV}(hv:VR fm w L x v):ER fm w L (a.put d x) (put env d v):=by
 cases d with
 |none=>exact he
 |some d=>exact YmF he (hd d rfl) hv
theorem YcG{a:Act}{env:Env}(he:ER fm w L a env){g:Nat}{b:Bool}(h:YtM env g= .v (.bool b)):ER fm w L a ((g,.v (.bool b))::env):=by
 intro t
 simp only[YtM]
 by_cases e:g=t
 ·subst e;have:=he g;simp_all
 ·have h1:(g==t)=false:=by simp[e]
  rw[h1];exact he t
theorem YbW(a:Act)(d:Option Nat)(x:Value):(a.put d x).tmps.size=a.tmps.size:=by cases d<;>simp[Act.put]
theorem YbX(a:Act)(d:Option Nat)(x:Value):(a.put d x).defers=a.defers:=by cases d<;>rfl
theorem SR.step{st:ASt}{a:Act}(hs:SR fm n w0 L0 st a w){env:Env}{H:Heap}{L':Nat->Loc}{w':World}{a':Act}(hd:a'.defers=a.defers)(hz:a'.tmps.size=a.tmps.size)
  {L1:Nat->Loc} (h1:Keep L0 w0 w/\LStep L0 L1 w0.heap.size) (hk:Keep L1 w w') (hls:LStep L1 L' w.heap.size) (hr:HR fm w' L' (hf H)) (he:ER fm w' L' a' env):
  SR fm n w0 L0 ⟨env,H,st.base⟩ a' w':=
 ⟨hd.trans hs.defers,hz.trans hs.size,hs.base,L',h1.1.trans h1.2 hk,h1.2.trans (hls.mono h1.1.size),hr,he⟩
theorem YeU{ops:Array Oper}{o:Oper}{y:AI}(h:trAI P fm n ops o=some y):
  trOp P fm o=some y.op/\y.dst=o.dst/\ (∀k,o.dst=some k->k<n)/\y.old=false/\y.nw=false/\
   (o.guard=none/\y.guard=none\/ ∃j want g,o.guard=some (j,want)/\ (ops[j]?).bind (·.dst)=some g/\g<n/\y.guard=some (g,want)):=by
 have key: ∀op,trOp P fm o=some op->(∀k,o.dst=some k->k<n)->(match o.guard with
   |none=>some (⟨o.dst,op,none,false,false⟩:AI)
   |some (j,want)=>match(ops[j]?).bind (·.dst)with
    |some g=>if g<n then some ⟨o.dst,op,some (g,want),false,false⟩else none
    |none=>none)=some y->trOp P fm o=some y.op/\y.dst=o.dst/\ (∀k,o.dst=some k->k<n)/\y.old=false/\y.nw=false/\
   (o.guard=none/\y.guard=none\/ ∃j want g,o.guard=some (j,want)/\ (ops[j]?).bind (·.dst)=some g/\g<n/\y.guard=some (g,want)):=by
  grind
 unfold trAI at h
 cases ho:trOp P fm o with
 |none=>simp_all
 |some op=>
  simp only[ho]at h
  rw[<-ho]
  obtain⟨dst,oop,ty,pos,after,guard⟩:=o
  cases dst with
  |none=>exact key op ho (fun k hk=>by cases hk) h
  |some d=>
   by_cases hlt:d<n
   ·simp only[decide_eq_true hlt]at h
    exact key op ho (fun k hk=>by grind) h
   simp_all
theorem Yhi{ops:Array Oper}{j g:Nat}(h:(ops[j]?).bind (·.dst)=some g){tmps:Array Value}(hg:g<tmps.size){b:Bool}(hb:tmps.getD g undef= .bool b):
  yielded ops tmps j=some b:=by
 unfold yielded
 simp_all
theorem Yhj{ops:Array Oper}{j g:Nat}(h:(ops[j]?).bind (·.dst)=some g){tmps:Array Value}(hg:g<tmps.size)(hb:tmps.getD g undef=undef):
  yielded ops tmps j=none:=by
 unfold yielded
 rw[h]
 simp
 have:tmps[g]?=some undef:=by simp_all
 rw[this]
 rfl
theorem YmG{C:Ctx}(hC:CtxOK P fm C){ops:Array Oper}{o:Oper}{y:AI}(htr:trAI P fm n ops o=some y){n0:Nat->Prop}{K:ASt->Prop}{st:ASt}{a:Act}(hs:SR fm n w0 L0 st a w)
  (hev:evAI C n0 y K st) {Q:Exit->Act->World->Prop}:
  (Region.wanted o (yielded ops a.tmps)=true->o.wp P a w (fun a' w'=> ∃st',K st'/\SR fm n w0 L0 st' a' w') Q)/\
  (Region.wanted o (yielded ops a.tmps)=false-> ∃st',K st'/\SR fm n w0 L0 st' (a.put o.dst undef) w):=by
 obtain⟨hop,hdst,hdn,hold,hnw,hg⟩:=YeU htr
 obtain⟨dst,op,guard,old,nw⟩:=y
 subst hdst;subst hold;subst hnw
 obtain⟨L1,hk1,hs1,hr1,he1⟩:=hs.rel
 have hdn': ∀k,o.dst=some k->k<a.tmps.size:=fun k hk=>by rw[hs.size];simp_all
 have run: ∀env,ER fm w L1 a env->evOp C op env st.heap (fun v H=>K ⟨put env o.dst v,H,st.base⟩)->
   o.wp P a w (fun a' w'=> ∃st',K st'/\SR fm n w0 L0 st' a' w') Q:=by
  intro env he hev
  refine Oper.wp_mono ?_ (Yhh hC hop hr1 he hev)
  rintro a' w' ⟨x,v,H',L',rfl,hk,k1,k2,k3,k4⟩
  refine⟨_,hk,hs.step (YbX _ _ _) (YbW _ _ _) ⟨hk1,hs1⟩ k1 k2 k3 (er_put' (fun t=>(he t).mono k1 k2) hdn' k4)⟩
 have skip: ∀env,ER fm w L1 a env->K ⟨put env o.dst (.v undef),st.heap,st.base⟩-> ∃st',K st'/\SR fm n w0 L0 st' (a.put o.dst undef) w:=by
  intro env he hk
  exact⟨_,hk,hs.step (YbX _ _ _) (YbW _ _ _) ⟨hk1,hs1⟩ (Keep.refl _ _) (LStep.refl _ _) hr1 (er_put' he hdn' (.v _))⟩
 rcases hg with⟨hg1,hg2⟩| ⟨j,want,g,hg1,hg2,hg3,hg4⟩
 ·subst hg2
  refine⟨fun _=>run st.env he1 ?_,fun h=> ?_⟩
  ·simpa[evAI,Yu5]using hev
  ·simp[Region.wanted,hg1]at h
 ·subst hg4
  have hwant: ∀b,YtM st.env g= .v (.bool b)->Region.wanted o (yielded ops a.tmps)=(b==want):=by
   intro b hb
   have h1:=he1 g
   rw[hb]at h1
   have h2:=Yhi hg2 (by rw[hs.size];omega) (Yae h1)
   simp only[Region.wanted,hg1,h2]
   rfl
  have hno:YtM st.env g= .v undef->Region.wanted o (yielded ops a.tmps)=false:=by
   intro hb
   have h1:=he1 g
   rw[hb]at h1
   have h2:=Yhj hg2 (by rw[hs.size];omega) (Yae h1)
   simp only[Region.wanted,hg1,h2]
   rfl
  cases want with
  |true=>
   rcases hev with⟨b,hb,hev⟩| ⟨hb,hev⟩
   case inr=>rw[hno hb];grind
   have hb':YtM st.env g= .v (.bool b):=hb
   rw[hwant b hb']
   cases b with
   |true=>exact⟨fun _=>run _ (YcG he1 hb') (Eq.mp (YeD _ _ _ _ _ _) (hev.1 rfl)),fun h=>by cases h⟩
   |false=>exact⟨fun h=>(by cases h),fun _=>skip _ (YcG he1 hb') (hev.2 rfl)⟩
  |false=>
   rcases hev with⟨b,hb,hev⟩| ⟨hb,hev⟩
   case inr=>rw[hno hb];grind
   have hb':YtM st.env g= .v (.bool b):=hb
   rw[hwant b hb']
   cases b with
   |true=>exact⟨fun h=>(by cases h),fun _=>skip _ (YcG he1 hb') (hev.1 rfl)⟩
   |false=>exact⟨fun _=>run _ (YcG he1 hb') (Eq.mp (YeD _ _ _ _ _ _) (hev.2 rfl)),fun h=>by cases h⟩
theorem YbY{α β:Type}{f:α->Option β}{x:α}{r:List α}{ys:List β}(h:Yt7 f (x::r)=some ys): ∃y zs,f x=some y/\Yt7 f r=some zs/\ys=y::zs:=by
 simp only[Yt7]at h
 grind
theorem Ydt{C:Ctx}(hC:CtxOK P fm C){ops:Array Oper}{n0:Nat->Prop}{Q:Exit->Act->World->Prop}{K:ASt->Prop}
  (hQ: ∀st a w,K st->SR fm n w0 L0 st a w->Q .normal a w): ∀(os:List Oper) (ys:List AI) (st:ASt) (a:Act) (w:World),Yt7 (trAI P fm n ops) os=some ys->Yuy C n0 ys K st->
  SR fm n w0 L0 st a w->wpList P ops Q os a w
 | [],ys,st,a,w,hm,hev,hs=>by
   simp[Yt7]at hm;subst hm
   exact hQ st a w hev hs
 |o::os,ys,st,a,w,hm,hev,hs=>by
  obtain⟨y,zs,h1,h2,rfl⟩:=YbY hm
  obtain⟨r1,r2⟩:=YmG hC h1 hs hev (Q:=Q)
  unfold wpList
  cases hw:Region.wanted o (yielded ops a.tmps)with
  |true=>
   refine .inl (Oper.wp_mono ?_ (r1 hw))
   rintro a' w' ⟨st',hk,hs'⟩
   exact Ydt hC hQ os zs st' a' w' h2 hk hs'
  |false=>
   obtain⟨st',hk,hs'⟩:=r2 hw
   exact Ydt hC hQ os zs st' _ w h2 hk hs'
end
end Go.Abs
namespace Go.Abs
open Go Go.RowKit
def nmd(a:Nat):AV->Prop
 | .ptr b _ _=>a=b
 | .ref b _ _=>a=b
 | .np b=>a=b
 | .clo _ cs=> ∃c∈cs,nm1 a c
 | .agg cs=> ∃off len,AV.ref a off len∈cs
 |_=>False
def Yus(op:AOp)(env:Env)(a:Nat):Prop:= ∃x∈op.touched,nmd a (opd env x)
theorem YeV{env:Env}: ∀(ps:List (Nat×Nat×Opd)) (l:List AV) (K:List AV->Prop),Yvb l env ps K-> ∃cs,K cs/\Yvb l env ps (fun c=>c=cs)
 | [],l,K,h=>⟨l,h,rfl⟩
 | (off,n,x)::r,l,K,h=>by
   obtain⟨cs,h1,h2,h3,h4⟩:=h
   obtain⟨ds,h5,h6⟩:=YeV r _ K h4
   exact⟨ds,h5,cs,h1,h2,h3,h6⟩
theorem YeW{env:Env}{es:Nat}: ∀(ps:List (Nat×Opd)) (l:List (List AV)) (K:List (List AV)->Prop),Yup es l env ps K-> ∃cs,K cs/\Yup es l env ps (fun c=>c=cs)
 | [],l,K,h=>⟨l,h,rfl⟩
 | (i,x)::r,l,K,h=>by
   obtain⟨cs,h1,h2,h3,h4⟩:=h
   obtain⟨ds,h5,h6⟩:=YeW r _ K h4
   exact⟨ds,h5,cs,h1,h2,h3,h6⟩
theorem Yhk{env:Env}{es:Nat}: ∀(ps:List (Nat×Opd)) (l:List (List AV)) {K K':List (List AV)->Prop},(∀c,K c->K' c)->Yup es l env ps K->Yup es l env ps K'
 | [],l,K,K',hk,h=>hk _ h
 | (i,x)::r,l,K,K',hk,h=>by
   obtain⟨cs,h1,h2,h3,h4⟩:=h
   exact⟨cs,h1,h2,h3,Yhk r _ hk h4⟩
theorem YcH{g:Bool}{n:Nat}{cs:List AV}{K:AV->List Upd->Prop}(h:Yul g n cs fun a=>K a []): ∃v us,K v us/\Yul g n cs (fun a=>a=v/\ ([]:List Upd)=us):=by
 cases g
 ·obtain⟨c,h1,h2⟩:=h;exact⟨_,_,h2,c,h1,rfl,rfl⟩
 ·obtain⟨h1,h2⟩:=h;exact⟨_,_,h2,h1,rfl,rfl⟩
theorem YmH{op:BinOp}{k:IntKind}{x y:Int}{K:Value->Prop}(h:YuZ op k x y K): ∃v,K v/\YuZ op k x y (fun v'=>v'=v):=by
 cases op<;>simp only[YuZ]at h⊢ <;>first|simp_all|simp_all
theorem YmI{op:BinOp}{x y:ByteArray}{K:Value->Prop}(h:YuK op x y K): ∃v,K v/\YuK op x y (fun v'=>v'=v):=by
 cases op<;>simp only[YuK]at h⊢ <;>first|simp_all|simp_all|simp_all
theorem Yhl{op:BinOp}{a b:AV}{K:Value->Prop}(h:binK op a b K): ∃v,K v/\binK op a b (fun v'=>v'=v):=by
 unfold binK at h⊢
 split at h
 ·obtain⟨v,h1,h2⟩:=YmH h.2;grind
 ·exact YmI h
 trivial
theorem Yav{env:Env}{o:Option Opd}{d:Nat}{K:Nat->Prop}(h:slB env o d K): ∃n,K n/\ ∀K':Nat->Prop,K' n->slB env o d K':=by
 cases o with
 |none=>exact⟨d,h,fun K' h=>h⟩
 |some x=>obtain⟨k,n,e,h0,h⟩:=h;exact⟨_,h,fun K' h=>⟨k,n,e,h0,h⟩⟩
theorem Yhm{es:Nat}{s:AV}{l:List (List AV)}{h:HF}{nid:Nat}{K:AV->List Upd->Prop}(hev:appK es s l h nid K): ∃v us,K v us/\appK es s l h nid (fun v' us'=>v'=v/\us'=us):=by
 cases s<;>try trivial
 case emp=>obtain⟨h1,h2,h0,h3⟩:=hev;exact⟨_,_,h3,h1,h2,h0,rfl,rfl⟩
 case ref a off len=>obtain⟨o,ha,h1,h2,h3,h4,h5,h6⟩:=hev;exact⟨_,_,h6,o,ha,h1,h2,h3,h4,h5,rfl,rfl⟩
theorem Yhn(op:AOp)(env:Env)(h:HF)(nid:Nat)(K:AV->List Upd->Prop)(hev:evG op env h nid K): ∃v us,K v us/\evG op env h nid (fun v' us'=>v'=v/\us'=us):=by
 cases op<;>simp only[evG,opK]at hev⊢ <;>try exact hev.elim
 case pv=>grind
 case mv=>simp_all
 case pick c a b=>
  obtain⟨t,e,h1,h2⟩:=hev
  cases t
  ·exact⟨_,_,h2 rfl,false,e,(YlE _ _).mpr ⟨rfl,rfl⟩⟩
  ·exact⟨_,_,h1 rfl,true,e,(YlD _ _).mpr ⟨rfl,rfl⟩⟩
 case box=>obtain⟨cs,h1,h2,h3,h4⟩:=hev;exact⟨_,_,h4,cs,h1,h2,h3,rfl,rfl⟩
 case alloc=>simp_all
 case build z ps=>obtain⟨cs,h1,h2⟩:=YeV _ _ _ hev;grind
 case bsl es z n ps=>obtain⟨cs,h1,h2⟩:=YeW _ _ _ hev;exact⟨_,_,h1,Yhk _ _ (fun c e=>by simp_all) h2⟩
 case load g n x=>
  split at hev<;>try trivial
  ·exact YcH hev
  ·obtain⟨o,ha,e,he,h1⟩:=hev
   obtain⟨v,us,h2,h3⟩:=YcH h1
   exact⟨v,us,h2,o,ha,e,he,h3⟩
 case loadR g n x=>
  split at hev<;>try trivial
  exact YcH hev
 case store n x y=>
  split at hev<;>try trivial
  obtain⟨o,ha,e,he,cs,hcs,h1,h2,h3⟩:=hev
  exact⟨_,_,h3,o,ha,e,he,cs,hcs,h1,h2,rfl,rfl⟩
 case nilc x=>grind
 case bin op x y=>obtain⟨v,h1,h2⟩:=Yhl hev;grind
 case beq=>obtain⟨b,e,c,e',h⟩:=hev;exact⟨_,_,h,b,e,c,e',rfl,rfl⟩
 case eqa=>grind
 case not=>obtain⟨b,e,h⟩:=hev;exact⟨_,_,h,b,e,rfl,rfl⟩
 case neg=>grind
 case conv=>obtain⟨k,n,e,h⟩:=hev;exact⟨_,_,h,k,n,e,rfl,rfl⟩
 case cvs=>obtain⟨s,e,h⟩:=hev;exact⟨_,_,h,s,e,rfl,rfl⟩
 case fad=>grind
 case fld g off n x=>
  obtain⟨cs,e,h1,h2⟩:=hev
  obtain⟨v,us,h3,h4⟩:=YcH h2
  grind
 case iad es x i=>
  obtain⟨k,n,e,h⟩:=hev
  split at h<;>try trivial
  ·obtain⟨h1,h2,c,h3,h4⟩:=h
   exact⟨_,_,h4,k,n,e,h1,h2,c,h3,rfl,rfl⟩
  ·obtain⟨o,ha,h1,h2,h3,h4,h5⟩:=h
   exact⟨_,_,h5,k,n,e,o,ha,h1,h2,h3,h4,rfl,rfl⟩
 case iada es len x i=>
  obtain⟨k,n,e,h0,h1,h⟩:=hev
  split at h<;>first|trivial|exact⟨_,_,h,k,n,e,h0,h1,rfl,rfl⟩
 case idx=>obtain⟨s,e,k,n,e',h0,b,h1,h2⟩:=hev;exact⟨_,_,h2,s,e,k,n,e',h0,b,h1,rfl,rfl⟩
 case slcS x lo hi=>
  obtain⟨s,e,h⟩:=hev
  obtain⟨l,h1,k1⟩:=Yav h
  obtain⟨m,⟨h2,h3,h4⟩,k2⟩:=Yav h1
  exact⟨_,_,h4,s,e,k1 _ (k2 _ ⟨h2,h3,rfl,rfl⟩)⟩
 case slcR es x lo hi=>
  split at hev<;>try trivial
  ·obtain⟨e,h⟩:=hev
   obtain⟨l,h1,k1⟩:=Yav h
   obtain⟨m,⟨h2,h3,h4⟩,k2⟩:=Yav h1
   grind
  ·obtain⟨l,h1,k1⟩:=Yav hev
   obtain⟨m,⟨h2,h3,h4⟩,k2⟩:=Yav h1
   grind
  ·obtain⟨l,h1,k1⟩:=Yav hev
   obtain⟨m,⟨h2,h3,h4⟩,k2⟩:=Yav h1
   grind
 case ext=>grind
 case len=>grind
 case lenS=>obtain⟨s,e,h⟩:=hev;exact⟨_,_,h,s,e,rfl,rfl⟩
 case app es s x=>
  split at hev<;>try trivial
  ·obtain⟨h1,h2⟩:=hev
   obtain⟨v,us,h3,h4⟩:=Yhm h2
   grind
  ·exact Yhm hev
 case mksl=>obtain⟨k,n,e,k',c,e',h0,h1,h2,h3⟩:=hev;exact⟨_,_,h3,k,n,e,k',c,e',h0,h1,h2,rfl,rfl⟩
 case mkf=>simp_all
 grind
def Shape(op:AOp)(env:Env)(h:HF)(us:List Upd):Prop:=
 (us=[]/\op.news (fun _=>true)=false)\/(∃o,us=[.push o]/\op.news (fun _=>true)=true)\/
 (∃a o,us=[.set a o]/\h a≠none/\op.eff (fun _=>true)=true/\op.news (fun _=>true)=false/\Yus op env a)\/
 (∃a o p,us=[.set a o,.push p]/\h a≠none/\op.eff (fun _=>true)=true/\op.news (fun _=>true)=true/\Yus op env a)
theorem YmJ{os es:Nat}{s:AV}{l:List (List AV)}{h:HF}{nid:Nat}{o:AObj}{us:List Upd}(hx:apX os es s l h nid=some (o,us)):
  us=[]\/ ∃a off len,s= .ref a off len/\us=[.set a none]/\h a≠none:=by
 unfold apX at hx
 grind
theorem YmK{α:Type}{l:List α}(h:l.length=2): ∃a b,l=[a,b]:=by
 match l,h with
 | [a,b],_=>simp
theorem YmL{op:XOp}{xs:List Opd}{env:Env}{h:HF}{nid:Nat}{v:AV}{us:List Upd}(hx:xF op (xs.map (opd env)) h nid=some (v,us)):Shape (.px op xs) env h us:=by
 have app: ∀{os es s x l o us0 p},apX os es s l h nid=some (o,us0)->xs.map (opd env)=[s,x]->op.eff=true->op.news=true->op.look=1->Shape (.px op xs) env h (us0++[.push p]):=by
  intro os es s x l o us0 p hap hm he hn hl
  rcases YmJ hap with rfl| ⟨a,off,len,rfl,rfl,hne⟩
  ·exact .inr (.inl ⟨_,rfl,hn⟩)
  ·refine .inr (.inr (.inr ⟨a,_,_,rfl,hne,he,hn,?_⟩))
   obtain⟨q,r,rfl⟩:=YmK (by have hl:=congrArg List.length hm;grind:xs.length=2)
   simp at hm
   exact⟨q,by simp[AOp.touched,hl],by rw[hm.1];rfl⟩
 have nam: ∀(f:AV) (rest:List AV) (a:Nat),xs.map (opd env)=f::rest->op.look=1->nmd a f->Yus (.px op xs) env a:=by
  intro f rest a hm hl hn
  cases xs with
  |nil=>trivial
  |cons q r=>
   simp at hm
   exact⟨q,by simp[AOp.touched,hl],by simp_all⟩
 revert hx app nam
 generalize hys:xs.map (opd env)=ys
 intro hx app nam
 unfold xF at hx
 split at hx
 all_goals(repeat' (first| (cases hx;done)| (replace hx:=(cond_ok' hx).2)|split at hx))
 all_goals
  injection hx with hx
  injection hx with _ hx
  subst hx
  first
   |exact .inl ⟨rfl,rfl⟩
   |exact .inr (.inl ⟨_,rfl,rfl⟩)
   |exact app (by assumption) rfl rfl rfl rfl
   |exact .inr (.inr (.inl ⟨_,_,rfl,fun hn=>by simp_all,rfl,rfl,nam _ _ _ rfl rfl rfl⟩))
theorem Yho{op:AOp}{env:Env}{h:HF}{nid:Nat}{v:AV}{us:List Upd}(hev:evG op env h nid (fun v' us'=>v'=v/\us'=us)):Shape op env h us:=by
 cases op
 case store n x y=>
  simp only[evG,opK]at hev
  split at hev<;>try trivial
  rename_i a i j e
  obtain⟨o,ha,e',he,cs,hcs,h1,h2,_,h3⟩:=hev
  exact .inr (.inr (.inl ⟨a,_,h3.symm,by simp_all,rfl,rfl,x,by simp[AOp.touched],by rw[e];rfl⟩))
 case app es s x=>
  have key: ∀l,appK es (opd env s) l h nid (fun v' us'=>v'=v/\us'=us)->Shape (.app es s x) env h us:=by
   intro l hk
   cases hs:opd env s<;>rw[hs]at hk<;>try trivial
   case emp=>obtain⟨h1,h2,_,_,h3⟩:=hk;exact .inr (.inl ⟨_,h3.symm,rfl⟩)
   case ref a off len=>
    obtain⟨o,ha,h1,h2,h3,h4,h5,_,h6⟩:=hk
    exact .inr (.inr (.inr ⟨a,_,_,h6.symm,by simp_all,rfl,rfl,s,by simp[AOp.touched],by rw[hs];rfl⟩))
  simp only[evG,opK]at hev
  grind
 case box x=>obtain⟨cs,h1,h2,h3,_,h4⟩:=hev;exact .inr (.inl ⟨_,h4.symm,rfl⟩)
 case alloc z=>obtain⟨_,h4⟩:=hev;exact .inr (.inl ⟨_,h4.symm,rfl⟩)
 case mksl=>obtain⟨k,n,e,k',c,e',h0,h1,h2,_,h3⟩:=hev;exact .inr (.inl ⟨_,h3.symm,rfl⟩)
 case call=>trivial
 case dyn=>trivial
 case dynP=>trivial
 case callN=>trivial
 case px op xs=>obtain⟨v',us',h1,_,h2⟩:=hev;subst h2;exact YmL h1
 all_goals
  refine .inl ⟨?_,rfl⟩
  simp only[evG,opK,YvC,intK,strK,bsp]at hev
 case pv=>grind
 case mv=>simp_all
 case mkf=>simp_all
 case pick c a b=>
  grind
 case build z ps=>obtain⟨cs,h1,h2⟩:=YeV _ _ _ hev;simp_all
 case bsl es z n ps=>obtain⟨cs,h1,h2⟩:=YeW _ _ _ hev;simp_all
 case load g n x=>
  split at hev<;>try trivial
  ·obtain⟨v,us,h2,h3⟩:=YcH (K:=fun a us'=>a=v/\us'=us) hev
   cases g
   ·obtain⟨_,_,h⟩:=hev;simp_all
   ·exact hev.2.2.symm
  ·obtain⟨o,ha,e,he,h1⟩:=hev
   cases g
   ·obtain⟨_,_,h⟩:=h1;simp_all
   ·exact h1.2.2.symm
 case loadR g n x=>
  split at hev<;>try trivial
  cases g
  ·obtain⟨_,_,h⟩:=hev;simp_all
  ·exact hev.2.2.symm
 case nilc x=>grind
 case bin op x y=>obtain⟨v,h1,h2⟩:=Yhl hev;simp_all
 case beq=>grind
 case eqa=>grind
 case not=>grind
 case neg=>grind
 case conv=>grind
 case cvs=>grind
 case fad=>grind
 case fld g off n x=>
  obtain⟨cs,e,h1,h2⟩:=hev
  cases g
  ·obtain⟨_,_,h⟩:=h2;simp_all
  ·exact h2.2.2.symm
 case iad es x i=>
  obtain⟨k,n,e,h⟩:=hev
  split at h<;>try trivial
  ·grind
  ·obtain⟨o,ha,h1,h2,h3,h4,h5⟩:=h;simp_all
 case iada es len x i=>
  grind
 case idx=>grind
 case slcS x lo hi=>
  obtain⟨s,e,h⟩:=hev
  obtain⟨l,h1,k1⟩:=Yav h
  obtain⟨m,⟨h2,h3,h4⟩,k2⟩:=Yav h1
  simp_all
 case slcR es x lo hi=>
  split at hev<;>try trivial
  ·obtain⟨e,h⟩:=hev
   obtain⟨l,h1,k1⟩:=Yav h
   obtain⟨m,⟨h2,h3,h4⟩,k2⟩:=Yav h1
   simp_all
  ·obtain⟨l,h1,k1⟩:=Yav hev
   obtain⟨m,⟨h2,h3,h4⟩,k2⟩:=Yav h1
   simp_all
  ·obtain⟨l,h1,k1⟩:=Yav hev
   obtain⟨m,⟨h2,h3,h4⟩,k2⟩:=Yav h1
   simp_all
 case ext=>grind
 case len=>grind
 grind
end Go.Abs
namespace Go.Abs
open Go Go.RowKit
def EqE(a b:Env):Prop:= ∀t,YtM a t=YtM b t
theorem EqE.refl(a:Env):EqE a a:=fun _=>rfl
theorem EqE.symm{a b:Env}(h:EqE a b):EqE b a:=fun t=>(h t).symm
theorem EqE.trans{a b c:Env}(h:EqE a b)(k:EqE b c):EqE a c:=fun t=>(h t).trans (k t)
def OnE(ts:List Nat)(a b:Env):Prop:= ∀t∈ts,YtM b t=YtM a t
theorem Yaf{x:Opd}{a b:Env}(h:OnE x.tmps a b):opd b x=opd a x:=by
 cases x with
 |t n=>exact h n (by simp[Opd.tmps])
 |c v=>rfl
theorem OnE.left{xs ys:List Nat}{a b:Env}(h:OnE (xs++ys) a b):OnE xs a b:=fun t ht=>h t (List.mem_append_left _ ht)
theorem OnE.right{xs ys:List Nat}{a b:Env}(h:OnE (xs++ys) a b):OnE ys a b:=fun t ht=>h t (List.mem_append_right _ ht)
theorem Ya7{a b:Env}: ∀{xs:List Opd},OnE (xs.flatMap Opd.tmps) a b->xs.map (opd b)=xs.map (opd a)
 | [],_=>rfl
 |x::r,h=>by
  simp only[YwS,Yaf h.left,Ya7 h.right]
theorem Yhp{a b:Env}: ∀{ps:List (Nat×Nat×Opd)} {l:List AV} {K:List AV->Prop},OnE (ps.flatMap fun p=>p.2.2.tmps) a b->Yvb l a ps K->Yvb l b ps K
 | [],l,K,_,h=>h
 | (off,n,x)::r,l,K,ho,h=>by
   obtain⟨cs,h1,h2,h3,h4⟩:=h
   exact⟨cs,by rw[Yaf ho.left];exact h1,h2,h3,Yhp ho.right h4⟩
theorem Yhq{a b:Env}{es:Nat}: ∀{ps:List (Nat×Opd)} {l:List (List AV)} {K:List (List AV)->Prop},OnE (ps.flatMap fun p=>p.2.tmps) a b->Yup es l a ps K->Yup es l b ps K
 | [],l,K,_,h=>h
 | (i,x)::r,l,K,ho,h=>by
   obtain⟨cs,h1,h2,h3,h4⟩:=h
   exact⟨cs,by rw[Yaf ho.left];exact h1,h2,h3,Yhq ho.right h4⟩
theorem Ybk{a b:Env}{o:Option Opd}{d:Nat}{K:Nat->Prop}(ho:OnE (match o with|some o=>o.tmps|none=>[]) a b)(h:slB a o d K):slB b o d K:=by
 cases o with
 |none=>exact h
 |some x=>simp only[slB,opK]at h⊢;rw[Yaf ho];exact h
theorem Ydu{a:Env}{o:Option Opd}{d:Nat}{K K':Nat->Prop}(hk: ∀n,K n->K' n)(h:slB a o d K):slB a o d K':=by
 cases o with
 |none=>exact hk _ h
 |some x=>obtain⟨k,n,e,h0,h⟩:=h;exact⟨k,n,e,h0,hk _ h⟩
theorem YmM{op:XOp}{xs:List Opd}{env:Env}{h h2:HF}{nid:Nat}{r:AV×List Upd}(hd:op.deep=false\/h2=h)(hh: ∀a,Yus (.px op xs) env a->h2 a=h a)(hx:xF op (xs.map (opd env)) h nid=some r):xF op (xs.map (opd env)) h2 nid=some r:=by
 rcases hd with hd|rfl
 rotate_left
 ·exact hx
 have key2: ∀(s:AV),(0<op.look->(xs.map (opd env))[0]?=some s)->0<op.look-> ∀a,s= .np a->h2 a=h a:=by
  intro s hs hl a e
  subst e
  cases xs with
  |nil=>simp_all
  |cons x r=>
   have:=hs hl
   simp at this
   refine hh a ⟨x,?_,by rw[this];rfl⟩
   show x∈ (x::r).take op.look
   cases hlk:op.look with
   |zero=>omega
   |succ n=>simp
 have key: ∀(s:AV),(0<op.look->(xs.map (opd env))[0]?=some s)->0<op.look-> ∀a off len,s= .ref a off len->h2 a=h a:=by
  intro s hs hl a off len e
  subst e
  cases xs with
  |nil=>simp_all
  |cons x r=>
   have:=hs hl
   simp at this
   refine hh a ⟨x,?_,by rw[this];rfl⟩
   show x∈ (x::r).take op.look
   cases hlk:op.look with
   |zero=>omega
   |succ n=>simp
 have app: ∀os es s l,(∀a off len,s= .ref a off len->h2 a=h a)->apX os es s l h2 nid=apX os es s l h nid:=by
  intro os es s l hs
  cases s<;>try rfl
  rename_i a off len
  unfold apX
  simp_all
 revert key2;revert key;revert hx;revert hd
 generalize xs.map (opd env)=ys
 intro hd hx key key2
 unfold xF at hx⊢
 split at hx
 all_goals first
  |exact hx
  | (rename_i s x
     have e: ∀os es l,apX os es s l h2 nid=apX os es s l h nid:=fun os es l=>app os es s l (key s (fun _=>rfl) Nat.zero_lt_one)
     simp only[e]
     exact hx)
  | (rename_i a off len
     rw[key _ (fun _=>rfl) Nat.zero_lt_one a off len rfl]
     exact hx)
  | (rename_i a off len x
     rw[key _ (fun _=>rfl) Nat.zero_lt_one a off len rfl]
     exact hx)
  | (rename_i a
     rw[key2 _ (fun _=>rfl) Nat.zero_lt_one a rfl]
     exact hx)
  | (rename_i a k
     rw[key2 _ (fun _=>rfl) Nat.zero_lt_one a rfl]
     exact hx)
  | (rename_i a k z
     rw[key2 _ (fun _=>rfl) Nat.zero_lt_one a rfl]
     exact hx)
  |cases hd
  |cases hx
theorem YmN{op:AOp}{env env2:Env}{h h2:HF}{nid:Nat}{K:AV->List Upd->Prop}(hd:op.deep=false\/h2=h)(he:OnE op.uses env env2)(hh: ∀a,Yus op env a->h2 a=h a)(hev:evG op env h nid K):
  evG op env2 h2 nid K:=by
 cases op<;>simp only[AOp.uses]at he<;>simp only[evG,opK]at hev⊢ <;>try exact hev.elim
 case mv=>rw[Yaf he];omega
 case pick=>rw[Yaf he.left.left,Yaf he.left.right,Yaf he.right];omega
 case box=>rw[Yaf he];omega
 case alloc=>omega
 case build=>exact Yhp he hev
 case bsl=>exact Yhq he hev
 case load g n x=>
  rw[Yaf he]
  split at hev<;>try exact hev.elim
  ·omega
  ·rename_i a i j e
   obtain⟨o,ha,h1⟩:=hev
   exact⟨o,by rw[hh a ⟨x,by simp[AOp.touched],by rw[e];rfl⟩];exact ha,h1⟩
 case loadR=>rw[Yaf he];omega
 case store n x y=>
  rw[Yaf he.left,Yaf he.right]
  split at hev<;>try trivial
  rename_i a i j e
  obtain⟨o,ha,h1⟩:=hev
  exact⟨o,by rw[hh a ⟨x,by simp[AOp.touched],by rw[e];rfl⟩];exact ha,h1⟩
 case nilc=>rw[Yaf he];omega
 case bin=>rw[Yaf he.left,Yaf he.right];omega
 case beq=>rw[Yaf he.left,Yaf he.right];omega
 case eqa=>rw[Yaf he.left,Yaf he.right];omega
 case not=>rw[Yaf he];omega
 case neg=>rw[Yaf he];omega
 case conv=>rw[Yaf he];omega
 case cvs=>rw[Yaf he];omega
 case fad=>rw[Yaf he];omega
 case fld=>rw[Yaf he];omega
 case iad es x i=>
  rw[Yaf he.left,Yaf he.right]
  obtain⟨k,n,ei,h1⟩:=hev
  refine⟨k,n,ei,?_⟩
  split at h1<;>try exact h1.elim
  ·exact h1
  ·rename_i a off len e
   obtain⟨o,ha,h3⟩:=h1
   exact⟨o,by rw[hh a ⟨x,by simp[AOp.touched],by rw[e];rfl⟩];exact ha,h3⟩
 case iada=>rw[Yaf he.left,Yaf he.right];omega
 case idx=>rw[Yaf he.left,Yaf he.right];omega
 case slcS x lo hi=>
  rw[Yaf he.left.left]
  obtain⟨s,e,h1⟩:=hev
  exact⟨s,e,Ybk he.left.right (Ydu (fun l hl=>Ybk he.right hl) h1)⟩
 case slcR es x lo hi=>
  rw[Yaf he.left.left]
  split at hev<;>try trivial
  ·exact⟨hev.1,Ybk he.left.right (Ydu (fun l hl=>Ybk he.right hl) hev.2)⟩
  ·exact Ybk he.left.right (Ydu (fun l hl=>Ybk he.right hl) hev)
  ·exact Ybk he.left.right (Ydu (fun l hl=>Ybk he.right hl) hev)
 case ext=>rw[Yaf he];omega
 case len=>rw[Yaf he];omega
 case lenS=>rw[Yaf he];omega
 case app es s x=>
  rw[Yaf he.left,Yaf he.right]
  have key: ∀l,appK es (opd env s) l h nid K->appK es (opd env s) l h2 nid K:=by
   intro l hk
   cases hs:opd env s<;>rw[hs]at hk<;>try exact hk.elim
   case emp=>exact hk
   case ref a off len=>
    obtain⟨o,ha,h1⟩:=hk
    exact⟨o,by rw[hh a ⟨s,by simp[AOp.touched],by rw[hs];rfl⟩];exact ha,h1⟩
  grind
 case mksl=>rw[Yaf he.left,Yaf he.right];omega
 case mkf=>rw[Ya7 he];omega
 case pv=>rw[Ya7 he];omega
 case px op xs=>rw[Ya7 he];obtain⟨v,us,h1,h2⟩:=hev;exact⟨v,us,YmM hd hh h1,h2⟩
theorem YmO{op:XOp}(hn:op.news=false)(xs:List AV)(h:HF)(nid nid':Nat):xF op xs h nid'=xF op xs h nid:=by
 cases op<;>first| (cases hn;done)| (unfold xF;split<;>first|rfl|trivial)
theorem YmP{op:AOp}{env:Env}{h:HF}{nid:Nat}(nid':Nat){K:AV->List Upd->Prop}(hn:op.news (fun _=>true)=false)(hev:evG op env h nid K):evG op env h nid' K:=by
 cases op<;>first|exact hev| (cases hn;done)|skip
 case px op xs=>obtain⟨v,us,h1,h2⟩:=hev;exact⟨v,us,by rw[YmO hn];exact h1,h2⟩
def Ywx(C:Ctx)(f:Nat)(args:List AV)(h:HF)(r:AV):Prop:=
 ∃args1 args',All2 (Bor h) args args1/\ (args1=args\/Scal r)/\All2 Coe args1 args'/\C.C f args' [] r []
def OpU(C:Ctx)(op:AOp)(env:Env)(h:HF)(nid:Nat)(v:AV)(us:List Upd):Prop:=
 match op with
 | .call f args=>C.pf f=true/\us=[]/\Ywx C f (args.map (opd env)) h v
 | .dynP x args=> ∃f cs,opd env x= .clo f cs/\C.pf f=true/\us=[]/\Ywx C f (args.map (opd env)++cs) h v
 | .dyn _ _=>False
 | .callN f args d=> ∃args1 args' o len,All2 (Bor h) (args.map (opd env)) args1/\ (args1=args.map (opd env)\/Yu0 o)/\All2 Coe args1 args'/\MkC C f args' o len/\ (d=true->len=o.el.length)/\v=mkV d o nid len/\us=[.push (mkO d o)]
 |op=>evG op env h nid (fun v' us'=>v'=v/\us'=us)
theorem YeX{i:Nat}{a:AV}(h:nm1 i a):nmd i a:=by
 cases a<;>first|exact h|trivial
theorem Yhr{h h2:HF}{a b:AV}(hh: ∀i off len,a= .ref i off len->h2 i=h i)(hb:Bor1 h a b):Bor1 h2 a b:=by
 rcases hb with e| ⟨i,off,len,o,e,h1,h2',h3⟩
 ·exact .inl e
 ·exact .inr ⟨i,off,len,o,e,by simp_all,h2',h3⟩
theorem Yhs{h h2:HF}: ∀{as bs:List AV},(∀i off len,AV.ref i off len∈as->h2 i=h i)->All2 (Bor1 h) as bs->All2 (Bor1 h2) as bs
 | [],[],_,_=>trivial
 |a::as,b::bs,hh,hall=>⟨Yhr (fun i off len e=>hh i off len (by simp_all)) hall.1,Yhs (fun x off len hx=>hh x off len (Yxj _ hx)) hall.2⟩
 | [],_::_,_,h=>h.elim
 |_::_,[],_,h=>h.elim
theorem Ydv{h h2:HF}: ∀{as bs:List AV},(∀i,(∃a∈as,nm1 i a)->h2 i=h i)->All2 (Bor h) as bs->All2 (Bor h2) as bs
 | [],[],_,_=>trivial
 |a::as,b::bs,hh,hall=>by
  refine⟨?_,Ydv (fun i ⟨x,hx,hn⟩=>hh i ⟨x,Yxj _ hx,hn⟩) hall.2⟩
  rcases hall.1 with hb| ⟨cs,ds,e1,e2,hb⟩
  ·exact .inl (Yhr (fun i off len e=>hh i ⟨a,Yw6 ..,by rw[e];rfl⟩) hb)
  ·exact .inr ⟨cs,ds,e1,e2,Yhs (fun i off len hm=>hh i ⟨a,Yw6 ..,by rw[e1];exact⟨off,len,hm⟩⟩) hb⟩
 | [],_::_,_,h=>h.elim
 |_::_,[],_,h=>h.elim
theorem YmQ{C:Ctx}{op:AOp}{env env2:Env}{h h2:HF}{nid:Nat}{v:AV}{us:List Upd}(hd:op.deep=false\/h2=h)(he:OnE op.uses env env2)(hh: ∀a,Yus op env a->h2 a=h a)
  (hev:OpU C op env h nid v us):OpU C op env2 h2 nid v us:=by
 cases op
 case call f args=>
  obtain⟨h1,h2',a1,a2,h3,h4⟩:=hev
  refine⟨h1,h2',a1,a2,?_⟩
  rw[Ya7 he]
  refine⟨Ydv (fun i ⟨a,ha,hn⟩=>hh i ?_) h3,h4⟩
  obtain⟨x,hx,e⟩:=Yw3.1 ha
  exact⟨x,hx,by rw[e];exact YeX hn⟩
 case dynP x args=>
  obtain⟨f,cs,e,h1,h2',a1,a2,h3,h4⟩:=hev
  refine⟨f,cs,by rw[Yaf he.left];exact e,h1,h2',a1,a2,?_⟩
  rw[Ya7 he.right]
  refine⟨Ydv (fun i ⟨a,ha,hn⟩=>hh i ?_) h3,h4⟩
  rcases Yxi.1 ha with ha|ha
  ·obtain⟨y,hy,e⟩:=Yw3.1 ha
   exact⟨y,Yxj _ hy,by rw[e];exact YeX hn⟩
  ·exact⟨x,Yw6 ..,by rw[e];exact⟨a,ha,hn⟩⟩
 case dyn=>trivial
 case callN f args d=>
  obtain⟨args1,args',o,len,h1,h2⟩:=hev
  refine⟨args1,args',o,len,?_⟩
  rw[Ya7 he]
  refine⟨Ydv (fun i ⟨a,ha,hn⟩=>hh i ?_) h1,h2⟩
  obtain⟨y,hy,e⟩:=Yw3.1 ha
  exact⟨y,hy,by rw[e];exact YeX hn⟩
 all_goals exact YmN (h:=h) (nid:=nid) (K:=fun v' us'=>v'=v/\us'=us) hd he hh hev
theorem Ydw{C:Ctx}{op:AOp}{env:Env}{h:HF}{nid:Nat}{v:AV}{us:List Upd}(hev:OpU C op env h nid v us):Shape op env h us:=by
 cases op
 case call f args=>exact .inl ⟨hev.2.1,rfl⟩
 case dynP x args=>obtain⟨f,cs,e,h1,h2',_⟩:=hev;exact .inl ⟨h2',rfl⟩
 case dyn=>trivial
 case callN f args d=>obtain⟨_,_,o,_,_,_,_,_,_,_,h⟩:=hev;exact .inr (.inl ⟨mkO d o,h,rfl⟩)
 all_goals exact Yho (nid:=nid) hev
end Go.Abs
namespace Go.Abs
open Go Go.RowKit
theorem YmR{op:XOp}{xs:List Opd}{x:Opd}(h:x∈xs.take op.look):Yxu 0 op.look=true:=by
 cases hl:op.look with
 |zero=>simp_all
 |succ n=>rfl
theorem YbZ{op:AOp}{env:Env}{a:Nat}(h:Yus op env a):op.touch=true:=by
 obtain⟨x,hx,_⟩:=h
 cases op<;>first|rfl|exact YmR hx|trivial
theorem YmS{op:AOp}{pf:Nat->Bool}(h:op.wild pf=true):op.touch=true:=by
 cases op<;>first|rfl|cases h
theorem YeY{op:AOp}{pf:Nat->Bool}(h:op.eff (fun _=>true)=true):op.eff pf=true:=by
 cases op<;>first|rfl|exact h|cases h
theorem Ya8{op:AOp}{pf:Nat->Bool}(h:op.news (fun _=>true)=true):op.news pf=true:=by
 cases op<;>first|rfl|exact h|cases h
theorem Yht{n0:Nat->Prop}{env:Env}: ∀{xs:List Opd},YuC n0 env xs-> ∀x∈xs,YvW n0 (opd env x)
 | [],_,x,hx=>by cases hx
 |y::r,h,x,hx=>by
  rcases Yw2.1 hx with rfl|hx
  ·exact h.1
  ·exact Yht h.2 x hx
theorem Yb0{n0:Nat->Prop}{env:Env}{op:AOp}{a:Nat}(h:YuC n0 env op.touched)(hn:Yus op env a): ¬n0 a:=by
 obtain⟨x,hx,ha⟩:=hn
 have:=Yht h x hx
 cases hv:opd env x<;>rw[hv]at ha this<;>try exact ha.elim
 ·exact ha.symm▸this
 ·exact ha.symm▸this
 ·obtain⟨off,len,ha⟩:=ha;exact this a off len ha
 ·obtain⟨c,hc,ha⟩:=ha;exact this a c hc ha
 ·exact ha.symm▸this
theorem YeZ{n0:Nat->Prop}{a:Nat}{v:AV}(h:YvF n0 v)(ha:nmd a v):n0 a:=by
 cases v<;>first|exact ha.elim|exact h.elim|exact ha.symm▸h
theorem Yhu{op:AOp}(h:op.eff (fun _=>true)=true):op.isCall=false:=by
 cases op<;>first|rfl|cases h
theorem Yhv{n0:Nat->Prop}{env:Env}{op:AOp}{a:Nat}(h:nwC n0 env op)(hc:op.isCall=false)(hn:Yus op env a):n0 a:=by
 obtain⟨x,hx,ha⟩:=hn
 cases op<;>try first|exact h.elim| (cases hc;done)
 ·simp[AOp.touched]at hx;subst hx;exact YeZ h ha
 ·simp[AOp.touched]at hx;subst hx;exact YeZ h ha
 ·exact YeZ (h x hx) ha
def Yun(y:AI)(env:Env):Prop:=y.guard=none\/ ∃g b,y.guard=some (g,b)/\YtM env g= .v (.bool b)
def RunC(C:Ctx)(n0:Nat->Prop)(y:AI)(env:Env)(h:HF)(v:AV)(nid:Nat)(us:List Upd):Prop:=
 Yun y env/\ (y.old=true->YuC n0 env y.op.touched)/\ (y.nw=true->nwC n0 env y.op)/\n0 nid/\ (y.op.news (fun _=>true)=true->h nid=none)/\OpU C y.op env h nid v us
def YwK(y:AI)(env:Env)(v:AV)(us:List Upd):Prop:=(∃g b,y.guard=some (g,b)/\ (YtM env g= .v (.bool (!b))\/YtM env g= .v undef))/\v= .v undef/\us=[]
def YuE(C:Ctx)(n0:Nat->Prop)(y:AI)(env:Env)(h:HF)(v:AV)(nid:Nat)(us:List Upd):Prop:=RunC C n0 y env h v nid us\/YwK y env v us
def Ywg(C:Ctx)(n0:Nat->Prop)(y:AI)(env:Env)(h:HF)(v:AV)(h':HF):Prop:=
 Yun y env/\y.op.wild C.pf=true/\ (y.nw=true-> ∀a,¬n0 a->h' a=h a)/\ ∃H H',h=hf H/\h'=hf H'/\evOp C y.op env H (fun v' H''=>v'=v/\H''=H')
def Core(C:Ctx)(n0:Nat->Prop)(y:AI)(env:Env)(h:HF)(v:AV)(h':HF):Prop:=
 (∃nid us,YuE C n0 y env h v nid us/\h'=appF h nid us)\/Ywg C n0 y env h v h'
def Step(C:Ctx)(n0:Nat->Prop)(y:AI)(env:Env)(h:HF)(env':Env)(h':HF):Prop:=
 ∃v,EqE env' (put env y.dst v)/\Core C n0 y env h v h'
theorem Ydx{y:AI}{a b:Env}(h:OnE y.uses a b):OnE y.op.uses a b:=h.left
theorem Yhw{y:AI}{a b:Env}(h:OnE y.uses a b){g:Nat}{w:Bool}(hg:y.guard=some (g,w)):YtM b g=YtM a g:=by
 refine h g ?_
 unfold AI.uses
 simp_all
theorem Ye0{y:AI}{a b:Env}(h:OnE y.uses a b)(hg:Yun y a):Yun y b:=by
 rcases hg with hg| ⟨g,w,h1,h2⟩
 ·exact .inl hg
 ·exact .inr ⟨g,w,h1,by rw[Yhw h h1];exact h2⟩
theorem YmT{op:AOp}{x:Opd}(hx:x∈op.touched): ∀t∈x.tmps,t∈op.uses:=by
 intro t ht
 cases op<;>simp only[AOp.touched,Yw2,List.not_mem_nil,or_false]at hx<;>simp only[AOp.uses]
 ·simp_all
 ·simp_all
 ·simp_all
 ·simp_all
 ·grind
 ·grind
 ·grind
 grind
theorem Ydy{op:AOp}{a b:Env}(h:OnE op.uses a b){x:Opd}(hx:x∈op.touched):opd b x=opd a x:=
 Yaf (fun t ht=>h t (YmT hx t ht))
theorem Yhx{n0:Nat->Prop}{a b:Env}: ∀{xs:List Opd},(∀x∈xs,opd b x=opd a x)->YuC n0 a xs->YuC n0 b xs
 | [],_,_=>trivial
 |x::r,h,ho=>⟨by unfold opK;rw[h x (Yw6 ..)];exact ho.1,Yhx (fun y hy=>h y (Yxj _ hy)) ho.2⟩
theorem YmU{n0:Nat->Prop}{a b:Env}{op:AOp}(h:OnE op.uses a b)(hn:nwC n0 a op):nwC n0 b op:=by
 cases op<;>try first|exact trivial|exact hn.elim
 ·simp only[nwC,opK]at hn⊢;rw[Ydy h (by simp[AOp.touched])];exact hn
 ·simp only[nwC,opK]at hn⊢;rw[Ydy h (by simp[AOp.touched])];exact hn
 ·intro x hx;have:=hn x hx;simp only[opK]at this⊢;rw[Ydy h (show x∈_ from hx)];trivial
theorem Yb1{C:Ctx}{n0:Nat->Prop}{y:AI}{env env2:Env}{h h2:HF}{v:AV}{nid:Nat}{us:List Upd}(hs:YuE C n0 y env h v nid us)(hd:y.op.deep=false\/h2=h)(he:OnE y.uses env env2)
  (hh:RunC C n0 y env h v nid us->(∀a,Yus y.op env a->h2 a=h a)/\ (y.op.news (fun _=>true)=true->h2 nid=none)):YuE C n0 y env2 h2 v nid us:=by
 rcases hs with hr| ⟨⟨g,b,h1,h3⟩,h4⟩
 ·obtain⟨k1,k2⟩:=hh hr
  obtain⟨h1,h3,h4,h5,h6,h7⟩:=hr
  exact .inl ⟨Ye0 he h1,fun e=>Yhx (fun x hx=>Ydy (Ydx he) hx) (h3 e),fun e=>YmU (Ydx he) (h4 e),h5,k2,YmQ hd (Ydx he) k1 h7⟩
 ·exact .inr ⟨⟨g,b,h1,by rw[Yhw he h1];exact h3⟩,h4⟩
theorem YcI{C:Ctx}{n0:Nat->Prop}{y:AI}{env env2:Env}{h h':HF}{v:AV}(hs:Ywg C n0 y env h v h')(he:OnE y.uses env env2):Ywg C n0 y env2 h v h':=by
 obtain⟨h1,h2,h0,H,H',h3,h4,h5⟩:=hs
 refine⟨Ye0 he h1,h2,h0,H,H',h3,h4,?_⟩
 have ho:=Ydx he
 revert h5 h2 ho
 cases y.op<;>intro h5 h2 ho<;>first|trivial|skip
 ·simp only[evOp]at h2⊢
  rw[Ya7 ho];exact h2
 ·simp only[evOp,opK]at h2⊢
  rw[Yaf ho.left,Ya7 ho.right];exact h2
end Go.Abs
namespace Go.Abs
open Go Go.RowKit
def DU(nid:Nat):List Upd->Nat->Prop
 | [],_=>False
 | .set a _::r,b=>b=a\/DU nid r b
 | .push _::r,b=>b=nid\/DU nid r b
theorem Yaw{nid b:Nat}: ∀{us:List Upd} {h:HF},¬DU nid us b->appF h nid us b=h b
 | [],h,_=>rfl
 | .set a o::r,h,hn=>by
   simp only[DU,not_or]at hn
   simp only[appF]
   rw[Yaw hn.2];simp[appU,hn.1]
 | .push o::r,h,hn=>by
   simp only[DU,not_or]at hn
   simp only[appF]
   rw[Yaw hn.2];simp[appU,hn.1]
open Classical in
theorem YbF{nid b:Nat}: ∀{us:List Upd} {h h2:HF},DU nid us b->appF h nid us b=appF h2 nid us b/\appF h nid us b≠none
 | [],h,h2,hd=>hd.elim
 | .set a o::r,h,h2,hd=>by
   simp only[appF]
   by_cases hr:DU nid r b
   ·exact YbF hr
   ·have e:b=a:=hd.resolve_right hr
    rw[Yaw hr,Yaw hr];simp[appU,e]
 | .push o::r,h,h2,hd=>by
   simp only[appF]
   by_cases hr:DU nid r b
   ·exact YbF hr
   ·have e:b=nid:=hd.resolve_right hr
    rw[Yaw hr,Yaw hr];simp[appU,e]
theorem YmV{nx ny:Nat}{us vs:List Upd}{h:HF}(hd: ∀b,DU nx us b->DU ny vs b->False):appF (appF h nx us) ny vs=appF (appF h ny vs) nx us:=by
 funext b
 open Classical in
 by_cases h1:DU nx us b
 ·rw[Yaw (fun h2=>hd b h1 h2)]
  exact(YbF h1).1
 ·rw[Yaw (us:=us) h1]
  by_cases h2:DU ny vs b
  ·exact(YbF h2).1
  ·rw[Yaw h2,Yaw h2,Yaw h1]
section
variable{C:Ctx}{n0:Nat->Prop}{x y:AI}{env:Env}{h:HF}{v:AV}{nid:Nat}{us:List Upd}
theorem Ye1(hr:RunC C n0 y env h v nid us){b:Nat}(hd:DU nid us b):
  (y.op.eff C.pf=true/\y.op.isCall=false/\Yus y.op env b)\/(y.op.news C.pf=true/\b=nid/\n0 nid/\h nid=none):=by
 obtain⟨h1,h2,h3,h4,h5,h6⟩:=hr
 rcases Ydw h6 with⟨rfl,_⟩| ⟨o,rfl,hn⟩| ⟨a,o,rfl,_,he,_,hn⟩| ⟨a,o,p,rfl,_,he,hw,hn⟩
 ·trivial
 ·simp only[DU,or_false]at hd;exact .inr ⟨Ya8 hn,hd,h4,h5 hn⟩
 ·simp only[DU,or_false]at hd;subst hd;exact .inl ⟨YeY he,Yhu he,hn⟩
 ·simp only[DU,or_false]at hd
  rcases hd with rfl|rfl
  ·exact .inl ⟨YeY he,Yhu he,hn⟩
  ·exact .inr ⟨Ya8 hw,rfl,h4,h5 hw⟩
theorem YmW(hr:RunC C n0 y env h v nid us)(hn:y.op.news (fun _=>true)=true):DU nid us nid:=by
 obtain⟨h1,h2,h3,h4,h5,h6⟩:=hr
 rcases Ydw h6 with⟨rfl,he⟩| ⟨o,rfl,_⟩| ⟨a,o,rfl,_,_,he,_⟩| ⟨a,o,p,rfl,_⟩
 ·simp_all
 ·simp[DU]
 ·simp_all
 ·simp[DU]
theorem Ye2(hs:YuE C n0 y env h v nid us){b:Nat}(hd:DU nid us b):RunC C n0 y env h v nid us:=by
 rcases hs with hr| ⟨_,_,rfl⟩
 ·exact hr
 trivial
theorem Yhy{dst:Option Nat}{v:AV}{ts:List Nat}(hd: ∀d,dst=some d->d∉ts):OnE ts env (put env dst v):=by
 intro t ht
 cases dst with
 |none=>rfl
 |some d=>
  have:(d==t)=false:=by
   grind
  simp[put,YtM,this]
theorem Ye3{a b:Env}(h:EqE a b)(d:Option Nat)(v:AV):EqE (put a d v) (put b d v):=by
 cases d with
 |none=>exact h
 |some d=>intro t;simp only[put,YtM];rw[h t]
theorem YmX{d e:Option Nat}(hne: ∀k,d=some k->e≠some k)(v k:AV):EqE (put (put env d v) e k) (put (put env e k) d v):=by
 cases d with
 |none=>exact EqE.refl _
 |some d=>
  cases e with
  |none=>exact EqE.refl _
  |some e=>
   intro t
   simp only[put,YtM]
   grind
theorem OnE.of_eq{ts:List Nat}{a b:Env}(h:EqE b a):OnE ts a b:=fun t _=>h t
theorem OnE.trans{ts:List Nat}{a b c:Env}(h:OnE ts a b)(k:OnE ts b c):OnE ts a c:=fun t ht=>(k t ht).trans (h t ht)
theorem OnE.symm{ts:List Nat}{a b:Env}(h:OnE ts a b):OnE ts b a:=fun t ht=>(h t ht).symm
theorem Yhz{pf:Nat->Bool}(hi:Yvn pf x y=true):
  (∀d,x.dst=some d->d∉y.uses/\y.dst≠some d)/\ (∀d,y.dst=some d->d∉x.uses)/\
  (x.op.wild pf=true->(y.op.touch=false/\y.op.news pf=false)\/(x.nw=true/\y.old=true/\y.op.eff pf=false/\y.op.news pf=false))/\
  (y.op.wild pf=true->(x.op.touch=false/\x.op.news pf=false)\/(y.nw=true/\x.old=true/\x.op.eff pf=false/\x.op.news pf=false))/\
  (x.op.eff pf=true->y.op.touch=true->x.nw=true/\y.old=true)/\ (y.op.eff pf=true->x.op.touch=true->y.nw=true/\x.old=true)/\
  (x.op.news pf=true->y.op.touch=true->y.old=true)/\ (y.op.news pf=true->x.op.touch=true->x.old=true\/x.op.isApp=true)/\x.op.deep=false/\y.op.deep=false:=by
 unfold Yvn at hi
 rw[YxL]at hi
 obtain⟨hdp,hi⟩:=hi
 rw[YxL]at hi
 obtain⟨ht,hh⟩:=hi
 unfold Yv8 at ht
 unfold Yv9 at hh
 rw[YxL]at ht
 obtain⟨t1,t2⟩:=ht
 refine⟨fun d hd=> ?_,fun d hd=> ?_,?_⟩
 ·simp_all
 ·simp_all
 grind
theorem YmY{op:AOp}(h:op.deep=true):op.touch=true:=by
 cases op<;>try cases h
 rename_i xo xs
 cases xo<;>first| (cases h;done)|rfl
theorem YhA(hs:YuE C n0 y env h v nid us)(ht:y.op.touch=false)(hn:y.op.news C.pf=false):us=[]:=by
 rcases hs with hr| ⟨_,_,h⟩
 ·rcases Ydw hr.2.2.2.2.2 with⟨h,_⟩| ⟨o,_,he⟩| ⟨a,o,_,_,_,_,hd⟩| ⟨a,o,p,_,_,_,he,_⟩
  ·exact h
  ·rw[Ya8 he]at hn;cases hn
  ·rw[YbZ hd]at ht;cases ht
  ·rw[Ya8 he]at hn;cases hn
 trivial
theorem YmZ{op:AOp}{pf:Nat->Bool}(h:op.wild pf=true):op.eff pf=true:=by
 cases op<;>first|rfl|exact h|cases h
theorem YhB(hs:YuE C n0 y env h v nid us)(ht:y.op.eff C.pf=false)(hn:y.op.news C.pf=false):us=[]:=by
 rcases hs with hr| ⟨_,_,h⟩
 ·rcases Ydw hr.2.2.2.2.2 with⟨h,_⟩| ⟨o,_,he⟩| ⟨a,o,_,_,he,_,hd⟩| ⟨a,o,p,_,_,_,he,_⟩
  ·exact h
  ·rw[Ya8 he]at hn;cases hn
  ·rw[YeY he]at ht;cases ht
  ·rw[Ya8 he]at hn;cases hn
 trivial
theorem YhC(hs:YuE C n0 y env h v nid us){env2:Env}(he:OnE y.uses env env2)(ht:y.op.touch=false)(hn:y.op.news C.pf=false)(h2:HF):YuE C n0 y env2 h2 v nid us:=
 Yb1 hs (.inl (by cases hq:y.op.deep with|false=>rfl|true=>rw[YmY hq]at ht;cases ht)) he (fun _=>⟨fun a ha=>(by rw[YbZ ha]at ht;cases ht),fun e=>(by rw[Ya8 e]at hn;cases hn)⟩)
theorem Ym0{op:AOp}{env:Env}{h:HF}{nid:Nat}{v:AV}{us:List Upd}{a:Nat}(hu:OpU C op env h nid v us)(hi:op.isApp=true)(hn:Yus op env a):h a≠none:=by
 cases op<;>try cases hi
 rename_i es s z
 have hu:evG (.app es s z) env h nid (fun v' us'=>v'=v/\us'=us):=hu
 obtain⟨x,hx,hk⟩:=hn
 have hx:x=s:=by simpa[AOp.touched]using hx
 rw[hx]at hk
 simp only[evG,opK]at hu
 have key: ∀l,appK es (opd env s) l h nid (fun v' us'=>v'=v/\us'=us)->h a≠none:=fun l hl=>by
  unfold appK Yvz at hl
  cases hs:opd env s<;>rw[hs]at hk hl<;>first|exact hl.elim|exact hk.elim|skip
  obtain⟨o,ho,_⟩:=hl
  have hk:a=_:=hk
  rw[hk,ho];simp
 cases hz:opd env z<;>rw[hz]at hu<;>first|exact hu.elim|exact key _ hu.2|exact key _ hu
theorem Ym1{h1 h2:HF}{env1:Env}{vx vy:AV}(hi:Yvn C.pf x y=true)(he:OnE y.uses env1 env)(he2: ∀k,OnE x.uses env (put env y.dst k))(hx:Core C n0 x env h vx h1)(hy:Core C n0 y env1 h1 vy h2):
  ∃h',Core C n0 y env h vy h'/\Core C n0 x (put env y.dst vy) h' vx h2:=by
 obtain⟨_,_,i1,i2,i3,i4,i5,i6,i7,i8⟩:=Yhz hi
 rcases hx with⟨nx,usx,hx,rfl⟩|hx
 ·rcases hy with⟨ny,usy,hy,rfl⟩|hy
  ·have F1: ∀a,RunC C n0 y env1 (appF h nx usx) vy ny usy->Yus y.op env1 a-> ¬DU nx usx a:=by
    intro a hr hn hd
    have hrx:=Ye2 hx hd
    rcases Ye1 hrx hd with⟨e,ec,hn'⟩| ⟨e,rfl,hle,_⟩
    ·obtain⟨e1,e2⟩:=i3 e (YbZ hn)
     exact Yb0 (hr.2.1 e2) hn (Yhv (hrx.2.2.1 e1) ec hn')
    ·exact Yb0 (hr.2.1 (i5 e (YbZ hn))) hn hle
   have F2: ∀a,RunC C n0 x env h vx nx usx->Yus x.op env a-> ¬DU ny usy a:=by
    intro a hr hn hd
    have hry:=Ye2 hy hd
    rcases Ye1 hry hd with⟨e,ec,hn'⟩| ⟨e,rfl,hle,hno⟩
    ·obtain⟨e1,e2⟩:=i4 e (YbZ hn)
     exact Yb0 (hr.2.1 e2) hn (Yhv (hry.2.2.1 e1) ec hn')
    ·rcases i6 e (YbZ hn)with h6|h6
     ·exact Yb0 (hr.2.1 h6) hn hle
     ·have hal:=Ym0 hr.2.2.2.2.2 h6 hn
      open Classical in
      by_cases hd2:DU nx usx a
      ·exact(YbF (h2:=h) hd2).2 hno
      ·rw[Yaw hd2]at hno;exact hal hno
   have FD: ∀b,DU nx usx b->DU ny usy b->False:=by
    intro b h1 h2
    have hry:=Ye2 hy h2
    rcases Ye1 hry h2 with⟨e,_,hn⟩| ⟨e,rfl,_,hf⟩
    ·simp_all
    ·exact(YbF (h2:=h) h1).2 hf
   refine⟨appF h ny usy,.inl ⟨ny,usy,Yb1 hy (.inl i8) he (fun hr=>⟨fun a ha=>(Yaw (F1 a hr ha)).symm,fun e=> ?_⟩),rfl⟩,
    .inl ⟨nx,usx,Yb1 hx (.inl i7) (he2 vy) (fun hr=>⟨fun a ha=>Yaw (F2 a hr ha),fun e=> ?_⟩),YmV FD⟩⟩
   ·have hn:=hr.2.2.2.2.1 e
    open Classical in
    by_cases hd:DU nx usx ny
    ·exact absurd hn (YbF (h2:=h) hd).2
    ·rwa[Yaw hd]at hn
   ·rw[Yaw (fun hd=>FD nx (YmW hr e) hd)]
    exact hr.2.2.2.2.1 e
  ·rcases i2 hy.2.1 with⟨ht,hn⟩| ⟨q1,q2,q3,q4⟩
   ·have hu:=YhA hx ht hn
    subst hu
    exact⟨h2,.inr (YcI hy he),.inl ⟨nx,[],YhC hx (he2 vy) ht hn h2,rfl⟩⟩
   ·have hu:=YhB hx q3 q4
    subst hu
    exact⟨h2,.inr (YcI hy he),.inl ⟨nx,[],Yb1 hx (.inl i7) (he2 vy) (fun hr=>⟨fun a ha=>hy.2.2.1 q1 a (Yb0 (hr.2.1 q2) ha),fun e=>by rw[Ya8 e]at q4;cases q4⟩),rfl⟩⟩
 ·rcases hy with⟨ny,usy,hy,rfl⟩|hy
  ·rcases i1 hx.2.1 with⟨ht,hn⟩| ⟨q1,q2,q3,q4⟩
   ·have hu:=YhA hy ht hn
    subst hu
    exact⟨h,.inl ⟨ny,[],YhC hy he ht hn h,rfl⟩,.inr (YcI hx (he2 vy))⟩
   ·have hu:=YhB hy q3 q4
    subst hu
    exact⟨h,.inl ⟨ny,[],Yb1 hy (.inl i8) he (fun hr=>⟨fun a ha=>(hx.2.2.1 q1 a (Yb0 (hr.2.1 q2) ha)).symm,fun e=>by rw[Ya8 e]at q4;cases q4⟩),rfl⟩,.inr (YcI hx (he2 vy))⟩
  ·rcases i1 hx.2.1 with⟨ht,hn⟩| ⟨_,_,q3,_⟩
   ·rw[YmS hy.2.1]at ht;cases ht
   ·rw[YmZ hy.2.1]at q3;cases q3
theorem Ym2{h1 h2:HF}{env1 env2:Env}(hi:Yvn C.pf x y=true)(hx:Step C n0 x env h env1 h1)(hy:Step C n0 y env1 h1 env2 h2):
  ∃e h',Step C n0 y env h e h'/\Step C n0 x e h' env2 h2:=by
 obtain⟨s1,s2,_⟩:=Yhz hi
 obtain⟨vx,ex,hx⟩:=hx
 obtain⟨vy,ey,hy⟩:=hy
 obtain⟨h',k1,k2⟩:=Ym1 hi (env:=env) (env1:=env1) ((OnE.of_eq ex).symm.symm.symm.trans (Yhy (fun d hd=>(s1 d hd).1)).symm) (fun _=>Yhy (fun d hd=>s2 d hd)) hx hy
 refine⟨put env y.dst vy,h',⟨vy,EqE.refl _,k1⟩,vx,?_,k2⟩
 exact ey.trans ((Ye3 ex y.dst vy).trans (YmX (fun k hk=>(s1 k hk).2) vx vy))
theorem Ym3{env2:Env}{h':HF}(hc:Core C n0 y env h v h')(he:EqE env env2):Core C n0 y env2 h v h':=by
 have ho: ∀ts,OnE ts env env2:=fun ts=>OnE.of_eq he.symm
 rcases hc with⟨nid,us,hs,e⟩|hw
 ·exact .inl ⟨nid,us,Yb1 hs (.inr rfl) (ho _) (fun hr=>⟨fun a _=>rfl,hr.2.2.2.2.1⟩),e⟩
 ·exact .inr (YcI hw (ho _))
def Runs(C:Ctx)(n0:Nat->Prop)(F:Env->HF->Prop):List AI->Env->HF->Prop
 | [],env,h=>F env h
 |y::r,env,h=> ∃env' h',Step C n0 y env h env' h'/\Runs C n0 F r env' h'
theorem YhD{F:Env->HF->Prop}: ∀{xs:List AI} {r:List AI} {env:Env} {h:HF},(∀x∈xs,Yvn C.pf x y=true)->Runs C n0 F (xs++y::r) env h->Runs C n0 F (y::(xs++r)) env h
 | [],r,env,h,_,hr=>hr
 |x::xs,r,env,h,hi,hr=>by
  obtain⟨e1,h1,k1,k2⟩:=hr
  obtain⟨e2,h2,k3,k4⟩:=YhD (fun z hz=>hi z (Yxj _ hz)) k2
  obtain⟨e3,h3,k5,k6⟩:=Ym2 (hi x (Yw6 ..)) k1 k3
  exact⟨e3,h3,k5,e2,h2,k6,k4⟩
end
end Go.Abs
namespace Go.Abs
open Go Go.RowKit
section
variable{C:Ctx}
theorem Ye4: ∀(us:List Upd) (H:Heap),H.length<=(Yt1 H us).length
 | [],H=>Yxs _
 | .set a o::r,H=>by
   simp only[Yt1,YuY];exact Yxy (by simp) (Ye4 r _)
 | .push o::r,H=>by
   simp only[Yt1,YuY];exact Yxy (by simp) (Ye4 r _)
theorem Ym4{op:AOp}{env:Env}{H:Heap}{K:AV->Heap->Prop}(hev:evOp C op env H K):
  ∃v H',K v H'/\H.length<=H'.length/\ ((∃us,OpU C op env (hf H) H.length v us/\hf H'=appF (hf H) H.length us)\/(op.wild C.pf=true/\evOp C op env H (fun v' H''=>v'=v/\H''=H'))):=by
 have plain:evG op env (hf H) H.length (fun v us=>K v (Yt1 H us))-> ∃v us,K v (Yt1 H us)/\evG op env (hf H) H.length (fun v' us'=>v'=v/\us'=us)/\OKus (hf H) us:=by
  intro hev
  obtain⟨v,us,⟨h1,h2⟩,h3⟩:=Yhn _ _ _ _ _ (Yhb hev)
  grind
 cases op
 case call f args=>
  rcases hev with⟨hpf,a1,a2,r,h1,h2,h3,h4,hk⟩| ⟨hpf,a2,H1,r,H',h3,hfg,h4,hl,hk⟩
  ·exact⟨r,H,hk,Yxs _,.inl ⟨[],⟨hpf,rfl,a1,a2,h1,h2,h3,h4⟩,rfl⟩⟩
  ·exact⟨r,H',hk,hl,.inr ⟨by simp[AOp.wild,hpf],.inr ⟨hpf,a2,H1,r,H',h3,hfg,h4,hl,rfl,rfl⟩⟩⟩
 case dyn x args=>
  obtain⟨f,cs,e,hev⟩:=hev
  rcases hev with⟨hpf,a1,a2,r,h1,h2,h3,h4,hk⟩| ⟨hpf,a2,H1,r,H',h3,hfg,h4,hl,hk⟩
  ·exact⟨r,H,hk,Yxs _,.inr ⟨rfl,f,cs,e,.inl ⟨hpf,a1,a2,r,h1,h2,h3,h4,rfl,rfl⟩⟩⟩
  ·exact⟨r,H',hk,hl,.inr ⟨rfl,f,cs,e,.inr ⟨hpf,a2,H1,r,H',h3,hfg,h4,hl,rfl,rfl⟩⟩⟩
 case dynP x args=>
  obtain⟨f,cs,e,hpf,hev⟩:=hev
  rcases hev with⟨hpf,a1,a2,r,h1,h2,h3,h4,hk⟩| ⟨hpf',a2,H1,r,H',h3,hfg,h4,hl,hk⟩
  ·exact⟨r,H,hk,Yxs _,.inl ⟨[],⟨f,cs,e,hpf,rfl,a1,a2,h1,h2,h3,h4⟩,rfl⟩⟩
  simp_all
 case callN f args d=>
  obtain⟨args1,args',o,len,h1,h2,h3,h4,h5,hk⟩:=hev
  refine⟨_,_,hk,by simp,.inl ⟨[.push (mkO d o)],⟨args1,args',o,len,h1,h2,h3,h4,h5,rfl,rfl⟩,?_⟩⟩
  exact hf_push.symm
 all_goals
  obtain⟨v,us,h1,h2,h3⟩:=plain hev
  exact⟨v,_,h1,Ye4 _ _,.inl ⟨us,h2,(Yhc h3).symm⟩⟩
theorem Ydz{env:Env}{g:Nat}{b:Bool}(h:YtM env g= .v (.bool b)):EqE ((g,.v (.bool b))::env) env:=by
 intro t
 simp only[YtM]
 grind
theorem YdA{n0:Nat->Prop}{K:ASt->Prop}: ∀(ys:List AI) (st:ASt),(∀a,st.heap.length<=a->n0 a)->Yuy C n0 ys K st->
  Runs C n0 (fun env h=> ∃st',K st'/\EqE st'.env env/\h=hf st'.heap/\st'.base=st.base) ys st.env (hf st.heap)
 | [],st,_,hev=>⟨st,hev,EqE.refl _,rfl,rfl⟩
 |y::r,⟨env,H,b0⟩,hn,hev=>by
  obtain⟨d,op,guard,old,nw⟩:=y
  have run: ∀env2,EqE env2 env->Yun ⟨d,op,guard,old,nw⟩ env->Yu5 C n0 old nw op env2 H (fun v H'=>Yuy C n0 r K ⟨put env2 d v,H',b0⟩)->
    Runs C n0 (fun env h=> ∃st',K st'/\EqE st'.env env/\h=hf st'.heap/\st'.base=b0) (⟨d,op,guard,old,nw⟩::r) env (hf H):=by
   intro env2 he hg hev
   obtain⟨f1,f2,hev⟩:=hev
   obtain⟨v,H',⟨hnk,hk⟩,hle,hc⟩:=Ym4 hev
   have hg2:Yun ⟨d,op,guard,old,nw⟩ env2:=Ye0 (OnE.of_eq he) hg
   have core:Core C n0 ⟨d,op,guard,old,nw⟩ env2 (hf H) v (hf H'):=by
    rcases hc with⟨us,h1,h2⟩| ⟨h1,h2⟩
    ·exact .inl ⟨H.length,us,.inl ⟨hg2,f1,f2,hn _ (Yxs _),fun _=>by simp[hf],h1⟩,h2⟩
    ·refine .inr ⟨hg2,h1,fun e=>hnk e ?_,H,H',rfl,rfl,h2⟩
     revert h1 f2
     cases op<;>intro h1 f2<;>first|rfl|trivial|trivial
   refine⟨put env2 d v,hf H',⟨v,Ye3 he _ _,Ym3 core he⟩,?_⟩
   exact YdA r ⟨put env2 d v,H',b0⟩ (fun a ha=>hn a (Yxy hle ha)) hk
  have skip: ∀env2 g b,EqE env2 env->guard=some (g,b)->(YtM env g= .v (.bool (!b))\/YtM env g= .v undef)->Yuy C n0 r K ⟨put env2 d (.v undef),H,b0⟩->
    Runs C n0 (fun env h=> ∃st',K st'/\EqE st'.env env/\h=hf st'.heap/\st'.base=b0) (⟨d,op,guard,old,nw⟩::r) env (hf H):=by
   intro env2 g b he hg hl hk
   refine⟨put env2 d (.v undef),hf H,⟨.v undef,Ye3 he _ _,.inl ⟨0,[],.inr ⟨⟨g,b,hg,hl⟩,rfl,rfl⟩,rfl⟩⟩,?_⟩
   exact YdA r ⟨put env2 d (.v undef),H,b0⟩ hn hk
  match guard with
  |none=>exact run env (EqE.refl _) (.inl rfl) hev
  |some (g,true)=>
   rcases hev with⟨b,hb,hev⟩| ⟨hb,hev⟩
   case inr=>exact skip _ g true (EqE.refl _) rfl (.inr hb) hev
   have hb':YtM env g= .v (.bool b):=hb
   cases b with
   |true=>exact run _ (Ydz hb') (.inr ⟨g,true,rfl,hb'⟩) (hev.1 rfl)
   |false=>exact skip _ g true (Ydz hb') rfl (.inl hb') (hev.2 rfl)
  |some (g,false)=>
   rcases hev with⟨b,hb,hev⟩| ⟨hb,hev⟩
   case inr=>exact skip _ g false (EqE.refl _) rfl (.inr hb) hev
   have hb':YtM env g= .v (.bool b):=hb
   cases b with
   |true=>exact skip _ g false (Ydz hb') rfl (.inl hb') (hev.1 rfl)
   |false=>exact run _ (Ydz hb') (.inr ⟨g,false,rfl,hb'⟩) (hev.2 rfl)
end
structure SRF(fm:FM)(n:Nat)(w0:World)(L0:Nat->Loc)(env:Env)(h:HF)(a:Act)(w:World):Prop where
 defers:a.defers=[]
 size:a.tmps.size=n
 fin: ∃N,∀b,N<=b->h b=none
 rel: ∃L,Keep L0 w0 w/\LStep L0 L w0.heap.size/\HR fm w L h/\ER fm w L a env
theorem Ye5{nid:Nat}: ∀(us:List Upd) (h:HF),(∃N,∀b,N<=b->h b=none)-> ∃N,∀b,N<=b->appF h nid us b=none
 | [],h,hh=>hh
 | .set a o::r,h,⟨N,hN⟩=>Ye5 r _ ⟨max N (a+1),fun b hb=>by
   have:b≠a:=by omega
   simp[appU,this];grind⟩
 | .push o::r,h,⟨N,hN⟩=>Ye5 r _ ⟨max N (nid+1),fun b hb=>by
   have:b≠nid:=by omega
   simp[appU,this];grind⟩
def Yu6(x y:AI):Prop:=y.dst=x.dst/\y.guard=x.guard/\
 (y.op=x.op\/(∃g n z,x.op= .load g n z/\y.op= .loadR g n z)\/(∃z as,x.op= .dyn z as/\y.op= .dynP z as)\/(∃z as d,x.op= .call z as/\y.op= .callN z as d))
section
variable{P:Program}{fm:FM}{w:World}{n:Nat}{w0:World}{L0:Nat->Loc}
theorem SRF.step{env:Env}{h:HF}{a:Act}(hs:SRF fm n w0 L0 env h a w){env':Env}{h':HF}{L1 L':Nat->Loc}{w':World}{a':Act}(hd:a'.defers=a.defers)(hz:a'.tmps.size=a.tmps.size)
  (hf': ∃N,∀b,N<=b->h' b=none) (h1:Keep L0 w0 w/\LStep L0 L1 w0.heap.size) (hk:Keep L1 w w') (hls:LStep L1 L' w.heap.size) (hr:HR fm w' L' h') (he:ER fm w' L' a' env'):
  SRF fm n w0 L0 env' h' a' w':=
 ⟨hd.trans hs.defers,hz.trans hs.size,hf',L',h1.1.trans h1.2 hk,h1.2.trans (hls.mono h1.1.size),hr,he⟩
theorem YcJ{L:Nat->Loc}{a:Act}{e e':Env}(h:ER fm w L a e)(he:EqE e' e):ER fm w L a e':=fun t=>by rw[he t];exact h t
theorem Ym5{P:Program}{fm:FM}{w:World}{L:Nat->Loc}{C:Ctx}(hC:CtxOK P fm C){f:FuncId}{h:HF}(hr:HR fm w L h){vs:Array Value}{args args1 args':List AV}{o:AObj}{len nid:Nat}(hn:h nid=none){d:Bool}(hd:d=true->len=o.el.length)(hsz:vs.size=args.length)
  (hvs: ∀j a,args[j]?=some a->VR fm w L (vs.getD j undef) a) (hb:All2 (Bor h) args args1) (hsc:args1=args\/Yu0 o) (hco:All2 Coe args1 args') (hm:MkC C (fm f) args' o len):
  YtL P f=true/\Calls P f vs w fun e w'=> ∃v L',e= .returned v/\Keep L w w'/\LStep L L' w.heap.size/\HR fm w' L' (appF h nid [.push (mkO d o)])/\VR fm w' L' v (mkV d o nid len):=by
 obtain⟨h1,h2⟩:=YmB hC hr hn hsz hvs hb hsc hco hm
 refine⟨h1,?_⟩
 cases d with
 |false=>exact h2
 |true=>
  refine h2.mono ?_
  rintro e w' ⟨v,L',rfl,k1,k2,k3,k4⟩
  rw[hd rfl]at k4
  obtain⟨L2,g1,g2,g3,g4⟩:=YgF (us:=[]) ⟨L',k1,k2,k3,k4⟩
  exact⟨v,L2,rfl,g1,g2,g3,g4⟩
theorem Ym6{C:Ctx}(hC:CtxOK P fm C){o:Oper}{op0 op:AOp}(htr:trOp P fm o=some op0)
  (hv:op=op0\/(∃g n z,op0= .load g n z/\op= .loadR g n z)\/(∃z as,op0= .dyn z as/\op= .dynP z as)\/(∃z as d,op0= .call z as/\op= .callN z as d)) {env:Env} {h:HF} {nid:Nat} {v:AV} {us:List Upd} {a:Act} {L:Nat->Loc}
  (hr:HR fm w L h) (he:ER fm w L a env) (hfin: ∃N,∀b,N<=b->h b=none) (hn:op.news (fun _=>true)=true->h nid=none) (hop:OpU C op env h nid v us) {Q:Exit->Act->World->Prop}:
  o.wp P a w (fun a' w'=> ∃x L',a'=a.put o.dst x/\Keep L w w'/\LStep L L' w.heap.size/\HR fm w' L' (appF h nid us)/\VR fm w' L' x v) Q:=by
 have plain: ∀op1,trOp P fm o=some op1->op1.news (fun _=>true)=op.news (fun _=>true)->evG op1 env h nid (fun v' us'=>v'=v/\us'=us)->
   o.wp P a w (fun a' w'=> ∃x L',a'=a.put o.dst x/\Keep L w w'/\LStep L L' w.heap.size/\HR fm w' L' (appF h nid us)/\VR fm w' L' x v) Q:=by
  intro op1 ht1 hnw hev
  cases hb:op1.news (fun _=>true)with
  |true=>
   obtain⟨x,v',us',w',h1,⟨rfl,rfl⟩,L',h4,h5,h6,h7⟩:=YeP ht1 hr he (hn (by simp_all)) hev
   exact YcC h1 ⟨x,L',rfl,h4,h5,h6,h7⟩
  |false=>
   obtain⟨N,hN⟩:=hfin
   have hsame:appF h N us=appF h nid us:=by
    rcases Yho hev with⟨rfl,_⟩| ⟨_,_,e⟩| ⟨a,o,rfl,_⟩| ⟨_,_,_,_,_,_,e,_⟩
    ·rfl
    ·simp_all
    ·rfl
    simp_all
   obtain⟨x,v',us',w',h1,⟨rfl,rfl⟩,L',h4,h5,h6,h7⟩:=YeP ht1 hr he (hN N (Yxs _)) (YmP N hb hev)
   rw[hsame]at h6
   exact YcC h1 ⟨x,L',rfl,h4,h5,h6,h7⟩
 cases op
 case call g args=>
  have e0:op0= .call g args:=by
   simp_all
  subst e0
  obtain⟨f,xs,ats,ho,h0,rfl,rfl⟩:=YeT htr
  obtain⟨hpf,rfl,a1,a2,hb,hsc,hco,hc⟩:=hop
  obtain⟨h1,h2⟩:=YeQ hC hpf hr (vs:=(xs.toList.map a.eval).toArray) (by simp) (YcE he xs.toList) hb hsc hco hc
  refine YcF (f:=f) (vs:=(xs.toList.map a.eval).toArray) ?_ (h2.mono ?_)
  ·have e3:(xs.map a.eval)=(xs.toList.map a.eval).toArray:=by grind
   unfold execOp
   simp[ho,resolve,Deferred.ofValue,Act.eval,invoke]
   rw[YcD h1]
   simp_all
  ·rintro e w' ⟨x,rfl,k1,k2,k3⟩
   exact⟨x,rfl,x,L,rfl,k1,LStep.refl _ _,k2,k3⟩
 case dynP x args=>
  have e0:op0= .dyn x args:=by
   rcases hv with hv| ⟨_,_,_,_,hv⟩| ⟨_,_,h1,hv⟩| ⟨_,_,_,_,hv⟩
   ·subst hv;exact(Yhf htr).elim
   ·cases hv
   ·simp_all
   trivial
  subst e0
  obtain⟨t,xs,ats,ho,rfl,rfl⟩:=Yhe htr
  obtain⟨g,cs,e,hpf,rfl,a1,a2,hb,hsc,hco,hc⟩:=hop
  have hx:=Yad he (.tmp t)
  simp only[YtP]at hx
  rw[show opd env (.t t)= .clo g cs from e]at hx
  obtain⟨f,ys,ex,hfm,hsz,hall⟩:=Ycy hx
  subst hfm
  have e3:(xs.map a.eval)++ys=((xs.toList.map a.eval)++ys.toList).toArray:=by simp
  obtain⟨h1,h2⟩:=YeQ hC hpf hr (vs:=((xs.toList.map a.eval)++ys.toList).toArray) (by grind) (fun j c hj=>by
   by_cases hlt:j<xs.toList.length
   ·rw[YwU (by simp_all)]at hj
    rw[Ycx (by simp_all)]
    have:=YcE he xs.toList j c hj
    simp_all
   ·rw[Yw0 (by simp_all)]at hj
    obtain⟨m,hm⟩: ∃m,j=(xs.toList.map a.eval).length+m:=⟨j-(xs.toList.map a.eval).length,by simp_all⟩
    subst hm
    rw[Ydh]
    simp_all) hb hsc hco hc
  refine YcF (f:=f) (vs:=((xs.toList.map a.eval)++ys.toList).toArray) ?_ (h2.mono ?_)
  ·unfold execOp
   simp[ho,resolve,ex,Deferred.ofValue,invoke]
   rw[YcD h1]
   simp
  ·rintro e w' ⟨x,rfl,k1,k2,k3⟩
   exact⟨x,rfl,x,L,rfl,k1,LStep.refl _ _,k2,k3⟩
 case dyn=>trivial
 case callN g args d=>
  have e0:op0= .call g args:=by
   rcases hv with hv| ⟨_,_,_,_,hv⟩| ⟨_,_,_,hv⟩| ⟨_,_,_,h1,hv⟩
   ·subst hv;exact(Yhg htr).elim
   ·cases hv
   ·cases hv
   simp_all
  subst e0
  obtain⟨f,xs,ats,ho,h0,rfl,rfl⟩:=YeT htr
  obtain⟨args1,args',o',len,hbo,hpl,hco,hm,hd,rfl,rfl⟩:=hop
  obtain⟨h1,h2⟩:=Ym5 hC hr (nid:=nid) (hn rfl) hd (vs:=(xs.toList.map a.eval).toArray) (by simp) (YcE he xs.toList) hbo hpl hco hm
  refine YcF (f:=f) (vs:=(xs.toList.map a.eval).toArray) ?_ (h2.mono ?_)
  ·have e3:(xs.map a.eval)=(xs.toList.map a.eval).toArray:=by grind
   unfold execOp
   simp[ho,resolve,Deferred.ofValue,Act.eval,invoke]
   rw[YcD h1]
   simp_all
  grind
 case loadR g n z=>
  rcases hv with hv| ⟨g',n',z',h1,hv⟩| ⟨_,_,_,hv⟩| ⟨_,_,_,_,hv⟩
  ·subst hv;exact plain _ htr rfl hop
  ·injection hv with e1 e2 e3;subst e1;subst e2;subst e3
   subst h1
   refine plain _ htr rfl ?_
   have hop':evG (.loadR g n z) env h nid (fun v' us'=>v'=v/\us'=us):=hop
   simp only[evG,opK]at hop'⊢
   grind
  ·cases hv
  trivial
 all_goals
  rcases hv with hv| ⟨_,_,_,_,hv⟩| ⟨_,_,_,hv⟩| ⟨_,_,_,_,hv⟩
  ·exact plain _ (hv▸htr) rfl hop
  ·cases hv
  ·cases hv
  ·cases hv
theorem YhE{C:Ctx}(hC:CtxOK P fm C){ops:Array Oper}{o:Oper}{x y:AI}(htr:trAI P fm n ops o=some x)(hv:Yu6 x y){n0:Nat->Prop}{env env':Env}{h h':HF}{a:Act}
  (hs:SRF fm n w0 L0 env h a w) (hst:Step C n0 y env h env' h') {Q:Exit->Act->World->Prop}:
  (Region.wanted o (yielded ops a.tmps)=true->o.wp P a w (fun a' w'=>SRF fm n w0 L0 env' h' a' w') Q)/\
  (Region.wanted o (yielded ops a.tmps)=false->SRF fm n w0 L0 env' h' (a.put o.dst undef) w):=by
 obtain⟨hop,hdst,hdn,_,_,hg⟩:=YeU htr
 obtain⟨vd,vg,vo⟩:=hv
 obtain⟨v,hev,hco⟩:=hst
 obtain⟨L1,hk1,hs1,hr1,he1⟩:=hs.rel
 have hyd:y.dst=o.dst:=vd.trans hdst
 rw[hyd]at hev
 have hdn': ∀k,o.dst=some k->k<a.tmps.size:=fun k hk=>by rw[hs.size];simp_all
 have hwant: ∀g w,y.guard=some (g,w)-> ∀b,YtM env g= .v (.bool b)->Region.wanted o (yielded ops a.tmps)=(b==w):=by
  intro g wt hyg b hb
  rw[vg]at hyg
  rcases hg with⟨_,hg2⟩| ⟨j,want,g',hg1,hg2,hg3,hg4⟩
  ·simp_all
  ·rw[hg4]at hyg;injection hyg with hyg;injection hyg with e1 e2;subst e1;subst e2
   have h1:=he1 g'
   rw[hb]at h1
   have h2:=Yhi hg2 (by rw[hs.size];omega) (Yae h1)
   simp only[Region.wanted,hg1,h2]
   rfl
 have hno: ∀g w,y.guard=some (g,w)->YtM env g= .v undef->Region.wanted o (yielded ops a.tmps)=false:=by
  intro g wt hyg hb
  rw[vg]at hyg
  rcases hg with⟨_,hg2⟩| ⟨j,want,g',hg1,hg2,hg3,hg4⟩
  ·simp_all
  ·rw[hg4]at hyg;injection hyg with hyg;injection hyg with e1 e2;subst e1;subst e2
   have h1:=he1 g'
   rw[hb]at h1
   have h2:=Yhj hg2 (by rw[hs.size];omega) (Yae h1)
   simp only[Region.wanted,hg1,h2]
   rfl
 have hok:Yun y env->Region.wanted o (yielded ops a.tmps)=true:=by
  rintro(h1| ⟨g,b,h1,h2⟩)
  ·rcases hg with⟨hg1,_⟩| ⟨j,want,g',_,_,_,hg4⟩
   ·simp[Region.wanted,hg1]
   simp_all
  grind
 rcases hco with⟨nid,us,hsm| ⟨⟨g,b,h1,h2⟩,rfl,rfl⟩,rfl⟩|hw
 ·obtain⟨k1,_,_,_,k5,k6⟩:=hsm
  have hwt:=hok k1
  refine⟨fun _=> ?_,fun h=>by simp_all⟩
  refine Oper.wp_mono ?_ (Ym6 hC hop vo hr1 he1 hs.fin k5 k6)
  rintro a' w' ⟨x',L',rfl,j1,j2,j3,j4⟩
  exact hs.step (YbX _ _ _) (YbW _ _ _) (Ye5 us h hs.fin) ⟨hk1,hs1⟩ j1 j2 j3 (YcJ (er_put' (fun t=>(he1 t).mono j1 j2) hdn' j4) hev)
 ·have hwf:Region.wanted o (yielded ops a.tmps)=false:=by
   grind
  refine⟨fun h=>(by simp_all),fun _=> ?_⟩
  exact hs.step (YbX _ _ _) (YbW _ _ _) hs.fin ⟨hk1,hs1⟩ (Keep.refl _ _) (LStep.refl _ _) hr1 (YcJ (er_put' he1 hdn' (.v _)) hev)
 ·obtain⟨k1,k2,_,H,H',rfl,rfl,k3⟩:=hw
  have hwt:=hok k1
  refine⟨fun _=> ?_,fun h=>by simp_all⟩
  have hyo:y.op=x.op:=by
   rcases vo with vo| ⟨g,n,z,_,vo⟩| ⟨z,as,_,vo⟩| ⟨z,as,_,_,vo⟩
   ·exact vo
   ·rw[vo]at k2;cases k2
   ·rw[vo]at k2;cases k2
   ·rw[vo]at k2;cases k2
  rw[hyo]at k3
  refine Oper.wp_mono ?_ (Yhh hC hop hr1 he1 k3)
  rintro a' w' ⟨x',v',H'',L',rfl,⟨rfl,rfl⟩,j1,j2,j3,j4⟩
  exact hs.step (YbX _ _ _) (YbW _ _ _) ⟨H''.length,fun b hb=>Yw7 hb⟩ ⟨hk1,hs1⟩ j1 j2 j3 (YcJ (er_put' (fun t=>(he1 t).mono j1 j2) hdn' j4) hev)
end
end Go.Abs
namespace Go.Abs
open Go Go.RowKit
theorem Ye6{α β:Type}{f:α->Option β}: ∀{l:List α} {r:List β},Yt7 f l=some r->r.length=l.length/\ ∀(i:Nat) (x:α),l[i]?=some x-> ∃y,r[i]?=some y/\f x=some y
 | [],r,h=>by simp[Yt7]at h;simp_all
 |a::l,r,h=>by
  obtain⟨y,zs,h1,h2,rfl⟩:=YbY h
  obtain⟨k1,k2⟩:=Ye6 h2
  grind
def ancOf(o:Oper)(acc:List Nat):Nat:=o.after.toList.foldl (fun s e=>if Region.binds .any e then s|||2^e.on|||acc.getD e.on 0 else s) 0
theorem YhF: ∀(os:List Oper) (acc:List Nat),∃B,ancs os acc=acc++B/\B.length=os.length/\ ∀(i:Nat) (o:Oper),os[i]?=some o->B[i]?=some (ancOf o ((acc++B).take (acc.length+i)))
 | [],acc=>⟨[],by simp[ancs],rfl,fun i o h=>by simp at h⟩
 |o::r,acc=>by
  obtain⟨B,h1,h2,h3⟩:=YhF r (acc++[ancOf o acc])
  refine⟨ancOf o acc::B,by simp only[ancs];rw[show(o.after.toList.foldl (fun s e=>if Region.binds .any e then s|||2^e.on|||acc.getD e.on 0 else s) 0)=ancOf o acc from rfl,h1];simp,by simp[h2],fun i p hp=> ?_⟩
  cases i with
  |zero=>simp at hp;subst hp;simp
  |succ i=>
   have:=h3 i p (by simpa using hp)
   simp
   rw[this]
   congr 2
   simp[Nat.add_assoc,Nat.add_comm 1 i]
theorem YhG{acc:List Nat}{k:Nat}: ∀(es:List Edge) (s:Nat),Nat.testBit (es.foldl (fun s e=>if Region.binds .any e then s|||2^e.on|||acc.getD e.on 0 else s) s) k=true->
  Nat.testBit s k=true\/ ∃e∈es,Region.binds .any e=true/\ (e.on=k\/Nat.testBit (acc.getD e.on 0) k=true)
 | [],s,h=>.inl h
 |e::r,s,h=>by
  rcases YhG r _ h with h| ⟨e',he',h⟩
  ·grind
  grind
theorem Ym7{os:List Oper}{i k:Nat}(h:Nat.testBit ((ancs os []).getD i 0) k=true):
  ∃o,os[i]?=some o/\ ∃e∈o.after.toList,Region.binds .any e=true/\ (e.on=k\/Nat.testBit ((ancs os []).getD e.on 0) k=true):=by
 obtain⟨B,h1,h2,h3⟩:=YhF os []
 simp at h1 h3
 rw[h1]at h
 cases ho:os[i]? with
 |none=>
  simp_all
 |some o=>
  refine⟨o,rfl,?_⟩
  rw[List.getD,h3 i o ho]at h
  rcases YhG _ _ h with h| ⟨e,he,hb,h⟩
  ·grind
  grind
theorem YhH: ∀(os:List Oper) (i:Nat),YuD os i=true-> ∀(k:Nat) (o:Oper),os[k]?=some o-> ∀e∈o.after.toList,Region.binds .any e=true->e.on<i+k
 | [],i,_,k,o,hk=>by trivial
 |p::r,i,h,k,o,hk=>by
  simp only[YuD,YxL]at h
  intro e he hb
  cases k with
  |zero=>
   grind
  |succ k=>have:=YhH r (i+1) h.2 k o (by trivial) e he hb;omega
theorem YhI(pf:Nat->Bool)(an:List Nat)(i:Nat)(x:AI): ∀(l:List (AI×Nat)) (s:AI),(s.dst=x.dst/\s.op=x.op/\s.guard=x.guard)->
  let r:=l.foldl (fun(s:AI) (p:AI×Nat)=>
   if p.2=i then s
   else if(an.getD (max i p.2) 0).testBit (min i p.2)then s
   else let m:=Ywv pf (Yxu p.2 i) x p.1;{s with old:=s.old||m.1,nw:=s.nw||m.2}) s
  r.dst=x.dst/\r.op=x.op/\r.guard=x.guard
 | [],s,h=>h
 |p::l,s,h=>by
  refine YhI pf an i x l _ ?_
  grind
theorem YhJ{pf:Nat->Bool}{an:List Nat}{is:List AI}:(YtV pf an is).length=is.length/\ ∀(i:Nat) (y:AI),(YtV pf an is)[i]?=some y-> ∃x,is[i]?=some x/\y.dst=x.dst/\y.op=x.op/\y.guard=x.guard:=by
 refine⟨by simp[YtV],fun i y hy=> ?_⟩
 simp only[YtV,YwR,List.getElem?_zipIdx]at hy
 cases hx:is[i]? with
 |none=>simp_all
 |some x=>
  simp[hx]at hy
  refine⟨x,rfl,?_⟩
  subst hy
  exact YhI pf an i x _ x ⟨rfl,rfl,rfl⟩
theorem Ym8{pf:Nat->Bool}{an:List Nat}{is:List AI}:(YvA pf an is).length=is.length/\ ∀(i:Nat) (y:AI),(YvA pf an is)[i]?=some y-> ∃x,is[i]?=some x/\y.dst=x.dst/\y.op=x.op/\y.guard=x.guard:=by
 obtain⟨m1,m2⟩:=YhJ (pf:=pf) (an:=an) (is:=is)
 refine⟨by unfold YvA;simp_all,fun i y hy=> ?_⟩
 unfold YvA at hy
 grind
theorem YdB{pf:Nat->Bool}{mk:Bool}{dd:Nat->Bool}{an:List Nat}{is ys:List AI}(h:Yur pf mk dd an is=some ys):
  Yuh pf an ys=true/\ys.length=is.length/\ ∀(i:Nat) (y:AI),ys[i]?=some y-> ∃x,is[i]?=some x/\Yu6 x y:=by
 have ro: ∀(i:Nat) (y:AI),(readOnly is)[i]?=some y-> ∃x,is[i]?=some x/\Yu6 x y:=by
  intro i y hy
  simp only[readOnly,YwR]at hy
  cases hx:is[i]? with
  |none=>simp_all
  |some x=>
   simp[hx]at hy
   refine⟨x,rfl,?_⟩
   subst hy
   split
   ·rename_i g n z e;exact⟨rfl,rfl,.inr (.inl ⟨g,n,z,e,rfl⟩)⟩
   ·exact⟨rfl,rfl,.inl rfl⟩
 have pd: ∀(i:Nat) (y:AI),(YuN is)[i]?=some y-> ∃x,is[i]?=some x/\Yu6 x y:=by
  intro i y hy
  simp only[YuN,YwR]at hy
  cases hx:is[i]? with
  |none=>simp_all
  |some x=>
   simp[hx]at hy
   refine⟨x,rfl,?_⟩
   subst hy
   split
   ·rename_i z as e;exact⟨rfl,rfl,.inr (.inr (.inl ⟨z,as,e,rfl⟩))⟩
   ·exact⟨rfl,rfl,.inl rfl⟩
 have mn: ∀(i:Nat) (y:AI),(Yuq pf dd is)[i]?=some y-> ∃x,is[i]?=some x/\Yu6 x y:=by
  intro i y hy
  simp only[Yuq,YwR]at hy
  cases hx:is[i]? with
  |none=>simp_all
  |some x=>
   simp[hx]at hy
   refine⟨x,rfl,?_⟩
   subst hy
   split
   ·rename_i z as e
    split
    ·exact⟨rfl,rfl,.inl rfl⟩
    ·exact⟨rfl,rfl,.inr (.inr (.inr ⟨z,as,_,e,rfl⟩))⟩
   ·exact⟨rfl,rfl,.inl rfl⟩
 have mk': ∀js:List AI,js.length=is.length->(∀(i:Nat) (y:AI),js[i]?=some y-> ∃x,is[i]?=some x/\Yu6 x y)->(YtV pf an js).length=is.length/\
   ∀(i:Nat) (y:AI),(YtV pf an js)[i]?=some y-> ∃x,is[i]?=some x/\Yu6 x y:=by
  intro js hl hj
  obtain⟨m1,m2⟩:=YhJ (pf:=pf) (an:=an) (is:=js)
  refine⟨m1.trans hl,fun i y hy=> ?_⟩
  obtain⟨x,hx,e1,e2,e3⟩:=m2 i y hy
  obtain⟨z,hz,f1,f2,f3⟩:=hj i x hx
  exact⟨z,hz,e1.trans f1,e3.trans f2,by simp_all⟩
 unfold Yur at h
 split at h
 ·cases h
 split at h
 ·rename_i hok;rw[YxL]at hok;injection h with h;subst h;exact⟨hok.2,mk' _ (by simp[Yuq]) mn⟩
 split at h
 ·rename_i hok;injection h with h;subst h;exact⟨hok,rfl,fun i y hy=>⟨y,hy,rfl,rfl,.inl rfl⟩⟩
 split at h
 ·rename_i hok;injection h with h;subst h;exact⟨hok,mk' _ rfl (fun i y hy=>⟨y,hy,rfl,rfl,.inl rfl⟩)⟩
 split at h
 ·rename_i hok;rw[YxL]at hok;injection h with h;subst h
  obtain⟨m1,m2⟩:=Ym8 (pf:=pf) (an:=an) (is:=is)
  exact⟨hok.2,m1,fun i y hy=>by obtain⟨x,hx,e1,e2,e3⟩:=m2 i y hy;exact⟨x,hx,e1,e3,.inl e2⟩⟩
 split at h
 ·rename_i hok;injection h with h;subst h;exact⟨hok,mk' _ (by simp[readOnly]) ro⟩
 split at h
 ·rename_i hok;injection h with h;subst h;exact⟨hok,mk' _ (by simp[YuN]) pd⟩
 split at h
 ·rename_i hok;injection h with h;subst h;exact⟨hok,mk' _ (by simp[Yuq]) mn⟩
 trivial
def rem(m:Nat)(listed:Array Bool):List Nat:=(List.range m).filter fun i=> !listed.getD i true
theorem Ym9{m:Nat}{listed:Array Bool}(hsz:listed.size=m){i:Nat}(hi:i<m)(hl:listed.getD i true=false):
  ∃R1 R2,rem m listed=R1++i::R2/\rem m (listed.setIfInBounds i true)=R1++R2/\ (∀j∈R1,j<i/\listed.getD j true=false):=by
 have hr:List.range m=List.range i++i::List.range' (i+1) (m-i-1):=by
  have h1:List.range m=List.range' 0 i++List.range' i (m-i):=by
   rw[List.range_eq_range',show m=i+(m-i) by omega,<-List.range'_append_1]
   simp
  have h2:List.range' i (m-i)=i::List.range' (i+1) (m-i-1):=by
   rw[show m-i=(m-i-1)+1 by omega,List.range'_succ];simp
  rw[h1,h2,List.range_eq_range']
 refine⟨(List.range i).filter fun j=> !listed.getD j true,(List.range' (i+1) (m-i-1)).filter fun j=> !listed.getD j true,?_,?_,?_⟩
 ·unfold rem;simp_all
 ·unfold rem;rw[hr,List.filter_append,List.filter_cons]
  simp
  congr 1
  ·refine List.filter_congr (fun j hj=> ?_)
   have:i≠j:=by grind
   simp_all
  ·refine List.filter_congr (fun j hj=> ?_)
   have:i≠j:=by grind
   simp_all
 simp
section
variable{P:Program}{fm:FM}{n:Nat}{w0:World}{L0:Nat->Loc}
theorem YhK{l:Array Bool}{i j:Nat}(h:i≠j)(d:Bool):(l.setIfInBounds i true).getD j d=l.getD j d:=by
 simp_all
theorem Yna{C:Ctx}(hC:CtxOK P fm C){ops:Array Oper}{is ys:List AI}(h1:Yt7 (trAI P fm n ops) ops.toList=some is)
  {mk:Bool} {dd:Nat->Bool} (h2:Yur C.pf mk dd (ancs ops.toList []) is=some ys) (hE:YuD ops.toList 0=true) {n0:Nat->Prop} {F:Env->HF->Prop} {Q:Exit->Act->World->Prop}
  (hQ: ∀env h a w,F env h->SRF fm n w0 L0 env h a w->Q .normal a w):
  ∀(fuel:Nat) (listed:Array Bool) (a:Act) (w:World) (env:Env) (h:HF),listed.size=ops.size->
   (∀j k,listed.getD j false=true->Nat.testBit ((ancs ops.toList []).getD j 0) k=true->listed.getD k false=true)->(rem ops.size listed).length<=fuel->
   SRF fm n w0 L0 env h a w->Runs C n0 F ((rem ops.size listed).map fun i=>ys.getD i default) env h->wpAny P .any ops Q fuel listed a w:=by
 obtain⟨ok,hlen,hvar⟩:=YdB h2
 obtain⟨l1,g1⟩:=Ye6 h1
 have hlen':ys.length=ops.size:=by rw[hlen,l1];simp
 have none_left: ∀listed:Array Bool,listed.size=ops.size->Region.ready .any ops listed=[]->rem ops.size listed=[]:=by
  intro listed hsz hr
  have key: ∀i,i<ops.size->listed.getD i true=true:=by
   intro i
   induction i using Nat.strongRecOn with
   |_ i ih=>
    intro hi
    apply Classical.byContradiction
    intro hn
    have hn':listed.getD i true=false:=by simpa using hn
    have:i∈Region.ready .any ops listed:=by
     unfold Region.ready
     rw[List.mem_filter]
     refine⟨by simpa using hi,?_⟩
     rw[hn']
     have ho:ops[i]?=some ops[i]:=YxV hi
     rw[ho]
     simp only[YxO,Bool.true_and,YxF,YxI]
     rw[Array.all_eq_true']
     intro e he
     by_cases hb:Region.binds .any e=true
     ·have hlt:=YhH _ 0 hE i ops[i] (by simp[hi]) e (by simpa using he) hb
      have:=ih e.on (by omega) (by omega)
      have hlt2:e.on<listed.size:=by omega
      simp[hlt2]at this⊢
      exact .inr this
     ·simp[hb]
    rw[hr]at this
    cases this
  unfold rem
  rw[List.filter_eq_nil_iff]
  intro i hi
  simp[key i (by simpa using hi)]
 intro fuel
 induction fuel with
 |zero=>
  intro listed a w env h hsz hcl hle hs hr
  have he:rem ops.size listed=[]:=YwZ.1 (by omega)
  rw[he]at hr
  refine⟨?_,hQ env h a w hr hs⟩
  apply List.eq_nil_iff_forall_not_mem.2
  intro i hi
  have:i∈rem ops.size listed:=by
   unfold Region.ready at hi
   rw[List.mem_filter]at hi
   unfold rem
   rw[List.mem_filter]
   refine⟨hi.1,?_⟩
   have:=hi.2
   rw[YxL]at this
   exact this.1
  rw[he]at this
  cases this
 |succ fuel ih=>
  intro listed a w env h hsz hcl hle hs hr
  refine⟨fun hnil=> ?_,fun i hi=> ?_⟩
  ·rw[none_left listed hsz hnil]at hr
   exact hQ env h a w hr hs
  ·unfold Region.ready at hi
   rw[List.mem_filter]at hi
   obtain⟨hir,hi2⟩:=hi
   rw[YxL]at hi2
   have hlt:i<ops.size:=by simpa using hir
   have hnl:listed.getD i true=false:=by simpa using hi2.1
   have ho:ops[i]?=some ops[i]:=YxV hlt
   have hedge: ∀e∈ops[i].after.toList,Region.binds .any e=true->listed.getD e.on false=true:=by
    intro e he hb
    have:=hi2.2
    rw[ho]at this
    simp only[YxF,YxI]at this
    rw[Array.all_eq_true']at this
    have:=this e (by simpa using he)
    simpa[hb]using this
   have hdone: ∀k,Nat.testBit ((ancs ops.toList []).getD i 0) k=true->listed.getD k false=true:=by
    intro k hk
    obtain⟨o,ho',e,he,hb,hek⟩:=Ym7 hk
    have:o=ops[i]:=by rw[Array.getElem?_toList,ho]at ho';injection ho' with ho';exact ho'.symm
    subst this
    rcases hek with rfl|hek
    ·exact hedge e he hb
    ·exact hcl _ _ (hedge e he hb) hek
   obtain⟨R1,R2,e1,e2,e3⟩:=Ym9 hsz hlt hnl
   rw[e1,Yxk,YwS]at hr
   have hind: ∀x∈R1.map (fun i=>ys.getD i default),Yvn C.pf x (ys.getD i default)=true:=by
    intro x hx
    obtain⟨j,hj,rfl⟩:=Yw3.1 hx
    obtain⟨hji,hjn⟩:=e3 j hj
    unfold Yuh at ok
    have:=Yw1.1 (Yw1.1 ok i (by simp;omega)) j (by simpa using hji)
    rw[YxP]at this
    rcases this with hb|hb
    ·have hd:=hdone j hb
     have hjs:j<listed.size:=by omega
     rw[YxS]at hd hjn
     simp[hjs]at hd hjn
     rw[hd]at hjn;cases hjn
    ·have hj':ys[j]?=some (ys.getD j default):=by simp[List.getD,show j<ys.length by omega]
     have hi':ys[i]?=some (ys.getD i default):=by simp[List.getD,show i<ys.length by omega]
     rw[hj',hi']at hb
     exact hb
   obtain⟨env',h',hst,hr'⟩:=YhD hind hr
   rw[<-Yxk,<-e2]at hr'
   have hi':ys[i]?=some (ys.getD i default):=by simp[List.getD,show i<ys.length by omega]
   obtain⟨x,hx,hva⟩:=hvar i _ hi'
   obtain⟨x',hx',htr⟩:=g1 i ops[i] (by simp[hlt])
   have:x'=x:=by rw[hx]at hx';injection hx' with hx';exact hx'.symm
   subst this
   obtain⟨r1,r2⟩:=YhE hC htr hva hs hst (Q:=Q)
   have next: ∀a' w',SRF fm n w0 L0 env' h' a' w'->wpAny P .any ops Q fuel (listed.setIfInBounds i true) a' w':=by
    intro a' w' hs'
    refine ih _ a' w' env' h' (by simpa using hsz) (fun j k hj hk=> ?_) ?_ hs' hr'
    ·have hk':listed.getD k false=true:=by
      by_cases e:i=j
      ·subst e;exact hdone k hk
      ·rw[YhK e]at hj;exact hcl j k hj hk
     by_cases e:i=k
     ·subst e
      rw[YxS];simp[hsz,hlt]
     ·rw[YhK e];exact hk'
    ·rw[e1]at hle;rw[e2];simp at hle⊢;omega
   unfold wpOp
   rw[ho]
   simp only
   split
   ·rename_i hw;exact .inl (Oper.wp_mono next (r1 hw))
   ·rename_i hw;exact next _ _ (r2 (by simpa using hw))
theorem Ynb{C:Ctx}(hC:CtxOK P fm C)(hm:P.follows .mixedOrders=true){ops:Array Oper}{is ys:List AI}(h1:Yt7 (trAI P fm n ops) ops.toList=some is)
  (hE:YuD ops.toList 0=true) {mk:Bool} {dd:Nat->Bool} (h2:Yur C.pf mk dd (ancs ops.toList []) is=some ys) {K:ASt->Prop} {st:ASt} {n0:Nat->Prop} (hn0: ∀a,st.heap.length<=a->n0 a) (hev:Yuy C n0 ys K st) {a:Act} {w:World} (hs:SR fm n w0 L0 st a w)
  {Q:Exit->Act->World->Prop} (hQ: ∀st a w,K st->SR fm n w0 L0 st a w->Q .normal a w) {id:Nat}:(Code.region id ops true).wp P Q a w:=by
 refine wp_region_any hm ?_
 obtain⟨L,k1,k2,k3,k4⟩:=hs.rel
 have hk:Keep L w {w with drawn:=w.drawn+1}:=⟨rfl,rfl,rfl,Yxs _,fun _ _ _=>rfl,fun _ _ h=>h⟩
 have hs0:SRF fm n w0 L0 st.env (hf st.heap) a {w with drawn:=w.drawn+1}:=
  ⟨hs.defers,hs.size,⟨st.heap.length,fun b hb=>Yw7 hb⟩,L,k1.trans k2 hk,k2,k3.mono hk (fun _ _ _=>rfl),fun t=>(k4 t).mono hk (LStep.refl _ _)⟩
 have hruns:=YdA ys st hn0 hev
 have hlen':ys.length=ops.size:=by rw[(YdB h2).2.1,(Ye6 h1).1];simp
 refine Yna hC h1 h2 hE (F:=fun env h=> ∃st',K st'/\EqE st'.env env/\h=hf st'.heap/\st'.base=st.base) (n0:=n0) ?_ ops.size _ a _ st.env (hf st.heap) (by simp) ?_ ?_ hs0 ?_
 ·rintro env h a' w' ⟨st',q1,q2,q3,q4⟩ hs'
  subst q3
  obtain⟨L',j1,j2,j3,j4⟩:=hs'.rel
  exact hQ st' a' w' q1 ⟨hs'.defers,hs'.size,fun b hb=>by rw[q4];exact hs.base b hb,L',j1,j2,j3,YcJ j4 q2⟩
 ·intro j k hj _
  rw[YxS,Array.getElem?_replicate]at hj
  grind
 ·exact Yxy (List.length_filter_le ..) (by simp)
 ·have hr:rem ops.size (Array.replicate ops.size false)=List.range ops.size:=by
   unfold rem
   simp_all
  have hy:(List.range ops.size).map (fun i=>ys.getD i default)=ys:=by
   apply Yxc
   grind
  simp_all
def mkN1(pf:Nat->Bool)(dd:Nat->Bool)(i:AI):AI:=
 match i.op with| .call f as=>if pf f then i else{i with op:=.callN f as (match i.dst with|some d=>dd d|none=>false)}|_=>i
theorem YhL(pf:Nat->Bool)(dd:Nat->Bool)(is:List AI):Yuq pf dd is=is.map (mkN1 pf dd):=rfl
theorem Ync(pf:Nat->Bool)(dd:Nat->Bool)(x:AI):Yu6 x (mkN1 pf dd x):=by
 unfold mkN1
 split
 ·rename_i z as e
  split
  ·exact⟨rfl,rfl,.inl rfl⟩
  ·exact⟨rfl,rfl,.inr (.inr (.inr ⟨z,as,_,e,rfl⟩))⟩
 ·exact⟨rfl,rfl,.inl rfl⟩
theorem YhM{pf:Nat->Bool}{dd:Nat->Bool}: ∀{is ys:List AI},ys=Yuq pf dd is->(∀y∈ys,∀f as d,y.op≠ .callN f as d)->ys=is
 | [],ys,h,_=>h
 |x::r,ys,h,hn=>by
  rw[YhL,YwS]at h
  subst h
  have h1:mkN1 pf dd x=x:=by
   have:=hn _ (Yw6 ..)
   unfold mkN1 at this⊢
   split
   ·split
    ·rfl
    ·rename_i z as e hp;simp[e,hp]at this
   ·rfl
  rw[h1]
  congr 1
  exact YhM (pf:=pf) (dd:=dd) (is:=r) rfl (fun y hy=>hn y (Yxj _ hy))
theorem Ye7{C:Ctx}(hC:CtxOK P fm C){ops:Array Oper}{n0:Nat->Prop}{F:Env->HF->Prop}{Q:Exit->Act->World->Prop}{g:AI->AI}(hg: ∀x,Yu6 x (g x))
  (hQ: ∀env h a w,F env h->SRF fm n w0 L0 env h a w->Q .normal a w): ∀(os:List Oper) (is:List AI) (env:Env) (h:HF) (a:Act) (w:World),Yt7 (trAI P fm n ops) os=some is->
  SRF fm n w0 L0 env h a w->Runs C n0 F (is.map g) env h->wpList P ops Q os a w
 | [],is,env,h,a,w,hm,hs,hr=>by
   simp[Yt7]at hm;subst hm
   exact hQ env h a w hr hs
 |o::os,is,env,h,a,w,hm,hs,hr=>by
  obtain⟨y,zs,h1,h2,rfl⟩:=YbY hm
  obtain⟨env',h',hst,hr'⟩:=hr
  obtain⟨r1,r2⟩:=YhE hC h1 (hg y) hs hst (Q:=Q)
  unfold wpList
  cases hw:Region.wanted o (yielded ops a.tmps)with
  |true=>
   refine .inl (Oper.wp_mono ?_ (r1 hw))
   intro a' w' hs'
   exact Ye7 hC hg hQ os zs env' h' a' w' h2 hs' hr'
  |false=>exact Ye7 hC hg hQ os zs env' h' _ w h2 (r2 hw) hr'
theorem Ynd{C:Ctx}(hC:CtxOK P fm C){ops:Array Oper}{is:List AI}(h1:Yt7 (trAI P fm n ops) ops.toList=some is)
  {dd:Nat->Bool} {K:ASt->Prop} {st:ASt} {n0:Nat->Prop} (hn0: ∀a,st.heap.length<=a->n0 a) (hev:Yuy C n0 (Yuq C.pf dd is) K st) {a:Act} {w:World} (hs:SR fm n w0 L0 st a w)
  {Q:Exit->Act->World->Prop} (hQ: ∀st a w,K st->SR fm n w0 L0 st a w->Q .normal a w):wpList P ops Q ops.toList a w:=by
 obtain⟨L,k1,k2,k3,k4⟩:=hs.rel
 have hs0:SRF fm n w0 L0 st.env (hf st.heap) a w:=⟨hs.defers,hs.size,⟨st.heap.length,fun b hb=>Yw7 hb⟩,L,k1,k2,k3,k4⟩
 have hruns:=YdA (Yuq C.pf dd is) st hn0 hev
 refine Ye7 hC (Ync C.pf dd) (F:=fun env h=> ∃st',K st'/\EqE st'.env env/\h=hf st'.heap/\st'.base=st.base) (n0:=n0) ?_ ops.toList is st.env (hf st.heap) a w h1 hs0 (by rw[<-YhL];exact hruns)
 rintro env h a' w' ⟨st',q1,q2,q3,q4⟩ hs'
 subst q3
 obtain⟨L',j1,j2,j3,j4⟩:=hs'.rel
 exact hQ st' a' w' q1 ⟨hs'.defers,hs'.size,fun b hb=>by rw[q4];exact hs.base b hb,L',j1,j2,j3,YcJ j4 q2⟩
end
end Go.Abs
namespace Go.Abs
open Go Go.RowKit
def PostA(fm:FM)(n:Nat)(w0:World)(L0:Nat->Loc)(Q:Ex->ASt->Prop):Exit->Act->World->Prop
 | .normal,a,w=> ∃st,Q .nor st/\SR fm n w0 L0 st a w
 | .exit id,a,w=> ∃st,Q (.exit id) st/\SR fm n w0 L0 st a w
 | .ret,a,w=> ∃st,Q .ret st/\SR fm n w0 L0 st a w
 |_,_,_=>False
def Sat(C:Ctx)(c:ACode)(Q:Ex->ASt->Prop)(st:ASt):Prop:=
 ∀(P:Program) (fm:FM) (n:Nat) (code:Code),CtxOK P fm C->P.follows .mixedOrders=true->tr P fm C.pf n code=some c->
  ∀w0 L0 a w,SR fm n w0 L0 st a w->code.wp P (PostA fm n w0 L0 Q) a w
def Wk(st st':ASt):Prop:= ∀(fm:FM) (n:Nat) (w0:World) (L0:Nat->Loc) (a:Act) (w:World),SR fm n w0 L0 st a w->SR fm n w0 L0 st' a w
theorem Wk.refl(st:ASt):Wk st st:=fun _ _ _ _ _ _ h=>h
theorem Wk.trans{a b c:ASt}(h:Wk a b)(k:Wk b c):Wk a c:=fun _ _ _ _ _ _ x=>k _ _ _ _ _ _ (h _ _ _ _ _ _ x)
theorem PostA.mono{fm:FM}{n:Nat}{w0:World}{L0:Nat->Loc}{Q Q':Ex->ASt->Prop}(h: ∀e s,Q e s->Q' e s){e:Exit}{a:Act}{w:World}(hp:PostA fm n w0 L0 Q e a w):
  PostA fm n w0 L0 Q' e a w:=by
 cases e<;>first|exact hp| (obtain⟨s,hq,hs⟩:=hp;exact⟨s,h _ _ hq,hs⟩)
section
variable{C:Ctx}{Q:Ex->ASt->Prop}{st:ASt}
theorem Sat.mono{c:ACode}{Q':Ex->ASt->Prop}(h:Sat C c Q st)(hq: ∀e s,Q e s->Q' e s):Sat C c Q' st:=
 fun P fm n code hC hm ht w0 L0 a w hs=>wp_mono (h P fm n code hC hm ht w0 L0 a w hs) (fun _ _ _ hp=>hp.mono hq)
theorem Sat.wk{c:ACode}{s:ASt}(hw:Wk st s)(h:Sat C c Q s):Sat C c Q st:=
 fun P fm n code hC hm ht w0 L0 a w hs=>h P fm n code hC hm ht w0 L0 a w (hw _ _ _ _ _ _ hs)
theorem Ya9{P:Program}{fm:FM}{pf:Nat->Bool}{n id:Nat}{ops:Array Oper}{draw:Bool}{c:ACode}(h:tr P fm pf n (.region id ops draw)=some c)(hb:c≠ .bad):
  ∃is ys,Yt7 (trAI P fm n ops) ops.toList=some is/\c= .reg ys/\ (draw=true/\YuD ops.toList 0=true/\Yur pf (mkAt fm ops) (ddAt fm ops) (ancs ops.toList []) is=some ys\/draw=false/\ (ys=is\/ys=Yuq pf (ddAt fm ops) is)):=by
 simp only[tr]at h
 split at h
 ·rename_i ys hr
  injection h with h
  simp only[Yww]at hr
  grind
 simp_all
theorem YhN{ys:List AI}{n0:Nat->Prop}(hn0: ∀a,st.heap.length<=a->n0 a)(h:Yuy C n0 ys (Q .nor) st):Sat C (.reg ys) Q st:=by
 intro P fm n code hC hm ht w0 L0 a w hs
 cases code with
 |region id ops draw=>
  obtain⟨is,zs,h1,h2,h3⟩:=Ya9 ht (fun e=>by cases e)
  injection h2 with h2
  subst h2
  have hQ: ∀st a w,Q .nor st->SR fm n w0 L0 st a w->PostA fm n w0 L0 Q .normal a w:=fun st a w hq hs=>⟨st,hq,hs⟩
  rcases h3 with⟨rfl,hE,h3⟩| ⟨rfl,rfl|rfl⟩
  ·exact Ynb hC hm h1 hE h3 hn0 h hs hQ
  ·obtain⟨ops⟩:=ops
   exact wp_region_lit (Ydt hC hQ ops _ st a w h1 h hs)
  ·obtain⟨ops⟩:=ops
   exact wp_region_lit (Ynd hC h1 hn0 h hs hQ)
 |seq x y=>simp only[tr]at ht;grind
 |cond c x y=>simp only[tr]at ht;grind
 |block id b=>simp[tr]at ht
 |loop b=>simp[tr]at ht
 |_=>cases ht
theorem Yne(h:Q .nor st):Sat C .skip Q st:=by
 intro P fm n code hC hm ht w0 L0 a w hs
 cases code with
 |skip=>exact wp_skip ⟨st,h,hs⟩
 |region id ops draw=>obtain⟨_,_,_,h2,_⟩:=Ya9 ht (fun e=>by cases e);cases h2
 |seq x y=>simp only[tr]at ht;grind
 |cond c x y=>simp only[tr]at ht;grind
 |block id b=>simp[tr]at ht
 |loop b=>simp[tr]at ht
 |_=>cases ht
theorem Ynf{id:Nat}(h:Q (.exit id) st):Sat C (.exit id) Q st:=by
 intro P fm n code hC hm ht w0 L0 a w hs
 cases code with
 |exit id'=>injection ht with ht;injection ht with ht;subst ht;exact wp_exit ⟨st,h,hs⟩
 |region id ops draw=>obtain⟨_,_,_,h2,_⟩:=Ya9 ht (fun e=>by cases e);cases h2
 |seq x y=>simp only[tr]at ht;grind
 |cond c x y=>simp only[tr]at ht;grind
 |block id b=>simp[tr]at ht
 |loop b=>simp[tr]at ht
 |_=>cases ht
theorem Yng(h:Q .ret st):Sat C .ret Q st:=by
 intro P fm n code hC hm ht w0 L0 a w hs
 cases code with
 |ret=>exact wp_ret ⟨st,h,hs⟩
 |region id ops draw=>obtain⟨_,_,_,h2,_⟩:=Ya9 ht (fun e=>by cases e);cases h2
 |seq x y=>simp only[tr]at ht;grind
 |cond c x y=>simp only[tr]at ht;grind
 |block id b=>simp[tr]at ht
 |loop b=>simp[tr]at ht
 |_=>cases ht
def Ex.then(N:ASt->Prop)(Q:Ex->ASt->Prop):Ex->ASt->Prop
 | .nor,s=>N s
 | .exit id,s=>Q (.exit id) s
 | .ret,s=>Q .ret s
theorem YdC{x y:ACode}(h:Sat C x (Ex.then (Sat C y Q) Q) st):Sat C (.seq x y) Q st:=by
 intro P fm n code hC hm ht w0 L0 a w hs
 cases code with
 |seq cx cy=>
  simp only[tr]at ht
  split at ht
  ·rename_i x' y' hx hy
   injection ht with ht;injection ht with e1 e2;subst e1;subst e2
   refine wp_seq (wp_mono (h P fm n cx hC hm hx w0 L0 a w hs) ?_)
   intro e a' w' hp
   cases e with
   |normal=>obtain⟨s,hq,hs'⟩:=hp;exact hq P fm n cy hC hm hy w0 L0 a' w' hs'
   |exit id=>trivial
   |ret=>trivial
   |goto l=>trivial
   |panic ch=>trivial
   |outgrown=>trivial
  trivial
 |region id ops draw=>obtain⟨_,_,_,h2,_⟩:=Ya9 ht (fun e=>by cases e);cases h2
 |cond c x y=>simp only[tr]at ht;grind
 |block id b=>simp[tr]at ht
 |loop b=>simp[tr]at ht
 |_=>cases ht
def Yu7(st:ASt):Opd->Bool->ASt
 | .t g,b=>⟨(g,.v (.bool b))::st.env,st.heap,st.base⟩
 | .c _,_=>st
theorem YhO{fm:FM}{n:Nat}{w0:World}{L0:Nat->Loc}{a:Act}{w:World}(hs:SR fm n w0 L0 st a w){c:Opd}{b:Bool}(h:opd st.env c= .v (.bool b)):
  SR fm n w0 L0 (Yu7 st c b) a w:=by
 cases c with
 |c v=>exact hs
 |t g=>
  obtain⟨h1,h2,h3,L,h4,h5,h6,h7⟩:=hs
  exact⟨h1,h2,h3,L,h4,h5,h6,YcG h7 h⟩
theorem Ynh{c:Opd}{x y:ACode}{b:Bool}(hc:opd st.env c= .v (.bool b))(h1:b=true->Sat C x Q (Yu7 st c true))(h2:b=false->Sat C y Q (Yu7 st c false)):
  Sat C (.cond c x y) Q st:=by
 intro P fm n code hC hm ht w0 L0 a w hs
 cases code with
 |cond c' cx cy=>
  simp only[tr]at ht
  split at ht
  ·rename_i x' y' hx hy
   injection ht with ht;injection ht with e0 e1 e2;subst e0;subst e1;subst e2
   obtain⟨L,k1,k2,k3,k4⟩:=hs.rel
   have hv:=Yad k4 c'
   rw[hc]at hv
   have hv':=Yae hv
   refine wp_cond_split hv' (fun hb=> ?_) (fun hb=> ?_)
   ·subst hb;exact h1 rfl P fm n cx hC hm hx w0 L0 a w (YhO hs hc)
   ·subst hb;exact h2 rfl P fm n cy hC hm hy w0 L0 a w (YhO hs hc)
  trivial
 |region id ops draw=>obtain⟨_,_,_,h2,_⟩:=Ya9 ht (fun e=>by cases e);cases h2
 |seq x y=>simp only[tr]at ht;grind
 |block id b=>simp[tr]at ht
 |loop b=>simp[tr]at ht
 |_=>cases ht
def Ex.blk(id:Nat)(Q:Ex->ASt->Prop):Ex->ASt->Prop
 | .nor,s=>Q .nor s
 | .exit id',s=>bif id'==id then Q .nor s else Q (.exit id') s
 | .ret,s=>Q .ret s
theorem YhP{id:Nat}{b:ACode}(h:Sat C b (Ex.blk id Q) st):Sat C (.blk id b) Q st:=by
 intro P fm n code hC hm ht w0 L0 a w hs
 cases code with
 |block id' cb=>
  simp only[tr,YxE]at ht
  obtain⟨b',hb,ht⟩:=ht
  injection ht with e1 e2;subst e1;subst e2
  refine wp_block (wp_mono (h P fm n cb hC hm hb w0 L0 a w hs) ?_)
  intro e a' w' hp
  cases e with
  |normal=>trivial
  |exit id=>
   obtain⟨s,hq,hs'⟩:=hp
   by_cases e:id=id'
   ·subst e
    simp only[Ex.blk,beq_self_eq_true,cond_true]at hq
    simp only[Exit.inBlock,if_true]
    exact⟨s,hq,hs'⟩
   ·have e1:(id==id')=false:=by simp[e]
    simp only[Ex.blk,e1,cond_false]at hq
    simp only[Exit.inBlock,e,if_false]
    exact⟨s,hq,hs'⟩
  |ret=>trivial
  |goto l=>trivial
  |panic ch=>trivial
  |outgrown=>trivial
 |region id ops draw=>obtain⟨_,_,_,h2,_⟩:=Ya9 ht (fun e=>by cases e);cases h2
 |seq x y=>simp only[tr]at ht;grind
 |cond c x y=>simp only[tr]at ht;grind
 |loop b=>simp[tr]at ht
 |_=>cases ht
theorem YhQ{b:ACode}(J:Nat->ASt->Prop)(h0: ∃m s,J m s/\Wk st s)
  (hb: ∀m s,J m s->Sat C b (Ex.then (fun t=> ∃m' s',J m' s'/\m'<m/\Wk t s') Q) s):Sat C (.loop b) Q st:=by
 intro P fm n code hC hm ht w0 L0 a w hs
 cases code with
 |loop cb=>
  simp only[tr,YxE]at ht
  obtain⟨b',hcb,ht⟩:=ht
  injection ht with e1;subst e1
  obtain⟨m0,s0,hJ0,hw0⟩:=h0
  intro fr k cs
  have key: ∀m s a w,J m s->SR fm n w0 L0 s a w->
    ∃e a' w',PostA fm n w0 L0 Q e a' w'/\Arrives P (lone (fr.at a (.code cb:: .inLoop cb::k)) cs w) fr k cs e a' w':=by
   intro m
   induction m using Nat.strongRecOn with
   |_ m ih=>
    intro s a w hJ hs
    obtain⟨e,a₁,w₁,hq,harr⟩:=hb m s hJ P fm n cb hC hm hcb w0 L0 a w hs fr (.inLoop cb::k) cs
    cases e with
    |normal=>
     obtain⟨s1,⟨m',s',hJ',hlt,hwk⟩,hs1⟩:=hq
     obtain⟨e₂,a₂,w₂,hq₂,harr₂⟩:=ih m' hlt s' a₁ w₁ hJ' (hwk _ _ _ _ _ _ hs1)
     exact⟨e₂,a₂,w₂,hq₂,.of_steps (Steps.trans harr (.one step_inLoop)) harr₂⟩
    |exit id=>obtain⟨s1,hq,hs1⟩:=hq;refine⟨.exit id,a₁,w₁,?_,.pass (x:=.inLoop cb) rfl (fun _ _=>.inl (by simp)) harr⟩;exact⟨s1,hq,hs1⟩
    |ret=>obtain⟨s1,hq,hs1⟩:=hq;refine⟨.ret,a₁,w₁,?_,.pass (x:=.inLoop cb) rfl (fun _ _=>.inl (by simp)) harr⟩;exact⟨s1,hq,hs1⟩
    |goto l=>trivial
    |panic ch=>trivial
    |outgrown=>trivial
  obtain⟨e,a',w',hq,harr⟩:=key m0 s0 a w hJ0 (hw0 _ _ _ _ _ _ hs)
  exact⟨e,a',w',hq,.of_steps (.one step_loop) harr⟩
 |region id ops draw=>obtain⟨_,_,_,h2,_⟩:=Ya9 ht (fun e=>by cases e);cases h2
 |seq x y=>simp only[tr]at ht;grind
 |cond c x y=>simp only[tr]at ht;grind
 |block id b=>simp[tr]at ht
 |_=>cases ht
end
end Go.Abs
namespace Go.Abs
open Go Go.RowKit
inductive Cz(ρ:Nat->Nat)(Fz:Nat->Prop)(H H':HF):AV->AV->Prop
 |u (a:AV):Cz ρ Fz H H' a .u
 |v (x:Value):Cz ρ Fz H H' (.v x) (.v x)
 |emp:Cz ρ Fz H H' .emp .emp
 |empRd (es:Nat):Cz ρ Fz H H' .emp (.rd es [])
 |rd (es:Nat) (l l':List (List AV)) (hl:l.length=l'.length) (hz: ∀(i:Nat) (e e':List AV),l[i]?=some e->l'[i]?=some e'->e.length=e'.length)
  (h: ∀(i:Nat) (e e':List AV) (j:Nat) (x x':AV),l[i]?=some e->l'[i]?=some e'->e[j]?=some x->e'[j]?=some x'->Cz ρ Fz H H' x x'):Cz ρ Fz H H' (.rd es l) (.rd es l')
 |rp (cs cs':List AV) (hl:cs.length=cs'.length) (h: ∀(j:Nat) (x x':AV),cs[j]?=some x->cs'[j]?=some x'->Cz ρ Fz H H' x x'):Cz ρ Fz H H' (.rp cs) (.rp cs')
 |agg (cs cs':List AV) (hl:cs.length=cs'.length) (h: ∀(j:Nat) (x x':AV),cs[j]?=some x->cs'[j]?=some x'->Cz ρ Fz H H' x x'):Cz ρ Fz H H' (.agg cs) (.agg cs')
 |tup (cs cs':List AV) (hl:cs.length=cs'.length) (h: ∀(j:Nat) (x x':AV),cs[j]?=some x->cs'[j]?=some x'->Cz ρ Fz H H' x x'):Cz ρ Fz H H' (.tup cs) (.tup cs')
 |clo (f:Nat) (cs cs':List AV) (hl:cs.length=cs'.length) (h: ∀(j:Nat) (x x':AV),cs[j]?=some x->cs'[j]?=some x'->Cz ρ Fz H H' x x'):Cz ρ Fz H H' (.clo f cs) (.clo f cs')
 |ref (a off len:Nat) (o:AObj) (h:H' a=some (some o)):Cz ρ Fz H H' (.ref (ρ a) off len) (.ref a off len)
 |ptr (a i j:Nat) (o:AObj) (h:H' a=some (some o)):Cz ρ Fz H H' (.ptr (ρ a) i j) (.ptr a i j)
 |np (a:Nat) (o:AObj) (h:H' a=some (some o)):Cz ρ Fz H H' (.np (ρ a)) (.np a)
 |er:Cz ρ Fz H H' .er .er
 |frz (i off len:Nat) (o:AObj) (l':List (List AV)) (hz:Fz i) (ho:H i=some (some o)) (hle:off+len<=o.el.length) (hl:len=l'.length)
  (hlz: ∀(k:Nat) (e e':List AV),o.el[off+k]?=some e->l'[k]?=some e'->e.length=e'.length)
  (h: ∀(k:Nat) (e e':List AV) (j:Nat) (x x':AV),o.el[off+k]?=some e->l'[k]?=some e'->e[j]?=some x->e'[j]?=some x'->Cz ρ Fz H H' x x'):
  Cz ρ Fz H H' (.ref i off len) (.rd (wd o.es) l')
structure HCz(ρ:Nat->Nat)(Fz:Nat->Prop)(H H':HF)(base:Nat):Prop where
 inj: ∀a b o o',H' a=some (some o)->H' b=some (some o')->ρ a=ρ b->a=b
 low: ∀a,a<base->ρ a=a/\ (H a≠none->H' a≠none)
 obj: ∀a o',H' a=some (some o')-> ¬Fz (ρ a)/\ ∃o,H (ρ a)=some (some o)/\o'.es=o.es/\o'.el.length=o.el.length/\
  ∀(i:Nat) (e e':List AV),o.el[i]?=some e->o'.el[i]?=some e'->e.length=e'.length/\ ∀(j:Nat) (x x':AV),e[j]?=some x->e'[j]?=some x'->Cz ρ Fz H H' x x'
def locs(ρ:Nat->Nat)(H':HF)(L:Nat->Loc):Nat->Loc:=fun a=>
 match H' a with
 |none=>.fresh
 |some none=>match L a with
  | .hid g=>.hid g
  |_=>.dead
 |some (some _)=>L (ρ a)
section
variable{fm:FM}{w:World}{L:Nat->Loc}{ρ:Nat->Nat}{Fz:Nat->Prop}{H H':HF}{base:Nat}
theorem YdD{a g e c:Nat}(h:locs ρ H' L a= .cells g e c):(∃o,H' a=some (some o))/\L (ρ a)= .cells g e c:=by
 unfold locs at h
 grind
theorem YdE{a g:Nat}{i:Bool}(h:locs ρ H' L a= .mp i g):(∃o,H' a=some (some o))/\L (ρ a)= .mp i g:=by
 unfold locs at h
 grind
theorem YaX{a:Nat}{o:AObj}(h:H' a=some (some o)):locs ρ H' L a=L (ρ a):=by simp[locs,h]
theorem YdF{b:Nat}(h:OwnC (locs ρ H' L) b):OwnC L b:=by
 rcases h with⟨a,e,c,h⟩| ⟨a,i,h⟩
 ·exact .inl ⟨_,e,c,(YdD h).2⟩
 ·exact .inr ⟨_,i,(YdE h).2⟩
theorem Ye8{a g:Nat}(h:locs ρ H' L a= .hid g): ∃b,L b= .hid g:=by
 unfold locs at h
 grind
theorem Ye9{b:Nat}(h:YtW (locs ρ H' L) b):YtW L b:=by
 rcases h with h| ⟨a,h⟩
 ·exact .inl (YdF h)
 ·exact .inr (Ye8 h)
theorem YaD(hz:HCz ρ Fz H H' base)(hr:HR fm w L H){a a':AV}(hc:Cz ρ Fz H H' a a'): ∀{x:Value},VR fm w L x a->VR fm w (locs ρ H' L) x a':=by
 induction hc with
 |u a=>intro x _;exact .u x
 |v y=>intro x h;rw[Yae h];exact .v y
 |emp=>intro x h;obtain⟨A,rfl⟩:=YaK h;exact .emp A
 |empRd es=>intro x h;obtain⟨A,rfl⟩:=YaK h;exact .rd0 A es 0
 |rd es l l' hl hlz h ih=>
  intro x hx
  rcases YbA hx with⟨rfl,A,c,rfl⟩| ⟨b,o,c,vals,rfl,hne,hes,hes0,hlc,hb,hbs,hcl,h1,hrr⟩
  ·have:l'=[]:=YwZ.1 hl.symm
   subst this;exact .rd0 A es c
  ·have g2: ∀(i:Nat) (e':List AV) (j:Nat) (y':AV),l'[i]?=some e'->e'[j]?=some y'-> ∃e y,l[i]?=some e/\e[j]?=some y:=by
    intro i e' j y' hi hj
    obtain⟨e,he⟩:=Yai hl hi
    obtain⟨y,hy⟩:=Yai (hlz i e e' he hi) hj
    exact⟨e,y,he,hy⟩
   rw[hl]
   exact .rd b o c es l' vals (fun e=>hne (YwZ.1 (by rw[hl,e];rfl))) (fun e' he'=>by
     obtain⟨i,hi,he⟩:=List.mem_iff_getElem.1 he'
     have hi':l'[i]?=some e':=by rw[YwO hi,he]
     obtain⟨e,hie⟩:=Yai hl hi'
     rw[<-hlz i e e' hie hi']
     exact hes e (YwQ hie)) hes0 (by omega) (fun ho=>hb (Ye9 ho)) hbs
    (fun i e' j y' hi hj=>by obtain⟨e,y,h2,h3⟩:=g2 i e' j y' hi hj;exact hcl i e j y h2 h3)
    (fun i e' j y' hi hj=>by obtain⟨e,y,h2,h3⟩:=g2 i e' j y' hi hj;exact h1 i e j y h2 h3)
    (fun i e' j y' hi hj=>by obtain⟨e,y,h2,h3⟩:=g2 i e' j y' hi hj;exact ih i e e' j y y' h2 hi h3 hj (hrr i e j y h2 h3))
 |rp cs cs' hl h ih=>
  intro x hx
  obtain⟨b,o,vals,rfl,hb,hbs,hcl,h1,hrr⟩:=Ybz hx
  exact .rp b o cs' vals (fun ho=>hb (Ye9 ho)) hbs
   (fun j y' hj=>by obtain⟨y,hy⟩:=Yai hl hj;exact hcl j y hy)
   (fun j y' hj=>by obtain⟨y,hy⟩:=Yai hl hj;exact h1 j y hy)
   (fun j y' hj=>by obtain⟨y,hy⟩:=Yai hl hj;exact ih j y y' hy hj (hrr j y hy))
 |agg cs cs' hl h ih=>
  intro x hx
  obtain⟨xs,rfl,hs,hall⟩:=Ybj hx
  exact .agg xs cs' (by omega) (fun j y' hj=>by obtain⟨y,hy⟩:=Yai hl hj;exact(hall j y hy).1)
   (fun j y' hj=>by obtain⟨y,hy⟩:=Yai hl hj;exact ih j y y' hy hj (hall j y hy).2)
 |tup cs cs' hl h ih=>
  intro x hx
  obtain⟨xs,rfl,hs,hall⟩:=Ydj hx
  exact .tup xs cs' (by omega) (fun j y' hj=>by obtain⟨y,hy⟩:=Yai hl hj;exact ih j y y' hy hj (hall j y hy))
 |clo f cs cs' hl h ih=>
  intro x hx
  obtain⟨g,xs,rfl,hf,hs,hall⟩:=Ycy hx
  subst hf
  exact .clo g xs cs' (by omega) (fun j y' hj=>by obtain⟨y,hy⟩:=Yai hl hj;exact ih j y y' hy hj (hall j y hy))
 |ref a off len o h=>
  intro x hx
  obtain⟨_,o2,ho2,_⟩:=hz.obj a o h
  rcases Ya4 hr ho2 hx with⟨g,es,cap,hL,e1,e2,rfl⟩| ⟨A,b0,hL,hA0,rfl,rfl,rfl⟩
  ·exact .refAt g es cap a off len (by rw[YaX h];exact hL) e2
  ·exact .refNil A a b0 (by rw[YaX h];exact hL) hA0
 |ptr a i j o h=>
  intro x hx
  obtain⟨_,o2,ho2,_⟩:=hz.obj a o h
  obtain⟨g,es,cap,hL,e1,rfl⟩:=Ydl hr ho2 hx
  exact .ptrAt g es cap a i j (by rw[YaX h];exact hL)
 |np a o h=>
  intro x hx
  obtain⟨_,o2,ho2,_⟩:=hz.obj a o h
  rcases Ydm hr ho2 hx with⟨g,hL,ht,hv⟩| ⟨g,hL,rfl⟩| ⟨g,hL,rfl⟩
  ·exact .npAt g a x (by rw[YaX h];exact hL) ht hv
  rotate_left
  ·exact .itAt g a (by rw[YaX h];exact hL)
  ·exact .mpAt g a (by rw[YaX h];exact hL)
 |er=>intro x hx;cases hx with|er t p=>exact .er t p
 |frz i off len o l' hfz ho hle hl hlz h ih=>
  intro x hx
  rcases Ya4 hr ho hx with⟨g,es,cap,hL,e1,e2,rfl⟩| ⟨A,b0,hL,hA0,rfl,rfl,rfl⟩
  ·subst e1
   by_cases hl0:l'=[]
   ·subst hl0;subst hl;exact .rd0 _ _ _
   ·have hob:=hr.obj i o ho
    rw[hL]at hob
    obtain⟨_,hes,hlc,hcm,hall,cur,ty,hg,hcs,hrr⟩:=hob
    have hlt:=(YxT.1 hg).1
    have g2: ∀(k:Nat) (e':List AV),l'[k]?=some e'-> ∃e,o.el[off+k]?=some e:=by
     intro k e' hk
     have:=(YwP.1 hk).1
     exact⟨o.el[off+k],YwO (by omega)⟩
    have key: ∀k e j' y,o.el[off+k]?=some e->e[j']?=some y->(off+k)*(wd o.es)+j'<cur.size:=by
     intro k e j' y h1 hj
     have h2:=(YwP.1 h1).1
     have h3:=hall e (YwQ h1)
     have h4:=(YwP.1 hj).1
     have h5:(off+k+1)*(wd o.es)<=cap*(wd o.es):=YxA _ (by omega)
     rw[YxB]at h5
     omega
    have hno: ¬YtW (locs ρ H' L) g:=by
     rintro((⟨b,e,c,hb⟩| ⟨b,i',hb⟩)| ⟨b,hb⟩)
     ·obtain⟨⟨ob,hob⟩,hb2⟩:=YdD hb
      have:=hr.inj _ _ _ _ _ _ _ hb2 hL
      exact(hz.obj b ob hob).1 (by rw[this];exact hfz)
     ·obtain⟨_,hm,hn⟩:=hr.mpb (YdE hb).2
      rw[hg]at hm;injection hm with hm;exact hn _ _ _ hm.symm
     ·obtain⟨b',hb'⟩:=Ye8 hb
      exact(hr.hid b' g hb').2 (.inl ⟨i,_,_,hL⟩)
    rw[hl]
    refine .rd g (off*(wd o.es)) (cap-off) (wd o.es) l' (fun k j'=>cur.getD ((off+k)*(wd o.es)+j') undef) hl0 (fun e' he'=> ?_) hes (by omega) hno hlt (fun k e' j' y' hk hj=> ?_) (fun k e' j' y' hk hj=> ?_) (fun k e' j' y' hk hj=> ?_)
    ·obtain⟨k,hk,he⟩:=List.mem_iff_getElem.1 he'
     have hk':l'[k]?=some e':=by rw[YwO hk,he]
     obtain⟨e,hke⟩:=g2 k e' hk'
     rw[<-hlz k e e' hke hk']
     exact hall e (YwQ hke)
    ·obtain⟨e,hke⟩:=g2 k e' hk
     obtain⟨y,hy⟩:=Yai (hlz k e e' hke hk) hj
     rw[cell_of_row w g _ cur ty (0,0) hg,<-YxB]
     exact YbS (key k e j' y hke hy)
    ·obtain⟨e,hke⟩:=g2 k e' hk
     obtain⟨y,hy⟩:=Yai (hlz k e e' hke hk) hj
     exact(hrr _ e j' y hke hy).1
    ·obtain⟨e,hke⟩:=g2 k e' hk
     obtain⟨y,hy⟩:=Yai (hlz k e e' hke hk) hj
     exact ih k e e' j' y y' hke hk hy hj (hrr _ e j' y hke hy).2
  ·have:l'=[]:=YwZ.1 hl.symm
   subst this;exact .rd0 _ _ _
theorem YhR(hz:HCz ρ Fz H H' base)(hr:HR fm w L H):HR fm w (locs ρ H' L) H':=by
 refine⟨fun a o' ha=> ?_,fun a ha=> ?_,fun a=> ?_,fun a b g e c e' c' ha hb=> ?_,fun a g ha=> ?_,fun a o' g es cap h1 h2 h3=> ?_,fun a i g ha=> ?_,hr.tab.loc fun b _ h=>YdF h⟩
 ·obtain⟨_,o,ho,hes,hlen,hall⟩:=hz.obj a o' ha
  rw[YaX ha]
  have hob:=hr.obj (ρ a) o ho
  revert hob
  cases hL:L (ρ a)with
  |fresh=>exact id
  |dead=>exact id
  |hid g=>exact id
  |nil=>intro h1;exact⟨YwZ.1 (by rw[hlen,show o.el=[]from h1.1];rfl),fun h0=>h1.2 (hes.symm.trans h0)⟩
  |cells g es cap=>
   rintro⟨h0,h1,h2,h3,h4,cur,ty,h5,h6,h7⟩
   refine⟨by rw[hes];exact h0,h1,by omega,h3,fun e' he'=> ?_,cur,ty,h5,h6,fun i e' j x' hi hj=> ?_⟩
   ·obtain⟨k,hk,he⟩:=List.mem_iff_getElem.1 he'
    have hk':o'.el[k]?=some e':=by rw[YwO hk,he]
    obtain⟨e,hke⟩:=Yai hlen.symm hk'
    rw[<-(hall k e e' hke hk').1]
    exact h4 e (YwQ hke)
   ·obtain⟨e,hke⟩:=Yai hlen.symm hi
    obtain⟨y,hy⟩:=Yai (hall i e e' hke hi).1 hj
    exact⟨(h7 i e j y hke hy).1,YaD hz hr ((hall i e e' hke hi).2 j y x' hy hj) (h7 i e j y hke hy).2⟩
  |mp i g=>
   have one: ∀{x:List AV},o.el=[x]-> ∃x',o'.el=[x']/\x.length=x'.length/\ (∀(j:Nat) (y y':AV),x[j]?=some y->x'[j]?=some y'->Cz ρ Fz H H' y y'):=by
    intro x hx
    rw[hx]at hlen hall
    match hel:o'.el,hlen with
    | [x'],_=>exact⟨x',rfl,(hall 0 _ x' rfl (by rw[hel];rfl)).1,(hall 0 _ x' rfl (by rw[hel];rfl)).2⟩
   have rows: ∀{R R':AV} {wd:Nat} {el:List (List AV)},Cz ρ Fz H H' R R'->R= .rd wd el->R'= .u\/ ∃el',R'= .rd wd el'/\el.length=el'.length/\ ∀(i:Nat) (e e':List AV),el[i]?=some e->el'[i]?=some e'->e.length=e'.length/\ ∀(j:Nat) (x x':AV),e[j]?=some x->e'[j]?=some x'->Cz ρ Fz H H' x x':=by
    intro R R' wd el hc hR
    subst hR
    cases hc with
    |u=>exact .inl rfl
    |rd es l l' hl hz h=>exact .inr ⟨l',rfl,hl,fun i e e' h1 h2=>⟨hz i e e' h1 h2,fun j x x' h3 h4=>h i e e' j x x' h1 h2 h3 h4⟩⟩
   cases i with
   |true=>
    rintro⟨h0,a0,s,t,S,tag,g',since,seen,stepped,h1,h2,h3,h4,h5,h6,h7⟩
    obtain⟨x',e1,hl1,hc1⟩:=one h2
    match x',hl1 with
    | [a0',s',t',S',tag'],_=>
      refine⟨hes.trans h0,a0',s',t',S',tag',g',since,seen,stepped,h1,e1,YaD hz hr (hc1 0 _ _ rfl rfl) h3,YaD hz hr (hc1 1 _ _ rfl rfl) h4,YaD hz hr (hc1 2 _ _ rfl rfl) h5,YaD hz hr (hc1 4 _ _ rfl rfl) h6,?_⟩
      have hcS:=hc1 3 _ _ rfl rfl
      rcases h7 with rfl| ⟨wd,bl,rfl,h8⟩
      ·cases hcS;exact .inl rfl
      ·rcases rows hcS rfl with e| ⟨el',e,hl4,hc4⟩
       ·exact .inl e
       ·refine .inr ⟨wd,el',e,h8.1.trans hl4,fun i e' hi=> ?_⟩
        obtain⟨e,hke⟩:=Yai hl4 hi
        obtain⟨n,b,k1,rfl,k3⟩:=h8.2 i e hke
        obtain⟨hl,hc⟩:=hc4 i _ e' hke hi
        match e',hl,hc with
        | [b'],_,hc=>exact⟨n,b',k1,rfl,YaD hz hr (hc 0 _ _ rfl rfl) k3⟩
   |false=>
   rintro⟨h0,ms,clock,c0,R,tags,h1,h2,h2',ht,hasc,h3⟩
   obtain⟨x',e1,hl1,hc1⟩:=one h2
   match x',hl1 with
   | [],hl1=>simp at hl1
   | [_],hl1=>simp at hl1
   |c0'::R'::tags',hl1=>
   have hlt:tags.length=tags'.length:=by simpa using hl1
   refine⟨by rw[hes];exact h0,ms,clock,c0',R',tags',h1,e1,YaD hz hr (hc1 0 _ _ rfl rfl) h2',fun t' ht'=> ?_,hasc,?_⟩
   ·obtain⟨j,hj⟩:=YwW.1 ht'
    obtain⟨t,htj⟩:=Yai hlt hj
    exact YaD hz hr (hc1 (j+2) t t' (by simpa using htj) (by simpa using hj)) (ht t (YwQ htj))
   have hcR:=hc1 1 _ _ rfl rfl
   rcases h3 with rfl| ⟨wd,el,rfl,h3⟩
   ·cases hcR;exact .inl rfl
   rcases rows hcR rfl with e| ⟨el',e,hl2,hc2⟩
   ·exact .inl e
   refine .inr ⟨wd,el',e,h3.len.trans hl2,fun i e' hi=> ?_⟩
   obtain⟨e,hke⟩:=Yai hl2 hi
   obtain⟨m,b,k,r,k1,rfl,k2,k3,k4⟩:=h3.row i e hke
   obtain⟨hl,hc⟩:=hc2 i _ e' hke hi
   match e',hl,hc with
   | [],hl,_=>simp at hl
   | [_],hl,_=>simp at hl
   |b'::k'::r',hl,hc=>
    have hl':r.length=r'.length:=by simpa using hl
    refine⟨m,b',k',r',k1,rfl,YaD hz hr (hc 0 b b' rfl rfl) k2,YaD hz hr (hc 1 k k' rfl rfl) k3,?_⟩
    have hc': ∀j x x',r[j]?=some x->r'[j]?=some x'->Cz ρ Fz H H' x x':=fun j x x' h1 h2=>hc (j+2) x x' (by simpa using h1) (by simpa using h2)
    rw[hes]
    rcases k4 with⟨q0,a,rfl,q1,q2⟩| ⟨q0,xs,q1,q2⟩
    ·match r',hl' with
     | [a'],_=>exact .inl ⟨q0,a',rfl,q1,YaD hz hr (hc' 0 a a' rfl rfl) q2⟩
    ·obtain⟨xs',e,s1,s2⟩:=Ybj q2
     injection e with e;subst e
     refine .inr ⟨q0,xs,q1,.agg xs r' (by omega) (fun j a' hj=> ?_) (fun j a' hj=> ?_)⟩
     ·obtain⟨a,ha⟩:=Yai hl' hj
      exact(s2 j a ha).1
     ·obtain⟨a,ha⟩:=Yai hl' hj
      exact YaD hz hr (hc' j a a' ha hj) (s2 j a ha).2
 ·cases h:H' a with
  |none=>simp[locs,h]at ha
  |some oo=>
   cases oo with
   |some o=>exact⟨o,rfl⟩
   |none=>
    simp only[locs,h]at ha
    exfalso
    rcases ha with⟨g,es,cap,ha⟩| ⟨_,ha⟩<;>(split at ha<;>cases ha)
 ·cases h:H' a with
  |none=>simp[locs,h]
  |some oo=>
   cases oo with
   |some o=>
    rw[YaX h]
    obtain⟨_,o2,ho2,_⟩:=hz.obj a o h
    constructor
    ·intro hf;have:=(hr.fresh _).1 hf;rw[ho2]at this;cases this
    ·intro hn;cases hn
   |none=>
    simp only[locs,h]
    constructor
    ·intro hf;split at hf<;>cases hf
    ·intro hn;cases hn
 ·obtain⟨⟨o,ho⟩,h1⟩:=YdD ha
  obtain⟨⟨o',ho'⟩,h2⟩:=YdD hb
  exact hz.inj a b o o' ho ho' (hr.inj _ _ _ _ _ _ _ h1 h2)
 ·obtain⟨b,hb⟩:=Ye8 ha
  exact⟨(hr.hid b g hb).1,fun hc=>(hr.hid b g hb).2 (YdF hc)⟩
 ·obtain⟨_,o2,ho2,hes,_⟩:=hz.obj a o' h1
  rw[YaX h1]at h3
  exact hr.byt _ o2 g es cap ho2 (by rw[<-hes];exact h2) h3
 ·obtain⟨⟨o,ho⟩,h1⟩:=YdE ha
  refine⟨⟨o,ho⟩,fun b j hb=> ?_⟩
  obtain⟨⟨o',ho'⟩,h2⟩:=YdE hb
  exact hz.inj a b o o' ho ho' ((hr.mps _ _ g h1).2 _ _ h2)
theorem YhS(hz:HCz ρ Fz H H' base)(hr:HR fm w L H){a:Nat}(ha:a<base)(hn:L a≠ .fresh):locs ρ H' L a=L a\/(locs ρ H' L a= .dead/\ ∀g,L a≠ .hid g):=by
 obtain⟨h1,h2⟩:=hz.low a ha
 have hHn:H a≠none:=fun e=>hn ((hr.fresh a).2 e)
 cases h:H' a with
 |none=>simp_all
 |some oo=>
  cases oo with
  |some o=>rw[YaX h,h1];simp
  |none=>
   cases hL:L a with
   |hid g=>left;simp[locs,h,hL]
   |_=>right;simp[locs,h,hL]
theorem YhT(hz:HCz ρ Fz H H' base)(hr:HR fm w L H){L0:Nat->Loc}{n:Nat}(hb: ∀b,L0 b≠ .fresh->b<base)(hs:LStep L0 L n):LStep L0 (locs ρ H' L) n:=by
 refine⟨fun a ha=> ?_,fun b hb=>hs.own b (Ye9 hb),fun b hb=>hs.ownc b (YdF hb)⟩
 rcases hs.old a ha with e| ⟨e,hg⟩
 ·rcases YhS hz hr (hb a ha) (by simp_all)with e'| ⟨e',hg⟩
  ·simp_all
  simp_all
 ·rcases YhS hz hr (hb a ha) (by simp_all)with e'| ⟨e',_⟩
  ·simp_all
  simp_all
end
theorem Yni{st st':ASt}(ρ:Nat->Nat)(Fz:Nat->Prop)(hz:HCz ρ Fz (hf st.heap) (hf st'.heap) st.base)(hb:st'.base=st.base)
  (he: ∀t,Cz ρ Fz (hf st.heap) (hf st'.heap) (YtM st.env t) (YtM st'.env t)):Wk st st':=by
 intro fm n w0 L0 a w hs
 obtain⟨h1,h2,h3,L,h4,h5,h6,h7⟩:=hs
 exact⟨h1,h2,fun b hb'=>by simp_all,_,h4,YhT hz h6 h3 h5,YhR hz h6,fun t=>YaD hz h6 (he t) (h7 t)⟩
end Go.Abs
namespace Go.Abs
open Go Go.RowKit
inductive RV where
 |t (n:Nat)
 |c (n:Nat) (g:Bool) (sz:Nat)
def resT(P:Program):List ResultVar->Option (List RV)
 | []=>some []
 | .tmp t::r=>(resT P r).map (.t t:: ·)
 | .cell a t::r=>match aggT P t,YtR P t,resT P r with
   |some g,some n,some l=>some (.c a g n::l)
   |_,_,_=>none
def fnTr(P:Program)(fm:FM)(pf:Nat->Bool)(f:FuncId):Option (Nat×List RV×ACode):=
 match P.funcs[f]? with
 |some fn=>match fn.body with
  |some c=>match fn.name== "runtime.NumGoroutine",resT P fn.results.toList,tr P fm pf fn.ntmps c with
   |false,some ts,some ac=>some (fn.ntmps,ts,ac)
   |_,_,_=>none
  |none=>none
 |none=>none
def Yuf:Nat->List AV->Env
 |_,[]=>[]
 |i,a::r=>(i,a)::Yuf (i+1) r
def Ywy(s:ASt)(r:RV)(v:AV):Prop:=
 match r with
 | .t n=>v=YtM s.env n
 | .c n g sz=>evG (.load g sz (.t n)) s.env (hf s.heap) 0 (fun v' _=>v'=v)
def YuF(s:ASt):List RV->List AV->Prop
 | [],[]=>True
 |r::rs,v::vs=>Ywy s r v/\YuF s rs vs
 |_,_=>False
def tupR:List AV->AV
 | [v]=>v
 |vs=>.tup vs
def Fin(s:ASt)(rv r:AV)(H':Heap):Prop:= ∀(fm:FM) (w:World) (L:Nat->Loc) (x:Value),HR fm w L (hf s.heap)->VR fm w L x rv->
 ∃L',(∀(L0:Nat->Loc) (n:Nat),(∀b,L0 b≠ .fresh->b<s.base)->LStep L0 L n->LStep L0 L' n)/\HR fm w L' (hf H')/\VR fm w L' x r
theorem YhU{s:ASt}{rv r:AV}{H':Heap}(ρ:Nat->Nat)(Fz:Nat->Prop)(hz:HCz ρ Fz (hf s.heap) (hf H') s.base)(hc:Cz ρ Fz (hf s.heap) (hf H') rv r):Fin s rv r H':=
 fun _ _ _ _ hr hv=>⟨_,fun _ _ hb hs=>YhT hz hr hb hs,YhR hz hr,YaD hz hr hc hv⟩
def RetQ(ts:List RV)(r:AV)(H':Heap):Ex->ASt->Prop
 | .exit _,_=>False
 |_,s=> ∃vs,YuF s ts vs/\Fin s (tupR vs) r H'
theorem YhV: ∀(args:List AV) (i t:Nat),YtM (Yuf i args) t=if i<=t then(args[t-i]?).getD .u else .u
 | [],i,t=>by simp[Yuf,YtM]
 |a::r,i,t=>by
  simp only[Yuf,YtM]
  by_cases h:i=t
  ·simp_all
  ·have h1:(i==t)=false:=by simp[h]
   rw[h1,cond_false,YhV r (i+1) t]
   grind
def Ywh(tmps:Array Value):ResultVar->Sem Value
 | .tmp t=>pure (tmps.getD t undef)
 | .cell a t=>do loadVar t (<-asAddr (tmps.getD a undef))
def valR:List Value->Value
 | [v]=>v
 |vs=>.tuple vs.toArray
def YvH(P:Program)(tmps:Array Value)(w:World):List ResultVar->List Value->Prop
 | [],[]=>True
 |r::rs,y::ys=>(Ywh tmps r).run P w= .ok y w/\YvH P tmps w rs ys
 |_,_=>False
theorem Ynj{P:Program}{fn:Func}{rs:List ResultVar}(h2:fn.results=rs.toArray)(h4:rs.length<=4){tmps:Array Value}{w:World}{ys:List Value}(h:YvH P tmps w rs ys):
  (results fn tmps).run P w= .ok (valR ys) w:=by
 have he:results fn tmps=(do
  let vs<-fn.results.mapM (Ywh tmps)
  pure (if h:vs.size=1 then vs[0]else .tuple vs)):=rfl
 rw[he,h2]
 match rs,ys,h4,h with
 | [],[],_,_=>simp[valR]
 | [r],[y],_,⟨k1,_⟩=>simp[valR,k1]
 | [r,r2],[y,y2],_,⟨k1,k2,_⟩=>simp[valR,k1,k2]
 | [r,r2,r3],[y,y2,y3],_,⟨k1,k2,k3,_⟩=>simp[valR,k1,k2,k3]
 | [r,r2,r3,r4],[y,y2,y3,y4],_,⟨k1,k2,k3,k4,_⟩=>simp[valR,k1,k2,k3,k4]
section
variable{P:Program}{fm:FM}{w:World}{L:Nat->Loc}
theorem Yfa{s:ASt}{a:Act}(hr:HR fm w L (hf s.heap))(he:ER fm w L a s.env): ∀{rs:List ResultVar} {ts:List RV} {vs:List AV},resT P rs=some ts->YuF s ts vs->
  rs.length=ts.length/\ ∃ys:List Value,YvH P a.tmps w rs ys/\ys.length=vs.length/\ ∀(j:Nat) (v:AV),vs[j]?=some v-> ∃y,ys[j]?=some y/\VR fm w L y v
 | [],ts,vs,h1,h2=>by
   simp[resT]at h1;subst h1
   cases vs with
   |nil=>exact⟨rfl,[],trivial,rfl,fun j v h=>by grind⟩
   |cons v vs=>trivial
 | .tmp t::r,ts,vs,h1,h2=>by
   simp only[resT,YxE]at h1
   obtain⟨ts',h1,rfl⟩:=h1
   cases vs with
   |nil=>trivial
   |cons v vs=>
    obtain⟨h2,h3⟩:=h2
    obtain⟨k0,ys,k1,k2,k3⟩:=Yfa hr he h1 h3
    refine⟨by grind,a.tmps.getD t undef::ys,⟨rfl,k1⟩,by grind,fun j x hx=> ?_⟩
    cases j with
    |zero=>simp at hx;subst hx;exact⟨_,rfl,by have h2':v=YtM s.env t:=h2;rw[h2'];exact he t⟩
    |succ j=>simp_all
 | .cell b t::r,ts,vs,h1,h2=>by
   simp only[resT]at h1
   split at h1
   ·rename_i g n l hg hn hl
    injection h1 with h1;subst h1
    cases vs with
    |nil=>trivial
    |cons v vs=>
     obtain⟨h2,h3⟩:=h2
     obtain⟨k0,ys,k1,k2,k3⟩:=Yfa hr he hl h3
     have hv: ∃ad y,a.tmps.getD b undef= .pointer (some ad)/\ (loadVar t ad).run P w= .ok y w/\VR fm w L y v:=by
      have hev:evG (.load g n (.t b)) s.env (hf s.heap) 0 (fun v' _=>v'=v):=h2
      simp only[evG,opK]at hev
      have hx:=he b
      split at hev<;>try trivial
      ·rename_i cs e
       have e':YtM s.env b= .rp cs:=e
       rw[e']at hx
       obtain⟨b',o,vals,e1,hb,hbs,hc,h1,hrr⟩:=Ybz hx
       obtain⟨y,v',k1,k2,k3⟩:=YeG (P:=P) (w:=w) hg hn hc h1 hrr hev
       simp_all
      ·rename_i a' i j e
       have e':YtM s.env b= .ptr a' i j:=e
       rw[e']at hx
       obtain⟨o,ha,el,hi,hev⟩:=hev
       obtain⟨ad,y,v',e1,k1,k2,k3⟩:=YgB hg hn hr ha hx hi hev
       simp_all
     obtain⟨ad,y,e1,e2,e3⟩:=hv
     refine⟨by grind,y::ys,⟨by simp[Ywh,e1,asAddr,e2],k1⟩,by grind,fun j x hx=> ?_⟩
     grind
   trivial
theorem Ynk{ys:List Value}{vs:List AV}(hl:ys.length=vs.length)(h: ∀(j:Nat) (v:AV),vs[j]?=some v-> ∃y,ys[j]?=some y/\VR fm w L y v):VR fm w L (valR ys) (tupR vs):=by
 have key:VR fm w L (.tuple ys.toArray) (.tup vs):=by
  refine .tup _ _ (by trivial) (fun j c hj=> ?_)
  obtain⟨y,h1,h2⟩:=h j c hj
  simp_all
 match ys,vs,hl with
 | [],[],_=>exact key
 | [y],[v],_=>obtain⟨y',h1,h2⟩:=h 0 v rfl;simp at h1;subst h1;exact h2
 |_::_::_,_::_::_,_=>exact key
end
theorem Ynl{P:Program}{fm:FM}{pf:Nat->Bool}{f:FuncId}{n:Nat}{ts:List RV}{ac:ACode}(h:fnTr P fm pf f=some (n,ts,ac)):
  ∃fn c,P.funcs[f]?=some fn/\fn.body=some c/\YtL P f=true/\resT P fn.results.toList=some ts/\fn.ntmps=n/\tr P fm pf n c=some ac:=by
 unfold fnTr at h
 cases hf:P.funcs[f]? with
 |none=>simp_all
 |some fn=>
  simp only[hf]at h
  cases hb:fn.body with
  |none=>simp_all
  |some c=>
   simp only[hb]at h
   split at h
   ·rename_i ts' ac' hn hr ht
    injection h with h;injection h with e1 h;injection h with e2 e3
    subst e1;subst e2;subst e3
    exact⟨fn,c,rfl,hb,by simp[YtL,hf,hb];simp_all,hr,rfl,ht⟩
   trivial
theorem YhW{P:Program}{fm:FM}{C:Ctx}(hC:CtxOK P fm C)(hm:P.follows .mixedOrders=true){f:FuncId}{n:Nat}{ts:List RV}{ac:ACode}(h:fnTr P fm C.pf f=some (n,ts,ac))
  (h4:ts.length<=4) {ct:Yt0} (hs: ∀args H r H',ct args H r H'->args.length<=n/\Sat C ac (RetQ ts r H') ⟨Yuf 0 args,H,H.length⟩):FOK P fm f ct:=by
 obtain⟨fn,c,hfn,hb,hcal,hres,hn,ht⟩:=Ynl h
 subst hn
 intro args H r H' hct
 obtain⟨hlen,hsat⟩:=hs args H r H' hct
 refine⟨hcal,fun w L vs hr hsz hvs=>calls_of_wp hfn hb ?_⟩
 have hs0:SR fm fn.ntmps w L ⟨Yuf 0 args,H,H.length⟩ ⟨vs++Array.replicate (fn.ntmps-vs.size) undef,[]⟩ w:=by
  refine⟨rfl,by simp_all,fun b hb'=> ?_,L,Keep.refl _ _,LStep.refl _ _,hr,fun t=> ?_⟩
  ·apply Classical.byContradiction
   intro hlt
   exact hb' ((hr.fresh b).2 (Yw7 (by simp_all)))
  ·rw[YhV]
   cases hj:args[t]? with
   |none=>exact .u _
   |some a=>
    have:=hvs t a hj
    rw[YxS]at this⊢
    grind
 have post: ∀a w',(∃s,(∃vs,YuF s ts vs/\Fin s (tupR vs) r H')/\SR fm fn.ntmps w L s a w')->a.defers=[]/\ ∃v,(results fn a.tmps).run P w'= .ok v w'/\
   ∃v' L',Ending.returned v= .returned v'/\Keep L w w'/\LStep L L' w.heap.size/\HR fm w' L' (hf H')/\VR fm w' L' v' r:=by
  rintro a w' ⟨s,⟨vs,hvs,hfin⟩,hs⟩
  obtain⟨h1,h2,h3,L1,h4',h5,h6,h7⟩:=hs
  obtain⟨k0,ys,k1,k2,k3⟩:=Yfa h6 h7 hres hvs
  obtain⟨L2,j1,j2,j3⟩:=hfin fm w' L1 _ h6 (Ynk k2 k3)
  exact⟨h1,_,Ynj (rs:=fn.results.toList) (by simp) (by omega) k1,_,L2,rfl,h4',j1 L _ h3 h5,j2,j3⟩
 refine wp_mono (hsat P fm fn.ntmps c hC hm ht w L _ w hs0) (fun e a w' hp=> ?_)
 cases e with
 |normal=>exact post a w' hp
 |ret=>exact post a w' hp
 |exit id=>obtain⟨s,hq,_⟩:=hp;trivial
 |goto l=>trivial
 |panic ch=>trivial
 |outgrown=>trivial
end Go.Abs
namespace Go.Abs
open Go Go.RowKit
def Z(n:Nat)(X:Heap):Heap:=List.replicate n none++X
theorem Ynm(n:Nat)(X:Heap):(Z n X).length=n+X.length:=by simp[Z]
theorem Yfb(n:Nat)(X:Heap)(i:Nat):(Z n X)[n+i]?=X[i]?:=by
 simp only[Z]
 grind
theorem Ynn(n:Nat)(X:Heap)(i:Nat)(h:i<n):(Z n X)[i]?=some none:=by
 simp only[Z]
 grind
theorem YhX(n:Nat)(a:Nat)(o:AObj):hf (Z n []) a≠some (some o):=by
 simp only[hf,Z,List.append_nil,Yxp]
 simp
def YuO(R:List AV->AV->Prop):Yt0:=fun args H r H'=> ∃n,H=Z n []/\H'=H/\ (∀a∈args,NR a)/\NR r/\R args r
def Out(H:Heap)(a r:AV):Prop:=Cz id (fun _=>True) (hf H) (fun _=>none) a r
def RetP(n:Nat)(ts:List RV)(r:AV):Ex->ASt->Prop
 | .exit _,_=>False
 |_,s=>s.base=n/\ ∃vs,YuF s ts vs/\Out s.heap (tupR vs) r
theorem Yno{H:Heap}{H':HF}{a r:AV}(h:Out H a r):Cz id (fun _=>True) (hf H) H' a r:=by
 induction h with
 |u a=>exact .u a
 |v x=>exact .v x
 |emp=>exact .emp
 |empRd es=>exact .empRd es
 |rd es l l' hl hz h ih=>exact .rd es l l' hl hz ih
 |rp cs cs' hl h ih=>exact .rp cs cs' hl ih
 |agg cs cs' hl h ih=>exact .agg cs cs' hl ih
 |tup cs cs' hl h ih=>exact .tup cs cs' hl ih
 |clo f cs cs' hl h ih=>exact .clo f cs cs' hl ih
 |ref a off len o h=>cases h
 |ptr a i j o h=>cases h
 |np a o h=>cases h
 |er=>exact .er
 |frz i off len o l' hz ho hle hl hlz h ih=>exact .frz i off len o l' hz ho hle hl hlz ih
theorem YhY{s:ASt}{n:Nat}(hb:s.base=n){rv r:AV}(h:Out s.heap rv r):Fin s rv r (Z n []):=by
 refine YhU id (fun _=>True) ⟨fun a b o o' ha=>absurd ha (YhX n a o),fun a ha=>⟨rfl,fun _=> ?_⟩,fun a o ha=>absurd ha (YhX n a o)⟩ (Yno h)
 rw[hb]at ha
 simp[hf,Ynn n [] a ha]
theorem Ynp{P:Program}{fm:FM}{C:Ctx}(hC:CtxOK P fm C)(hm:P.follows .mixedOrders=true){f:FuncId}{n:Nat}{ts:List RV}{ac:ACode}(h:fnTr P fm C.pf f=some (n,ts,ac))
  (h4:ts.length<=4) {R:List AV->AV->Prop} (hs: ∀args r,R args r->args.length<=n/\ ∀k,Sat C ac (RetP k ts r) ⟨Yuf 0 args,Z k [],k⟩):FOK P fm f (YuO R):=by
 refine YhW hC hm h h4 ?_
 rintro args H r H' ⟨k,rfl,rfl,hna,hnr,hR⟩
 obtain⟨h1,h2⟩:=hs args r hR
 refine⟨h1,?_⟩
 have:=(h2 k).mono (Q':=RetQ ts r (Z k [])) (fun e s hq=>by
  cases e with
  |exit id=>exact hq
  |nor=>obtain⟨hb,vs,h1,h2⟩:=hq;exact⟨vs,h1,YhY hb h2⟩
  |ret=>obtain⟨hb,vs,h1,h2⟩:=hq;exact⟨vs,h1,YhY hb h2⟩)
 simpa[Ynm]using this
def ElC(l l':List (List AV)):Prop:=l.length=l'.length/\ ∀(i:Nat) (e e':List AV),l[i]?=some e->l'[i]?=some e'->
 e.length=e'.length/\ ∀(j:Nat) (x x':AV),e[j]?=some x->e'[j]?=some x'->Coe x x'/\NR x'
theorem ElC.refl{l:List (List AV)}(h: ∀e∈l,∀x∈e,NR x):ElC l l:=by
 refine⟨rfl,fun i e e' he he'=> ?_⟩
 rw[he]at he';injection he' with he';subst he'
 refine⟨rfl,fun j x x' hx hx'=> ?_⟩
 rw[hx]at hx';injection hx' with hx';subst hx'
 exact⟨.refl _,h e (YwQ he) x (YwQ hx)⟩
theorem YhZ{ρ:Nat->Nat}{Fz:Nat->Prop}{H H':HF}{b:AV}(hn:NR b):Cz ρ Fz H H' b b:=by
 induction hn with
 |v x=>exact .v x
 |u=>exact .u _
 |emp=>exact .emp
 |rd es l h ih=>
  refine .rd es l l rfl (fun i e e' he he'=>by simp_all) (fun i e e' j x x' he he' hx hx'=> ?_)
  rw[he]at he';injection he' with he';subst he'
  rw[hx]at hx';injection hx' with hx';subst hx'
  exact ih e (YwQ he) x (YwQ hx)
 |rp cs h ih=>
  refine .rp cs cs rfl (fun j x x' hx hx'=> ?_)
  grind
 |agg cs h ih=>
  refine .agg cs cs rfl (fun j x x' hx hx'=> ?_)
  grind
 |tup cs h ih=>
  refine .tup cs cs rfl (fun j x x' hx hx'=> ?_)
  grind
 |clo f cs h ih=>
  refine .clo f cs cs rfl (fun j x x' hx hx'=> ?_)
  grind
 |er=>exact .er
theorem YaY{ρ:Nat->Nat}{Fz:Nat->Prop}{H H':HF}{a b:AV}(hc:Coe a b):NR b->Cz ρ Fz H H' a b:=by
 induction hc with
 |refl a=>exact YhZ
 |empRd es=>intro _;exact .empRd es
 |rd es l l' hl hlz h ih=>
  intro hn
  cases hn with
  |rd es l' hn=>exact .rd es l l' hl hlz (fun i e e' j x x' h1 h2 h3 h4=>ih i e e' j x x' h1 h2 h3 h4 (hn e' (YwQ h2) x' (YwQ h4)))
 |rp cs cs' hl h ih=>
  intro hn
  cases hn with
  |rp cs' hn=>exact .rp cs cs' hl (fun j x x' h3 h4=>ih j x x' h3 h4 (hn x' (YwQ h4)))
 |agg cs cs' hl h ih=>
  intro hn
  cases hn with
  |agg cs' hn=>exact .agg cs cs' hl (fun j x x' h3 h4=>ih j x x' h3 h4 (hn x' (YwQ h4)))
 |tup cs cs' hl h ih=>
  intro hn
  cases hn with
  |tup cs' hn=>exact .tup cs cs' hl (fun j x x' h3 h4=>ih j x x' h3 h4 (hn x' (YwQ h4)))
 |clo f cs cs' hl h ih=>
  intro hn
  cases hn with
  |clo f cs' hn=>exact .clo f cs cs' hl (fun j x x' h3 h4=>ih j x x' h3 h4 (hn x' (YwQ h4)))
def rho(n:Nat)(src:List Nat)(a:Nat):Nat:=if a<n then a else n+src.getD (a-n) 0
theorem Yh0(n:Nat){src:List Nat}{i k:Nat}(h:src[i]?=some k):rho n src (n+i)=n+k:=by
 unfold rho
 grind
def CZ(n:Nat)(src:List Nat)(X Y:Heap)(a b:AV):Prop:=Cz (rho n src) (fun a=>n<=a/\a-n∉src) (hf (Z n X)) (hf (Z n Y)) a b
theorem CZ.u{n:Nat}{src:List Nat}{X Y:Heap}(a:AV):CZ n src X Y a .u:=Cz.u a
theorem CZ.val{n:Nat}{src:List Nat}{X Y:Heap}{a b:AV}(h:Coe a b)(hn:NR b):CZ n src X Y a b:=YaY h hn
theorem CZ.ref{n:Nat}{src:List Nat}{X Y:Heap}{k i off len:Nat}{o:AObj}(h:src[i]?=some k)(ho:Y[i]?=some (some o)):CZ n src X Y (.ref (n+k) off len) (.ref (n+i) off len):=by
 have:=Cz.ref (ρ:=rho n src) (Fz:=fun a=>n<=a/\a-n∉src) (H:=hf (Z n X)) (H':=hf (Z n Y)) (n+i) off len o (by simp only[hf,Yfb];exact ho)
 rwa[Yh0 n h]at this
theorem CZ.ptr{n:Nat}{src:List Nat}{X Y:Heap}{k i a b:Nat}{o:AObj}(h:src[i]?=some k)(ho:Y[i]?=some (some o)):CZ n src X Y (.ptr (n+k) a b) (.ptr (n+i) a b):=by
 have:=Cz.ptr (ρ:=rho n src) (Fz:=fun a=>n<=a/\a-n∉src) (H:=hf (Z n X)) (H':=hf (Z n Y)) (n+i) a b o (by simp only[hf,Yfb];exact ho)
 rwa[Yh0 n h]at this
theorem CZ.frz{n:Nat}{src:List Nat}{X Y:Heap}{k off len:Nat}{o:AObj}{l':List (List AV)}(hk:k∉src)(ho:X[k]?=some (some o))(hle:off+len<=o.el.length)
  (hl:ElC ((o.el.drop off).take len) l'):CZ n src X Y (.ref (n+k) off len) (.rd (wd o.es) l'):=by
 have hlen:len=l'.length:=by rw[<-hl.1];grind
 have hsub: ∀(k:Nat) (e e':List AV),o.el[off+k]?=some e->l'[k]?=some e'->((o.el.drop off).take len)[k]?=some e:=by
  grind
 exact Cz.frz (n+k) off len o l' ⟨by omega,by simp_all⟩ (by simp only[hf,Yfb];exact ho) hle hlen (fun k e e' h1 h2=>(hl.2 k e e' (hsub k e e' h1 h2) h2).1)
  (fun k e e' j x x' h1 h2 h3 h4=>YaY ((hl.2 k e e' (hsub k e e' h1 h2) h2).2 j x x' h3 h4).1 ((hl.2 k e e' (hsub k e e' h1 h2) h2).2 j x x' h3 h4).2)
theorem Ynq{env:Env}{H:Heap}{b t es:Nat}(he:YtM env t= .emp)(hes:0<es):Wk ⟨env,H,b⟩ ⟨(t,.ref H.length 0 0)::env,H++[some ⟨es,[]⟩],b⟩:=by
 intro fm n w0 L0 a w hs
 obtain⟨h1,h2,h3,L,h4,h5,h6,h7⟩:=hs
 obtain⟨k1,k2⟩:=YbT h6 (nid:=H.length) (by simp[hf]) (es:=es) w0.heap.size false (fun h=>absurd h (by omega))
 have k2':LStep L (fun a=>if a=H.length then .nil false else L a) w.heap.size:=(YbT h6 (nid:=H.length) (by simp[hf]) (es:=es) w.heap.size false (fun h=>absurd h (by omega))).1
 rw[hf_push]at k2
 refine⟨h1,h2,h3,_,h4,h5.trans k1,k2,fun s=> ?_⟩
 simp only[YtM]
 by_cases e:t=s
 ·subst e
  simp only[beq_self_eq_true,cond_true]
  have:=h7 t
  simp only[he]at this
  obtain⟨A,hA⟩:=YaK this
  rw[hA]
  exact .refNil A H.length false (by simp) (fun h=>by cases h)
 ·have h1:(t==s)=false:=by simp[e]
  rw[h1,cond_false]
  exact(h7 s).mono (Keep.refl _ _) k2'
end Go.Abs
namespace Go.Abs
open Go Go.RowKit
def Ywz:List (Nat×Yt0)->Nat->Yt0
 | [],_=>fun _ _ _ _=>False
 | (k,c)::r,g=>bif k==g then c else Ywz r g
def YwA(pf:Nat->Bool)(l:List (Nat×Yt0)):Ctx:=⟨Ywz l,pf⟩
structure Pure(c:Yt0):Prop where
 nr: ∀args H r H',c args H r H'->(∀a∈args,NR a)/\NR r/\H'=H
 any: ∀args r n,c args [] r []->c args (List.replicate n none) r (List.replicate n none)
theorem Yfc(R:List AV->AV->Prop):Pure (YuO R):=
 ⟨fun args H r H' ⟨_,_,h2,h3,h4,_⟩=>⟨h3,h4,h2⟩,fun args r n ⟨_,_,_,h3,h4,h5⟩=>⟨n,by simp[Z],rfl,h3,h4,h5⟩⟩
theorem Ynr(P:Program)(fm:FM)(pf:Nat->Bool):CtxOK P fm (YwA pf []):=
 ⟨fun _ _ _ _ _ h=>h.elim,fun _ _ _ _ _ _ h=>h.elim,fun _ _ _ _ _ h=>h.elim⟩
theorem Yh1: ∀as:List AV,All2 Coe as as
 | []=>trivial
 |a::as=>⟨.refl a,Yh1 as⟩
end Go.Abs
namespace Go.Abs
open Go Go.RowKit
def Yug:Nat->Loc:=fun _=>.fresh
theorem Yfd(b:Nat): ¬OwnC Yug b:=fun h=>h.elim (fun⟨_,_,_,h⟩=>by cases h) (fun⟨_,_,h⟩=>by cases h)
theorem Yns(b:Nat): ¬YtW Yug b:=fun h=>h.elim (Yfd b) (fun⟨_,h⟩=>by cases h)
def TabW(fm:FM)(w:World):Prop:= ∀p∈fm.tb,∃c t f,p.2 c/\w.heap[p.1]?=some (.cells c t f)
theorem Ynt(fm:FM)(w:World)(ht:TabW fm w):HR fm w Yug (hf (Z 0 [])):=by
 refine⟨fun a o h=> ?_,fun a h=> ?_,fun a=> ?_,fun a b g e c e' c' h=> ?_,fun a g h=> ?_,fun a o g es cap h1 h2 h3=>(by cases h3),fun a i g h=>(by cases h),fun p hp=>⟨Yfd _,ht p hp⟩⟩
 ·trivial
 ·rcases h with⟨_,_,_,h⟩| ⟨_,h⟩<;>cases h
 ·simp[Yug,hf,Z]
 ·cases h
 trivial
section
variable{H:Type}{enc:TypeId×Value->H}{P:Program}{w:World}{base:Nat}{spare:Nat->Bool}{held:Bool}{fm:FM}
structure BulkOK(bulk:DataW H->Nat)(all:List (DataW H)->Nat):Prop where
 str: ∀l:List UInt8,l.length+1<=bulk (.lit (.string l))
 slice: ∀e s,all e+1<=bulk (.slice e s)
 agg: ∀e,all e<=bulk (.agg e)
 nil:1<=bulk .nil
 lit: ∀l,1<=bulk (.lit l)
 cons: ∀d r,bulk d+all r<=all (d::r)
def Ywi(fm:FM)(w:World)(cs:List Value)(o:Nat)(as:List AV):Prop:= ∀j v a,cs[o+j]?=some v->as[j]?=some a->v.oneCell'=true/\VR fm w Yug v a
variable(enc P w base spare held fm)
def Reads(bulk:DataW H->Nat)(t:TypeId)(es:Nat){X:Type}(e:X->List AV)(sz:X->Nat)(ok:X->Prop):Prop:=
 ∀fuel cs d ps,DataW.trod enc P w base spare held fuel t cs=some (d,ps)-> ∃x,ok x/\cs.length=es/\ (e x).length=es/\sz x<=bulk d/\Ywi fm w cs 0 (e x)
def Yvf(all:List (DataW H)->Nat)(fs:List Field)(o es:Nat){X:Type}(e:X->List AV)(sz:X->Nat)(ok:X->Prop):Prop:=
 ∀fuel cs xs,(fs.mapM fun f=>DataW.trod enc P w base spare held fuel f.type ((cs.drop f.offset).take (P.cellsOf f.type)))=some xs->o+es<=cs.length->
  ∃x,ok x/\ (e x).length=es/\sz x<=all (xs.map (·.1))/\Ywi fm w cs o (e x)
variable{enc P w base spare held fm}
theorem Reads.conv{bulk:DataW H->Nat}{t:TypeId}{es:Nat}{X Y:Type}{e:X->List AV}{sz:X->Nat}{ok:X->Prop}{e':Y->List AV}{sz':Y->Nat}{ok':Y->Prop}
  (h:Reads enc P w base spare held fm bulk t es e sz ok) (hc: ∀x,ok x-> ∃y,ok' y/\e x=e' y/\sz' y<=sz x):Reads enc P w base spare held fm bulk t es e' sz' ok':=by
 intro fuel cs d ps hd
 obtain⟨x,h1,h2,h3,h4,h5⟩:=h fuel cs d ps hd
 grind
theorem YcK{v:Value}{a:AV}(h1:v.oneCell'=true)(h:VR fm w Yug v a):Ywi fm w [v] 0 [a]:=by
 intro j x y hx hy
 grind
theorem Ynu{bulk:DataW H->Nat}{all:List (DataW H)->Nat}(hb:BulkOK bulk all){t:TypeId}{k:IntKind}(ht:P.underlying t=some (.int k)):
  Reads enc P w base spare held fm bulk t 1 (fun n:Int=>[.v (.int k n)]) (fun _=>1) (fun n=>(Lit.int k n).wf=true):=by
 intro fuel cs d ps hd
 cases fuel with
 |zero=>cases hd
 |succ fuel=>
  unfold DataW.trod at hd
  rw[ht]at hd
  split at hd<;>try cases hd
  all_goals(try(simp_all;done))
  rename_i k1 k2 n hk
  injection hk with hk;injection hk with hk;subst hk
  split at hd
  ·rename_i hc
   injection hd with hd;injection hd with hd _;subst hd
   obtain⟨rfl,hwf⟩:=hc
   exact⟨n,hwf,rfl,rfl,hb.lit _,YcK rfl (.v _)⟩
  trivial
theorem Ynv{bulk:DataW H->Nat}{all:List (DataW H)->Nat}(hb:BulkOK bulk all){t:TypeId}(ht:P.underlying t=some .bool):
  Reads enc P w base spare held fm bulk t 1 (fun b:Bool=>[.v (.bool b)]) (fun _=>1) (fun _=>True):=by
 intro fuel cs d ps hd
 cases fuel with
 |zero=>cases hd
 |succ fuel=>
  unfold DataW.trod at hd
  split at hd<;>try cases hd
  all_goals(try(simp_all;done))
  rename_i b hk
  exact⟨b,trivial,rfl,rfl,hb.lit _,YcK rfl (.v _)⟩
theorem Ynw{bulk:DataW H->Nat}{all:List (DataW H)->Nat}(hb:BulkOK bulk all){t:TypeId}(ht:P.underlying t=some .string):
  Reads enc P w base spare held fm bulk t 1 (fun s:ByteArray=>[.v (.string s)]) (fun s=>s.size+1) (fun _=>True):=by
 intro fuel cs d ps hd
 cases fuel with
 |zero=>cases hd
 |succ fuel=>
  unfold DataW.trod at hd
  split at hd<;>try cases hd
  all_goals(try(simp_all;done))
  rename_i s hk
  split at hd
  ·injection hd with hd;injection hd with hd _;subst hd
   exact⟨s,trivial,rfl,rfl,by have:=hb.str s.data.toList;trivial,YcK rfl (.v _)⟩
  trivial
theorem Yfe{α β:Type}{f:α->Option β}: ∀{l:List α} {r:List β},l.mapM f=some r->r.length=l.length/\ ∀(i:Nat) (x:α),l[i]?=some x-> ∃y,r[i]?=some y/\f x=some y
 | [],r,h=>by simp_all
 |a::l,r,h=>by
  cases h1:f a with
  |none=>simp_all
  |some b=>
   cases h2:l.mapM f with
   |none=>simp_all
   |some bs=>
    simp[h1,h2]at h
    subst h
    obtain⟨k1,k2⟩:=Yfe h2
    grind
theorem Ynx{all:List (DataW H)->Nat}(o:Nat):Yvf enc P w base spare held fm all [] o 0 (fun _:Unit=>[]) (fun _=>0) (fun _=>True):=by
 intro fuel cs xs h _
 exact⟨(),trivial,rfl,Yxz _,fun j v a _ h=>by grind⟩
theorem Yny{bulk:DataW H->Nat}{all:List (DataW H)->Nat}(hb:BulkOK bulk all){f:Field}{r:List Field}{o es es2:Nat}{X Y:Type}{e:X->List AV}{sz:X->Nat}{ok:X->Prop}
  {e2:Y->List AV} {sz2:Y->Nat} {ok2:Y->Prop} (ho:f.offset=o) (hc:P.cellsOf f.type=es) (h1:Reads enc P w base spare held fm bulk f.type es e sz ok)
  (h2:Yvf enc P w base spare held fm all r (o+es) es2 e2 sz2 ok2):
  Yvf enc P w base spare held fm all (f::r) o (es+es2) (fun x:X×Y=>e x.1++e2 x.2) (fun x=>sz x.1+sz2 x.2) (fun x=>ok x.1/\ok2 x.2):=by
 intro fuel cs xs h hle
 cases h3:DataW.trod enc P w base spare held fuel f.type ((cs.drop f.offset).take (P.cellsOf f.type))with
 |none=>simp_all
 |some b=>
  cases h4:(r.mapM fun f=>DataW.trod enc P w base spare held fuel f.type ((cs.drop f.offset).take (P.cellsOf f.type)))with
  |none=>simp_all
  |some bs=>
   simp[h3,h4]at h
   subst h
   obtain⟨x,k1,k2,k3,k4,k5⟩:=h1 fuel _ b.1 b.2 h3
   obtain⟨y,j1,j2,j3,j4⟩:=h2 fuel cs bs h4 (by omega)
   refine⟨(x,y),⟨k1,j1⟩,by simp_all,?_,fun j v a hv ha=> ?_⟩
   ·have:=hb.cons b.1 (bs.map (·.1))
    grind
   ·replace ha:(e x++e2 y)[j]?=some a:=ha
    by_cases hj:j<es
    ·rw[YwU (by omega)]at ha
     refine k5 j v a ?_ ha
     grind
    ·rw[Yw0 (by omega),k3]at ha
     refine j4 (j-es) v a ?_ ha
     grind
theorem Ynz{bulk:DataW H->Nat}{all:List (DataW H)->Nat}(hb:BulkOK bulk all){t:TypeId}{fs:Array Field}{es:Nat}{X:Type}{e:X->List AV}{sz:X->Nat}{ok:X->Prop}
  (ht:P.underlying t=some (.struct fs)) (hc:P.cellsOf t=es) (h:Yvf enc P w base spare held fm all fs.toList 0 es e sz ok):Reads enc P w base spare held fm bulk t es e sz ok:=by
 intro fuel cs d ps hd
 cases fuel with
 |zero=>cases hd
 |succ fuel=>
  unfold DataW.trod at hd
  rw[ht]at hd
  simp only at hd
  have hd':cs.length=P.cellsOf t/\ ∃xs,(fs.toList.mapM fun f=>DataW.trod enc P w base spare held fuel f.type ((cs.drop f.offset).take (P.cellsOf f.type)))=some xs/\d= .agg (xs.map (·.1)):=by
   split at hd
   ·rename_i hl
    simp at hd
    grind
   trivial
  obtain⟨hl,xs,hx,rfl⟩:=hd'
  obtain⟨x,k1,k2,k3,k4⟩:=h fuel cs xs hx (by omega)
  exact⟨x,k1,by omega,k2,Yxy k3 (hb.agg _),k4⟩
theorem Yh2{X:Type}{Pr:Nat->X->Prop}: ∀(n:Nat),(∀i,i<n-> ∃x,Pr i x)-> ∃l:List X,l.length=n/\ ∀i x,l[i]?=some x->Pr i x
 |0,_=>⟨[],rfl,fun i x h=>by grind⟩
 |n+1,h=>by
  obtain⟨l,h1,h2⟩:=Yh2 n (fun i hi=>h i (by omega))
  obtain⟨x,hx⟩:=h n (by omega)
  refine⟨l++[x],by grind,fun i y hy=> ?_⟩
  grind
theorem Yh3{bulk:DataW H->Nat}{all:List (DataW H)->Nat}(hb:BulkOK bulk all){X:Type}{sz:X->Nat}: ∀{l:List X} {ds:List (DataW H)},l.length=ds.length->(∀(i:Nat) (x:X) (d:DataW H),l[i]?=some x->ds[i]?=some d->sz x<=bulk d)->(l.map sz).sum<=all ds
 | [],[],_,_=>Yxz _
 |x::l,d::ds,hl,h=>by
  have h1:=Yh3 hb (l:=l) (ds:=ds) (by simp_all) (fun i y e hy he=>h (i+1) y e (by trivial) (by trivial))
  have h2:=h 0 x d rfl rfl
  have:=hb.cons d ds
  grind
 | [],_::_,hl,_=>by trivial
 |_::_,[],hl,_=>by trivial
theorem Yh4{a:Addr}(h:a.spot=none)(n:Nat):a.add n=⟨a.block,a.off+n,none⟩:=by
 obtain⟨b,o,s⟩:=a
 subst h
 unfold Addr.add
 simp
theorem YnA{w:World}{base:Nat}{a:Addr}{n:Nat}{cs:List Value}(h:w.cells? base a n=some cs):cs.length=n/\ ∀j v,cs[j]?=some v->w.cell? (a.add j)=some v:=by
 unfold World.cells? at h
 split at h
 ·obtain⟨h1,h2⟩:=Yfe h
  refine⟨by simp_all,fun j v hv=> ?_⟩
  obtain⟨y,k1,k2⟩:=h2 j j (by grind)
  simp_all
 trivial
theorem YnB{w:World}{a:Addr}{v:Value}(h:w.cell? a=some v):a.spot=none/\a.block<w.heap.size:=by
 unfold World.cell? at h
 split at h
 ·rename_i c t f hc
  split at h
  ·cases h
  ·rename_i hs;exact⟨by simp_all,(YxT.1 hc).1⟩
 trivial
theorem YnC{u:TypeId}{es:Nat}{X:Type}{e:X->List AV}{sz:X->Nat}{ok:X->Prop}{bulk:DataW H->Nat}{all:List (DataW H)->Nat}(hb:BulkOK bulk all)(hes:0<es)
  (h:Reads enc P w base spare held fm bulk u es e sz ok) {fuel len cap:Nat} {a:Addr} (hlc:len<=cap) {elems:List (DataW H×List MemPlace)}
  (hm:((List.range len).mapM fun i=>(w.cells? base (a.add (i*es)) es).bind (DataW.trod enc P w base spare held fuel u))=some elems):
  ∃l:List X,(∀x∈l,ok x)/\ (l.map sz).sum<=all (elems.map (·.1))/\VR fm w Yug (.slice (some a) len cap) (.rd es (l.map e)):=by
 obtain⟨h1,h2⟩:=Yfe hm
 simp only[List.length_range]at h1
 have each: ∀i,i<len-> ∃x:X,ok x/\ (e x).length=es/\ (∀d,elems[i]?=some d->sz x<=bulk d.1)/\
   ∀j c,(e x)[j]?=some c-> ∃v,w.cell? ((a.add (i*es)).add j)=some v/\v.oneCell'=true/\VR fm w Yug v c:=by
  intro i hi
  obtain⟨y,k1,k2⟩:=h2 i i (by grind)
  simp only[YxJ]at k2
  obtain⟨cs,k3,k4⟩:=k2
  obtain⟨l1,l2⟩:=YnA k3
  obtain⟨x,m1,m2,m3,m4,m5⟩:=h fuel cs y.1 y.2 k4
  refine⟨x,m1,m3,fun d hd=>by simp_all,fun j c hc=> ?_⟩
  have hj:j<cs.length:=by grind
  have hv:cs[j]?=some cs[j]:=YwO hj
  obtain⟨n1,n2⟩:=m5 j cs[j] c (by simp) hc
  grind
 obtain⟨l,g1,g2⟩:=Yh2 len each
 refine⟨l,fun x hx=> ?_,Yh3 hb (by simp_all) (fun i x d hx hd=> ?_),?_⟩
 ·obtain⟨i,hi⟩:=YwW.1 hx;grind
 ·grind
 ·by_cases h0:len=0
  ·subst h0
   have:l=[]:=YwZ.1 g1
   subst this
   exact .rd0 _ es cap
  ·have hx0: ∃x,l[0]?=some x:=⟨l[0],YwO (by omega)⟩
   obtain⟨x0,hx0⟩:=hx0
   obtain⟨_,q1,_,q2⟩:=g2 0 x0 hx0
   obtain⟨v0,r1,_⟩:=q2 0 ((e x0)[0]) (YwO (by omega))
   have hsp0:=YnB r1
   have hsp:a.spot=none/\a.block<w.heap.size:=by
    have:(a.add (0*es)).add 0=a:=by simp[Addr.add]
    simp_all
   have haddr: ∀i j,(a.add (i*es)).add j=⟨a.block,a.off+i*es+j,none⟩:=by
    intro i j;rw[Yh4 hsp.1,Yh4 rfl]
   have ha:a=⟨a.block,a.off,none⟩:=by
    obtain⟨b,o,s⟩:=a
    simp_all
   have get: ∀(i:Nat) (el:List AV) (j:Nat) (c:AV),(l.map e)[i]?=some el->el[j]?=some c-> ∃v,w.cell? ⟨a.block,a.off+i*es+j,none⟩=some v/\v.oneCell'=true/\VR fm w Yug v c:=by
    grind
   have hlen:(l.map e).length=len:=by grind
   have:=VR.rd (fm:=fm) (w:=w) (L:=Yug) a.block a.off cap es (l.map e) (fun i j=>(w.cell? ⟨a.block,a.off+i*es+j,none⟩).getD undef)
    (fun hn=>h0 (by grind)) (fun el hel=>by
     obtain⟨x,hx,rfl⟩:=Yw3.1 hel
     obtain⟨i,hi⟩:=YwW.1 hx
     grind) hes (by omega) (Yns _) hsp.2
    (fun i el j c hi hj=>by grind)
    (fun i el j c hi hj=>by grind)
    (fun i el j c hi hj=>by grind)
   grind
theorem YnD{bulk:DataW H->Nat}{all:List (DataW H)->Nat}(hb:BulkOK bulk all){t u:TypeId}{es:Nat}{X:Type}{e:X->List AV}{sz:X->Nat}{ok:X->Prop}
  (ht:P.underlying t=some (.slice u)) (hc:P.cellsOf u=es) (hes:0<es) (h:Reads enc P w base spare held fm bulk u es e sz ok):
  Reads enc P w base spare held fm bulk t 1 (fun l:List X=>[.rd es (l.map e)]) (fun l=>(l.map sz).sum+1) (fun l=> ∀x∈l,ok x):=by
 intro fuel cs d ps hd
 cases fuel with
 |zero=>cases hd
 |succ fuel=>
  unfold DataW.trod at hd
  rw[ht]at hd
  simp only at hd
  split at hd
  all_goals(try(simp_all;done))
  ·rename_i hk
   injection hd with hd;injection hd with hd _;subst hd
   exact⟨[],fun x hx=>(by cases hx),rfl,rfl,by simpa using hb.nil,YcK rfl (.rd0 none es 0)⟩
  ·rename_i u' a len cap hk
   injection hk with hk;injection hk with hk;subst hk
   rw[hc]at hd
   split at hd
   ·rename_i hcond
    simp only[YxJ,YxE]at hd
    obtain⟨elems,h1,rest,h2,h3⟩:=hd
    injection h3 with h3 _;subst h3
    obtain⟨l,k1,k2,k3⟩:=YnC hb hes h hcond.2.1 h1
    refine⟨l,k1,rfl,rfl,?_,YcK rfl k3⟩
    have:=hb.slice (elems.map (·.1)) (rest.map (·.1))
    grind
   trivial
end
end Go.Abs
namespace Go.Abs
open Go Go.RowKit
mutual
inductive Ty where
 |i (k:IntKind)
 |b
 |s
 |l (c:Cs)
inductive Cs where
 |nil
 |cons (t:Ty) (r:Cs)
end
instance:Inhabited Ty:=⟨.b⟩
instance:Inhabited Cs:=⟨.nil⟩
def pairT(A B:Type):Cs->Type
 | .nil=>A
 | .cons _ _=>A×B
mutual
def Ty.den:Ty->Type
 | .i _=>Int
 | .b=>Bool
 | .s=>ByteArray
 | .l c=>List c.den
def Cs.den:Cs->Type
 | .nil=>Unit
 | .cons t r=>pairT t.den r.den r
end
def fstP{A B:Type}:(r:Cs)->pairT A B r->A
 | .nil,x=>x
 | .cons _ _,x=>x.1
def sndP{A:Type}:(r:Cs)->pairT A r.den r->r.den
 | .nil,_=>()
 | .cons _ _,x=>x.2
def mkP{A:Type}:(r:Cs)->A->r.den->pairT A r.den r
 | .nil,a,_=>a
 | .cons _ _,a,b=>(a,b)
theorem Yba{A:Type}(r:Cs)(a:A)(b:r.den):fstP r (mkP r a b)=a:=by cases r<;>rfl
theorem YaS{A:Type}(r:Cs)(a:A)(b:r.den):sndP r (mkP r a b)=b:=by cases r<;>rfl
theorem Yh5{A:Type}(r:Cs)(x:pairT A r.den r):mkP r (fstP r x) (sndP r x)=x:=by cases r<;>rfl
mutual
def Ty.dft:(t:Ty)->t.den
 | .i _=>(0:Int)
 | .b=>false
 | .s=>YxW #[]
 | .l _=>[]
def Cs.dft:(c:Cs)->c.den
 | .nil=>()
 | .cons t r=>mkP r t.dft r.dft
end
mutual
def Ty.eqb:Ty->Ty->Bool
 | .i k,.i k'=>decide (k=k')
 | .b,.b=>true
 | .s,.s=>true
 | .l c,.l c'=>c.eqb c'
 |_,_=>false
def Cs.eqb:Cs->Cs->Bool
 | .nil,.nil=>true
 | .cons t r,.cons t' r'=>t.eqb t'&&r.eqb r'
 |_,_=>false
end
mutual
theorem Ty.eq_of: ∀{a a':Ty},a.eqb a'=true->a=a'
 | .i k,.i k',h=>by simp only[Ty.eqb,decide_eq_true_eq]at h;rw[h]
 | .b,.b,_=>rfl
 | .s,.s,_=>rfl
 | .l c,.l c',h=>by rw[Cs.eq_of (a:=c) (b:=c') (by simpa[Ty.eqb]using h)]
 | .i _,.b,h| .i _,.s,h| .i _,.l _,h| .b,.i _,h| .b,.s,h| .b,.l _,h| .s,.i _,h| .s,.b,h| .s,.l _,h| .l _,.i _,h| .l _,.b,h| .l _,.s,h=>by simp[Ty.eqb]at h
theorem Cs.eq_of: ∀{a b:Cs},a.eqb b=true->a=b
 | .nil,.nil,_=>rfl
 | .cons t r,.cons t' r',h=>by
   simp only[Cs.eqb,YxL]at h
   rw[Ty.eq_of h.1,Cs.eq_of h.2]
 | .nil,.cons _ _,h| .cons _ _,.nil,h=>by simp[Cs.eqb]at h
end
mutual
theorem Ty.eqb_refl: ∀a:Ty,a.eqb a=true
 | .i k=>by simp[Ty.eqb]
 | .b=>rfl
 | .s=>rfl
 | .l c=>by simp[Ty.eqb,Cs.eqb_refl c]
theorem Cs.eqb_refl: ∀a:Cs,a.eqb a=true
 | .nil=>rfl
 | .cons t r=>by simp[Cs.eqb,Ty.eqb_refl t,Cs.eqb_refl r]
end
def Ty.cast(t t':Ty)(v:t.den):Option t'.den:=
 if h:t.eqb t'=true then some (Eq.mp (congrArg Ty.den (Ty.eq_of h)) v)else none
def Cs.cast(c c':Cs)(v:c.den):Option c'.den:=
 if h:c.eqb c'=true then some (Eq.mp (congrArg Cs.den (Cs.eq_of h)) v)else none
theorem Ty.cast_some{t t':Ty}{v:t.den}{v':t'.den}(h:t.cast t' v=some v'): ∃e:t=t',e▸v=v':=by
 unfold Ty.cast at h
 split at h
 ·rename_i e
  have e':=Ty.eq_of e
  subst e'
  injection h with h
  exact⟨rfl,h⟩
 ·cases h
theorem Cs.cast_some{t t':Cs}{v:t.den}{v':t'.den}(h:t.cast t' v=some v'): ∃e:t=t',e▸v=v':=by
 unfold Cs.cast at h
 split at h
 ·rename_i e
  have e':=Cs.eq_of e
  subst e'
  injection h with h
  exact⟨rfl,h⟩
 ·cases h
theorem Cs.cast_refl(c:Cs)(v:c.den):c.cast c v=some v:=by
 unfold Cs.cast
 rw[dif_pos (Cs.eqb_refl c)]
 rfl
def Cs.width:Cs->Nat
 | .nil=>0
 | .cons _ r=>r.width+1
mutual
def Ty.enc:(t:Ty)->t.den->AV
 | .i k,v=>.v (.int k v)
 | .b,v=>.v (.bool v)
 | .s,v=>.v (.string v)
 | .l c,v=>.rd c.width (v.map c.enc)
def Cs.enc:(c:Cs)->c.den->List AV
 | .nil,_=>[]
 | .cons t r,x=>t.enc (fstP r x)::r.enc (sndP r x)
end
theorem Yax: ∀(c:Cs) (x:c.den),(c.enc x).length=c.width
 | .nil,_=>rfl
 | .cons t r,x=>by simp only[Cs.enc,Yxe,Cs.width,Yax r]
mutual
theorem YcL: ∀(t:Ty) (v:t.den),NR (t.enc v)
 | .i k,v=>.v _
 | .b,v=>.v _
 | .s,v=>.v _
 | .l c,v=>.rd _ _ (fun e he x hx=>by
   obtain⟨y,_,rfl⟩:=Yw3.1 he
   exact YaL c y x hx)
theorem YaL: ∀(c:Cs) (v:c.den) (x:AV),x∈c.enc v->NR x
 | .nil,_,x,h=>by simp[Cs.enc]at h
 | .cons t r,v,x,h=>by
   simp only[Cs.enc,Yw2]at h
   rcases h with rfl|h
   ·exact YcL t _
   ·exact YaL r _ x h
end
def Ty.zero:Ty->Value
 | .i k=>.int k 0
 | .b=>.bool false
 | .s=>.string (YxW #[])
 | .l _=>.slice none 0 0
def Cs.zeros:Cs->List Value
 | .nil=>[]
 | .cons t r=>t.zero::r.zeros
def sn(c:Cs):Cs->Cs
 | .nil=>.cons (.l c) .nil
 | .cons t r=>.cons t (sn c r)
def ow(c:Cs):(A:Cs)->(sn c A).den->List c.den
 | .nil,x=>x
 | .cons _ r,x=>ow c r (sndP (sn c r) x)
def da(c:Cs):(A:Cs)->(sn c A).den->A.den
 | .nil,_=>()
 | .cons _ r,x=>mkP r (fstP (sn c r) x) (da c r (sndP (sn c r) x))
def mkE(c:Cs):(A:Cs)->A.den->List c.den->(sn c A).den
 | .nil,_,v=>v
 | .cons _ r,d,v=>mkP (sn c r) (fstP r d) (mkE c r (sndP r d) v)
theorem YaE(c:Cs): ∀(A:Cs) (d:A.den) (v:List c.den),ow c A (mkE c A d v)=v
 | .nil,_,_=>rfl
 | .cons _ r,d,v=>by simp only[ow,mkE,YaS];exact YaE c r _ v
theorem Ybl(c:Cs): ∀(A:Cs) (d:A.den) (v:List c.den),da c A (mkE c A d v)=d
 | .nil,_,_=>rfl
 | .cons _ r,d,v=>by simp only[da,mkE,Yba,YaS];rw[Ybl c r];exact Yh5 r d
theorem Yh6(c:Cs): ∀A:Cs,ow c A (sn c A).dft=[]
 | .nil=>rfl
 | .cons t r=>by show ow c r (sndP (sn c r) (mkP (sn c r) t.dft (sn c r).dft))=[];rw[YaS];exact Yh6 c r
theorem Yh7(c:Cs): ∀A:Cs,(sn c A).width=A.width+1
 | .nil=>rfl
 | .cons _ r=>by simp only[sn,Cs.width,Yh7 c r]
theorem Yh8(c:Cs): ∀(A:Cs) (x:(sn c A).den),(sn c A).enc x=A.enc (da c A x)++[.rd c.width ((ow c A x).map c.enc)]
 | .nil,_=>rfl
 | .cons t r,x=>by
   show t.enc (fstP (sn c r) x)::(sn c r).enc (sndP (sn c r) x)=t.enc (fstP r (mkP r (fstP (sn c r) x) (da c r (sndP (sn c r) x))))::r.enc (sndP r (mkP r (fstP (sn c r) x) (da c r (sndP (sn c r) x))))++_
   rw[Yba,YaS,Yh8 c r]
   rfl
def unsn:Cs->Option (Cs×Cs)
 | .cons (.l c) .nil=>some (.nil,c)
 | .cons t r=>match unsn r with|some (A,c)=>some (.cons t A,c)|none=>none
 | .nil=>none
end Go.Abs
namespace Go.Abs
open Go Go.RowKit
inductive TV where
 |i (k:IntKind) (n:Int)
 |b (x:Bool)
 |s (x:ByteArray)
 |l (c:Cs) (v:List c.den)
 |e (c:Cs)
 |u
 |v (x:Value)
 |ref (a:Nat)
 |pre (a:Nat) (n:Int)
 |sub (a ver i:Nat)
 |ptr (a i j:Nat)
 |pti (a ver i k j:Nat)
 |rp (cs:List TV)
 |lt (els:List (List TV))
 |ag (cs:List TV)
 |tp (cs:List TV)
 |clo (g:Nat) (cs:List TV)
 |np (a:Nat)
 |nl
 |ef (x:Bool)
instance:Inhabited TV:=⟨.u⟩
def efA:Bool->AV
 |true=>.er
 |false=>.v .nilIface
def kty:Option IntKind->Ty
 |none=>.s
 |some k=>.i k
inductive Hd where
 |rw(A:Cs) (nn:Bool)
 |mp (o:Option IntKind) (n:Int)
abbrev Hd.A:Hd->Cs
 | .rw A _=>A
 | .mp o _=>.cons (.i .i64) (.cons (kty o) .nil)
def Hd.nn:Hd->Bool
 | .rw _ b=>b
 | .mp _ _=>true
def Hd.isRw:Hd->Bool
 | .rw _ _=>true
 | .mp _ _=>false
inductive VObj where
 |sq (c:Cs) (l:List c.den)
 |fm (hd:Hd) (c:Cs) (ver:Nat) (hole:Option Nat) (l:List (sn c hd.A).den)
 |st (cs:List TV)
 |sb (s:ByteArray)
abbrev VEnv:=List (Nat×TV)
abbrev YtI:=List (Option VObj)
structure VSt where
 env:VEnv
 heap:YtI
def YtT:VEnv->Nat->TV
 | [],_=>.u
 | (n,v)::r,t=>bif Yxr n t then v else YtT r t
def vget:YtI->Nat->Option VObj
 | [],_=>none
 |o::_,0=>o
 |_::r,a+1=>vget r a
def vset:YtI->Nat->Option VObj->YtI
 | [],_,_=>[]
 |_::r,0,o=>o::r
 |p::r,a+1,o=>p::vset r a o
def getI(c:Cs)(l:List c.den)(i:Nat):c.den:=l.getD i c.dft
def owI(hd:Hd)(c:Cs)(l:List (sn c hd.A).den)(i:Nat):List c.den:=ow c hd.A (getI (sn c hd.A) l i)
def daI(hd:Hd)(c:Cs)(l:List (sn c hd.A).den)(i:Nat):hd.A.den:=da c hd.A (getI (sn c hd.A) l i)
def setO(hd:Hd)(c:Cs)(l:List (sn c hd.A).den)(i:Nat)(v:List c.den):List (sn c hd.A).den:=l.set i (mkE c hd.A (daI hd c l i) v)
def setD(hd:Hd)(c:Cs)(l:List (sn c hd.A).den)(i:Nat)(d:hd.A.den):List (sn c hd.A).den:=l.set i (mkE c hd.A d (owI hd c l i))
inductive K1 where
 |i (k:IntKind) (n:Int)
 |b (x:Bool)
 |s (x:ByteArray)
 |e (c:Cs)
 |v (x:Value)
 |nl
inductive KC where
 |one (k:K1)
 |ag (l:List K1)
 |tp (l:List K1)
 |f (g:Nat)
 |v (x:Value)
inductive VOpd where
 |t (n:Nat)
 |c (k:KC)
def K1.tv:K1->TV
 | .i k n=>.i k n
 | .b x=>.b x
 | .s x=>.s x
 | .e c=>.e c
 | .v x=>.v x
 | .nl=>.nl
def KC.tv:KC->TV
 | .one k=>k.tv
 | .ag l=>.ag (l.map K1.tv)
 | .tp l=>.tp (l.map K1.tv)
 | .f g=>.clo g []
 | .v x=>.v x
def vo(env:VEnv):VOpd->TV
 | .t n=>YtT env n
 | .c k=>k.tv
def chk{β:Type}(p:Prop)[Decidable p](x:Option β):Option β:=bif decide p then x else none
def asL(c c':Cs)(l:List c.den):Option (List c'.den):=(Ty.l c).cast (.l c') l
def tvOf:(t:Ty)->t.den->TV
 | .i k,n=>.i k n
 | .b,x=>.b x
 | .s,x=>.s x
 | .l c,v=>.l c v
def toD:(t:Ty)->TV->Option t.den
 | .i k,.i k' n=>bif decide (k'=k)then some n else none
 | .b,.b x=>some x
 | .s,.s x=>some x
 | .l c,.l c' v=>asL c' c v
 | .l c,.e c'=>bif c'.eqb c then some []else none
 |_,_=>none
def pack:(c:Cs)->List TV->Option c.den
 | .nil,[]=>some ()
 | .cons t r,a::as=>match toD t a,pack r as with
   |some x,some y=>some (mkP r x y)
   |_,_=>none
 |_,_=>none
def YuW(c:Cs):List (List TV)->Option (List c.den)
 | []=>some []
 |a::r=>match pack c a,YuW c r with
  |some x,some y=>some (x::y)
  |_,_=>none
def cells:(c:Cs)->c.den->List TV
 | .nil,_=>[]
 | .cons t r,x=>tvOf t (fstP r x)::cells r (sndP r x)
def Cs.zcells:Cs->List TV
 | .nil=>[]
 | .cons (.l c) r=>.e c::r.zcells
 | .cons t r=>tvOf t t.dft::r.zcells
def YtY(X:YtI):TV->Option (List TV)
 | .u| .tp _| .lt _| .sub _ _ _| .pti _ _ _ _ _| .ef _=>none
 | .v x=>bif x.oneCell' then some [.v x]else none
 | .ag cs=>some cs
 | .ref a=>bif(vget X a).isSome then some [.ref a]else none
 | .pre a n=>bif(vget X a).isSome then some [.pre a n]else none
 | .ptr a i j=>bif(vget X a).isSome then some [.ptr a i j]else none
 | .np a=>bif(vget X a).isSome then some [.np a]else none
 |a=>some [a]
def K1.ok:K1->Bool
 | .v (.slice _ _ _)=>false
 |_=>true
def spl(l:List TV)(j:Nat)(cs:List TV):List TV:=l.take j++cs++l.drop (j+cs.length)
def YuP(g:Bool)(n:Nat)(cs:List TV):Option TV:=
 match g with
 |true=>bif Yxv n cs.length then some (.ag (cs.take n))else none
 |false=>cs[0]?
def YvX(X:YtI)(l:List TV)(env:VEnv):List (Nat×Nat×VOpd)->Option (List TV)
 | []=>some l
 | (off,n,x)::r=>match YtY X (vo env x)with
   |some cs=>bif Yxr cs.length n&&Yxv (off+n) l.length then YvX X (spl l off cs) env r else none
   |none=>none
def Yvg(X:YtI)(es:Nat)(l:List (List TV))(env:VEnv):List (Nat×VOpd)->Option (List (List TV))
 | []=>some l
 | (i,x)::r=>match YtY X (vo env x)with
   |some cs=>bif Yxr cs.length es&&Yxu i l.length then Yvg X es (l.set i cs) env r else none
   |none=>none
section
variable{β:Type}
def vint(op:BinOp)(k:IntKind)(x y:Int)(K:TV->Option β):Option β:=
 match op with
 | .add=>K (.i k (k.wrap (x+y)))
 | .sub=>K (.i k (k.wrap (x-y)))
 | .mul=>K (.i k (k.wrap (x*y)))
 | .quo=>chk (y≠0) (K (.i k (k.wrap (x.tdiv y))))
 | .rem=>chk (y≠0) (K (.i k (x.tmod y)))
 | .and=>K (.i k (bits .and k x y))
 | .or=>K (.i k (bits .or k x y))
 | .xor=>K (.i k (bits .xor k x y))
 | .andNot=>K (.i k (bits .andNot k x y))
 | .shl=>chk (0<=y) (K (.i k (k.wrap (x*2^(min y.toNat k.bits)))))
 | .shr=>chk (0<=y) (K (.i k (x.fdiv (2^(min y.toNat k.bits)))))
 | .eql=>K (.b (decide (x=y)))
 | .neq=>K (.b (!decide (x=y)))
 | .lss=>K (.b (decide (x<y)))
 | .leq=>K (.b (decide (x<=y)))
 | .gtr=>K (.b (decide (y<x)))
 | .geq=>K (.b (decide (y<=x)))
def vstr(op:BinOp)(x y:ByteArray)(K:TV->Option β):Option β:=
 match op with
 | .add=>chk (Yxv (x.size+y.size) 9223372036854775807=true) (K (.s (x++y)))
 | .eql=>K (.b (decide (x=y)))
 | .neq=>K (.b (!decide (x=y)))
 | .lss=>K (.b (Op.bytesLess x.toList y.toList))
 | .leq=>K (.b (Op.bytesLess x.toList y.toList||decide (x=y)))
 | .gtr=>K (.b (!(Op.bytesLess x.toList y.toList||decide (x=y))))
 | .geq=>K (.b (!Op.bytesLess x.toList y.toList))
 |_=>none
def vbin(op:BinOp)(a b:TV)(K:TV->Option β):Option β:=
 match a,b with
 | .i k x,.i k' y=>bif decide (k=k'\/op= .shl\/op= .shr)then vint op k x y K else none
 | .s x,.s y=>vstr op x y K
 |_,_=>none
def eqV1:Nat->TV->TV->Option Bool
 |0,.b a,.b b=>some (a==b)
 |1,.i k a,.i k' b=>bif decide (k=k')then some (decide (a=b))else none
 |2,.s a,.s b=>some (decide (a=b))
 |_,_,_=>none
def eqV:List Nat->List TV->List TV->Option Bool
 | [],[],[]=>some true
 |k::ks,a::as,b::bs=>match eqV1 k a b,eqV ks as bs with
  |some x,some y=>some (x&&y)
  |_,_=>none
 |_,_,_=>none
def mmV(mx:Bool)(k:IntKind):Int->List TV->Option TV
 |m,[]=>some (.i k m)
 |m,.i _ n::r=>mmV mx k (match mx with|true=>max m n|false=>min m n) r
 |_,_=>none
def keq:(o:Option IntKind)->(kty o).den->(kty o).den->Bool
 |none=>fun(a b:ByteArray)=>decide (a=b)
 |some _=>fun(a b:Int)=>decide (a=b)
abbrev mapC(o:Option IntKind)(t:Ty)(V:Cs):Cs:=.cons (.i .i64) (.cons (kty o) (.cons t V))
section
variable{κ ν:Type}
def mfd(eq:κ->κ->Bool)(k:κ):List (Int× (κ×ν))->Option ν
 | []=>none
 |e::r=>bif eq k e.2.1 then some e.2.2 else mfd eq k r
def mpt(eq:κ->κ->Bool)(c:Int)(k:κ)(v:ν):List (Int× (κ×ν))->List (Int× (κ×ν))
 | []=>[(c,(k,v))]
 |e::r=>bif eq k e.2.1 then(e.1,(k,v))::r else e::mpt eq c k v r
def mdl(eq:κ->κ->Bool)(k:κ):List (Int× (κ×ν))->List (Int× (κ×ν))
 | []=>[]
 |e::r=>bif eq k e.2.1 then r else e::mdl eq k r
def mck(eq:κ->κ->Bool)(c:Int)(k:κ)(l:List (Int× (κ×ν))):Int:=match mfd eq k l with|some _=>c|none=>c+1
def mgt(eq:κ->κ->Bool)(k:κ)(l:List (Int× (κ×ν)))(z:ν):ν:=match mfd eq k l with|some v=>v|none=>z
def mhs(eq:κ->κ->Bool)(k:κ)(l:List (Int× (κ×ν))):Bool:=match mfd eq k l with|some _=>true|none=>false
def mbf(n:Int):List (Int× (κ×ν))->Option (κ×ν)
 | []=>none
 |e::r=>bif decide (e.1=n)then some e.2 else mbf n r
end
def mvT(ag:Bool)(V:Cs)(v:V.den):TV:=
 match ag with
 |true=>.ag (cells V v)
 |false=>match cells V v with
  | [x]=>x
  |_=>.u
def mix{κ ν:Type}(eq:κ->κ->Bool)(k:κ):List (Int× (κ×ν))->Nat
 | []=>0
 |e::r=>bif eq k e.2.1 then 0 else mix eq k r+1
def mbx{κ ν:Type}(n:Int):List (Int× (κ×ν))->Nat
 | []=>0
 |e::r=>bif decide (e.1=n)then 0 else mbx n r+1
def ownS(c:Cs)(X:YtI)(v:TV):Option (Nat×List c.den):=
 match v with
 | .ref b=>match vget X b with
   |some (.sq c' lm)=>match asL c' c lm with|some lm=>some (b,lm)|none=>none
   |_=>none
 | .pre b n=>match vget X b with
   |some (.sq c' lm)=>match asL c' c lm with|some lm=>chk (n=(lm.length:Nat)) (some (b,lm))|none=>none
   |_=>none
 |_=>none
def ownK{β:Type}(c:Cs)(X:YtI)(v:TV)(K:Nat->List c.den->Option β):Option β:=
 match v with
 | .ref b=>match vget X b with
   |some (.sq c' lm)=>match asL c' c lm with|some lm=>K b lm|none=>none
   |_=>none
 | .pre b n=>match vget X b with
   |some (.sq c' lm)=>match asL c' c lm with|some lm=>chk (n=(lm.length:Nat)) (K b lm)|none=>none
   |_=>none
 |_=>none
structure FMap(o:Option IntKind)where
 a:Nat
 n:Int
 c:Cs
 ver:Nat
 hole:Option Nat
 l:List (mapC o (.l c) .nil).den
def Yu8(o:Option IntKind)(X:YtI)(x:TV):Option (FMap o):=
 match x with
 | .np a=>match vget X a with
   |some (.fm (.mp o' n) c ver hole l)=>match asL (sn c (Hd.mp o' n).A) (mapC o (.l c) .nil) l with
    |some l=>some ⟨a,n,c,ver,hole,l⟩
    |none=>none
   |_=>none
 |_=>none
def vmap(o:Option IntKind)(t:Ty)(V:Cs)(X:YtI)(x:TV):Option (Nat×Int×List (mapC o t V).den×List TV):=
 match x with
 | .np a=>match vget X a with
   |some (.st (.i .i64 n:: .l c l::tags))=>match asL c (mapC o t V) l with
    |some l=>bif Yxr tags.length 1||Yxr tags.length 2 then some (a,n,l,tags)else none
    |none=>none
   |_=>none
 |_=>none
def knd(ag:Bool):Nat:=match ag with|true=>2|false=>1
def knk(ag:Bool)(V:Cs):Bool:=match ag with|true=>true|false=>Yxr V.width 0
inductive VOp where
 |mkm (o:Option IntKind) (t:Ty) (V:Cs) (ag:Bool)
 |mget (o:Option IntKind) (t:Ty) (V:Cs) (ag ok:Bool) (m k:VOpd)
 |mput (o:Option IntKind) (t:Ty) (V:Cs) (ag:Bool) (m k v:VOpd)
 |mdel (o:Option IntKind) (t:Ty) (V:Cs) (m k:VOpd)
 |mlen (m:VOpd)
 |mrng (m:VOpd)
 |ment (o:Option IntKind) (t:Ty) (V:Cs) (ag:Bool) (it:VOpd)
 |mnxt (it:VOpd)
 |cpy (c:Cs) (d s:VOpd)
 |mm (mx:Bool) (xs:List VOpd)
 |emz (x lo hi mx:VOpd)
 |mv (x:VOpd)
 |mvp (x:VOpd)
 |pick (c a b:VOpd)
 |box (x:VOpd)
 |alloc (z:List K1)
 |build (z:List K1) (parts:List (Nat×Nat×VOpd))
 |bsl (c:Cs) (len:Nat) (parts:List (Nat×VOpd))
 |bslT (c:Cs) (len:Nat) (parts:List (Nat×VOpd))
 |load (agg:Bool) (n:Nat) (x:VOpd)
 |loadR (agg:Bool) (n:Nat) (x:VOpd)
 |store (n:Nat) (x y:VOpd)
 |nilc (x:VOpd)
 |bin (op:BinOp) (x y:VOpd)
 |beq (neg:Bool) (x y:VOpd)
 |eqa (neg:Bool) (ks:List Nat) (x y:VOpd)
 |not (x:VOpd)
 |neg (x:VOpd)
 |conv (k:IntKind) (x:VOpd)
 |cvs (x:VOpd)
 |fad (off:Nat) (x:VOpd)
 |fld (agg:Bool) (off n:Nat) (x:VOpd)
 |iad (es:Nat) (x i:VOpd)
 |iada (es len:Nat) (x i:VOpd)
 |idx (x i:VOpd)
 |slcS (x:VOpd) (lo hi:Option VOpd)
 |slcR (es:Nat) (x:VOpd) (lo hi:Option VOpd)
 |ext (x:VOpd) (i:Nat)
 |len (x:VOpd)
 |lenS (x:VOpd)
 |app (c:Cs) (w:Nat) (s x:VOpd)
 |mksl (c:Cs) (w:Nat) (n cp:VOpd)
 |call (f:Nat) (args:List VOpd)
 |callF (f:Nat) (args:List VOpd)
 |mkmF (o:Option IntKind) (c:Cs)
 |dyn (x:VOpd) (args:List VOpd)
 |dynP (x:VOpd) (args:List VOpd)
 |callN (g:Nat) (args:List VOpd) (d:Bool)
 |isp (ng:Bool) (x:VOpd)
 |isi (ng:Bool) (x:VOpd)
 |mkf (f:Nat) (caps:List VOpd)
 |lit (c:Cs) (xs:List VOpd)
 |appD (c:Cs) (s x:VOpd)
 |apps (s x:VOpd)
 |bstr (x:VOpd)
 |bld
 |sbyt (x:VOpd)
 |appb (s x:VOpd)
 |appDb (s x:VOpd)
 |litb (xs:List VOpd)
 |add64 (xs:List VOpd)
 |sub64 (xs:List VOpd)
abbrev U8:Cs:=.cons (.i .u8) .nil
def strL(s:ByteArray):List Int:=s.toList.map fun b=>(b.toNat:Int)
def Yuc(l:List Int):ByteArray:=⟨(l.map fun n=>UInt8.ofNat n.toNat).toArray⟩
def Yuo(X:YtI):List TV->Option (List (List TV))
 | []=>some []
 |a::r=>match YtY X a,Yuo X r with
  |some cs,some l=>some (cs::l)
  |_,_=>none
def YvB(s:ByteArray)(n:Int):Int:=((s.data.getD n.toNat 0).toNat:Nat)
def srcV(c:Cs):TV->Option (List c.den)
 | .l c' v=>asL c' c v
 | .e _=>some []
 | .lt els=>YuW c els
 |_=>none
def lenO:VObj->Option Nat
 | .sq _ l=>some l.length
 | .fm (.rw _ _) _ _ _ l=>some l.length
 | .fm (.mp _ _) _ _ _ _=>none
 | .st _=>none
 | .sb s=>some s.size
def vsb(env:VEnv)(o:Option VOpd)(d:Int):Option Int:=
 match o with
 |none=>some d
 |some x=>match vo env x with
  | .i _ n=>some n
  |_=>none
def YvY(g:Bool)(n:Nat)(x:TV)(X:YtI)(K:TV->YtI->Option β):Option β:=
 match x with
 | .rp cs=>match YuP g n cs with|some a=>K a X|none=>none
 | .ptr a i j=>match vget X a with
   |some (.sq c l)=>match YuP g n ((cells c (getI c l i)).drop j)with|some a=>K a X|none=>none
   |some (.st cs)=>bif Yxr i 0 then match YuP g n (cs.drop j)with|some a=>K a X|none=>none else none
   |some (.fm hd c ver none l)=>bif hd.isRw then match YuP g n ((cells hd.A (daI hd c l i)++[TV.sub a ver i]).drop j)with|some a=>K a X|none=>none else none
   |some (.fm _ _ _ (some _) _)=>none
   |some (.sb s)=>match g,j with
    |false,0=>K (.i .u8 (YvB s i)) X
    |_,_=>none
   |none=>none
 | .pti a ver i k j=>match vget X a with
   |some (.fm hd c ver' none l)=>bif Yxr ver ver' then match YuP g n ((cells c (getI c (owI hd c l i) k)).drop j)with|some a=>K a X|none=>none else none
   |_=>none
 |_=>none
def YvI(n:Nat)(x y:TV)(X:YtI)(K:TV->YtI->Option β):Option β:=
 match x with
 | .ptr a i j=>match vget X a with
   |some (.sq c l)=>match YtY X y with
    |some cs=>bif Yxr cs.length n&&Yxv (j+n) c.width then match pack c (spl (cells c (getI c l i)) j cs)with
     |some e=>K .u (vset X a (some (.sq c (l.set i e))))
     |none=>none
     else none
    |none=>none
   |some (.st ds)=>match YtY X y with
    |some cs=>bif Yxr i 0&&Yxr cs.length n&&Yxv (j+n) ds.length then K .u (vset X a (some (.st (spl ds j cs))))else none
    |none=>none
   |some (.fm hd c ver hole l)=>bif hd.isRw then(bif Yxr j hd.A.width&&Yxr n 1 then match y with
    | .ref m=>bif Yxr m a then none else match vget X m with
      |some (.sq c' lm)=>match asL c' c lm with
       |some lm'=>match hole with
        |none=>K .u (vset (vset X m none) a (some (.fm hd c (ver+1) none (setO hd c l i lm'))))
        |some h=>chk (h=i) (K .u (vset (vset X m none) a (some (.fm hd c (ver+1) none (setO hd c l i lm')))))
       |none=>none
      |_=>none
    | .e _=>bif hd.nn then none else match hole with
      |none=>K .u (vset X a (some (.fm hd c (ver+1) none (setO hd c l i []))))
      |some _=>none
    |_=>none
    else match hole,YtY X y with
     |none,some cs=>bif Yxr cs.length n&&Yxv (j+n) hd.A.width then match pack hd.A (spl (cells hd.A (daI hd c l i)) j cs)with
      |some d=>K .u (vset X a (some (.fm hd c ver none (setD hd c l i d))))
      |none=>none
      else none
     |_,_=>none)else none
   |some (.sb _)=>none
   |none=>none
 | .pti a ver i k j=>match vget X a with
   |some (.fm hd c ver' none l)=>match YtY X y with
    |some cs=>bif Yxr ver ver'&&Yxr cs.length n&&Yxv (j+n) c.width then match pack c (spl (cells c (getI c (owI hd c l i) k)) j cs)with
     |some e=>K .u (vset X a (some (.fm hd c ver none (setO hd c l i ((owI hd c l i).set k e)))))
     |none=>none
     else none
    |none=>none
   |_=>none
 |_=>none
def viad(es:Nat)(x i:TV)(X:YtI)(K:TV->YtI->Option β):Option β:=
 match i with
 | .i _ n=>match x with
   | .l c v=>bif Yxr c.width es then chk (0<=n/\n< (v.length:Int)) (K (.rp (cells c (getI c v n.toNat))) X)else none
   | .ref a=>match vget X a with
     |some (.sq c l)=>bif Yxr c.width es then chk (0<=n/\n< (l.length:Int)) (K (.ptr a n.toNat 0) X)else none
     |some (.fm (.rw A _) _ _ _ l)=>bif Yxr es (A.width+1)then chk (0<=n/\n< (l.length:Int)) (K (.ptr a n.toNat 0) X)else none
     |some (.sb s)=>bif Yxr es 1 then chk (0<=n/\n< (s.size:Int)) (K (.ptr a n.toNat 0) X)else none
     |_=>none
   | .pre a m=>match vget X a with
     |some (.sq c l)=>bif Yxr c.width es then chk (0<=n/\n<m) (K (.ptr a n.toNat 0) X)else none
     |_=>none
   | .sub a ver i=>match vget X a with
     |some (.fm hd c ver' none l)=>bif Yxr c.width es&&Yxr ver ver' then chk (0<=n/\n< ((owI hd c l i).length:Int)) (K (.pti a ver i n.toNat 0) X)else none
     |_=>none
   |_=>none
 |_=>none
def vlen(x:TV)(X:YtI)(K:TV->YtI->Option β):Option β:=
 match x with
 | .l _ v=>K (.i .i64 (v.length:Nat)) X
 | .e _=>K (.i .i64 0) X
 | .lt els=>K (.i .i64 (els.length:Nat)) X
 | .ref a=>match vget X a with
   |some (.sq _ l)=>K (.i .i64 (l.length:Nat)) X
   |some (.fm (.rw _ _) _ _ _ l)=>K (.i .i64 (l.length:Nat)) X
   |some (.sb s)=>K (.i .i64 (s.size:Nat)) X
   |_=>none
 | .pre _ m=>K (.i .i64 m) X
 | .sub a ver i=>match vget X a with
   |some (.fm hd c ver' none l)=>bif Yxr ver ver' then K (.i .i64 ((owI hd c l i).length:Nat)) X else none
   |_=>none
 |_=>none
def unl:List TV->Option (List TV×TV)
 | []=>none
 | [x]=>some ([],x)
 |a::r=>match unl r with|some (l,x)=>some (a::l,x)|none=>none
def vapp(c:Cs)(w:Nat)(s x:TV)(X:YtI)(K:TV->YtI->Option β):Option β:=
 match s with
 | .ref a=>match vget X a with
   |some (.sq c' l)=>match srcV c' x with
    |some m=>bif Yxr c.width c'.width then chk (l.length+m.length<=maxEl) (K (.ref X.length) (vset X a none++[some (.sq c' (l++m))]))else none
    |none=>none
   |some (.fm hd c' _ none l)=>match x with
    | .lt [es]=>bif hd.isRw&&Yxr c.width (hd.A.width+1)then match unl es with
      |some (ds,.ref m)=>bif Yxr m a then none else match vget X m,pack hd.A ds with
       |some (.sq c2 lm),some d=>match asL c2 c' lm with
        |some lm'=>chk (l.length+1<=maxEl) (K (.ref X.length) (vset (vset X m none) a none++[some (.fm hd c' 0 none (l++[mkE c' hd.A d lm']))]))
        |none=>none
       |_,_=>none
      |some (ds,.e _)=>bif hd.nn then none else match pack hd.A ds with
       |some d=>chk (l.length+1<=maxEl) (K (.ref X.length) (vset X a none++[some (.fm hd c' 0 none (l++[mkE c' hd.A d []]))]))
       |none=>none
      |_=>none
      else none
    |_=>none
   |_=>none
 | .e _=>match w with
   |0=>bif Yxu 0 c.width then match srcV c x with
    |some m=>chk (m.length<=maxEl) (K (.ref X.length) (X++[some (.sq c m)]))
    |none=>none
    else none
   |1=>none
   |_=>match unsn c,x with
    |some (A,c'),.lt [es]=>match unl es with
     |some (ds,.ref m)=>match vget X m,pack A ds with
      |some (.sq c2 lm),some d=>match asL c2 c' lm with
       |some lm'=>bif Yxr c.width (A.width+1)then K (.ref X.length) (vset X m none++[some (.fm (.rw A true) c' 0 none [mkE c' A d lm'])])else none
       |none=>none
      |_,_=>none
     |_=>none
    |_,_=>none
 | .sub a ver i=>match vget X a with
   |some (.fm hd c' ver' none l)=>match srcV c' x with
    |some m=>bif Yxr c.width c'.width&&Yxr ver ver' then chk ((owI hd c' l i).length+m.length<=maxEl) (bif hd.isRw||Yxu i l.length then K (.ref X.length) (vset X a (some (.fm hd c' ver (some i) l))++[some (.sq c' (owI hd c' l i++m))])else K (.ref X.length) (X++[some (.sq c' m)]))else none
    |none=>none
   |_=>none
 |_=>none
def Ywj(c:Cs)(s x:TV)(X:YtI)(K:TV->YtI->Option β):Option β:=
 match s with
 | .e _=>match srcV c x with
   |some m=>chk (m.length<=maxEl) (K (.l c m) X)
   |none=>none
 | .ref a=>match vget X a with
   |some (.sq c' l)=>match srcV c' x with
    |some m=>bif Yxr c.width c'.width then chk (l.length+m.length<=maxEl) (K (.l c' (l++m)) (vset X a none))else none
    |none=>none
   |_=>none
 |_=>none
def asB(c:Cs)(l:List c.den):Option (List Int):=asL c U8 l
def YwB(s:TV)(b:ByteArray)(X:YtI)(K:TV->YtI->Option β):Option β:=
 match s with
 | .e _=>chk (0<b.size/\b.size<=maxEl) (K (.ref X.length) (X++[some (.sb b)]))
 | .ref a=>match vget X a with
   |some (.sb s)=>chk (s.size+b.size<=maxEl) (K (.ref X.length) (vset X a none++[some (.sb (s++b))]))
   |_=>none
 |_=>none
def inB(l:List Int):Bool:=l.all fun n=>decide (0<=n)&&decide (n<256)
def srcB(x:TV):Option (List Int):=srcV U8 x
def Ywk(s x:TV)(X:YtI)(K:TV->YtI->Option β):Option β:=
 match srcB x with
 |some m=>bif inB m then match s with
  | .e _=>chk (0<m.length/\m.length<=maxEl) (K (.ref X.length) (X++[some (.sb (Yuc m))]))
  | .ref a=>match vget X a with
    |some (.sb s)=>chk (s.size+m.length<=maxEl) (K (.ref X.length) (vset X a none++[some (.sb (s++Yuc m))]))
    |_=>none
  |_=>none
  else none
 |none=>none
def YvJ(s x:TV)(X:YtI)(K:TV->YtI->Option β):Option β:=
 match srcB x with
 |some m=>match s with
  | .e _=>chk (0<m.length/\m.length<=maxEl) (K (.l U8 m) X)
  | .ref a=>match vget X a with
    |some (.sb s)=>chk (s.size+m.length<=maxEl) (K (.l U8 (strL s++m)) (vset X a none))
    |_=>none
  |_=>none
 |none=>none
def Ywl(x:TV)(X:YtI)(K:TV->YtI->Option β):Option β:=
 match x with
 | .e _=>K (.s (YxW #[])) X
 | .l c v=>match asB c v with
   |some l=>K (.s (Yuc l)) X
   |none=>none
 | .ref a=>match vget X a with
   |some (.sq c' l)=>match asB c' l with
    |some l=>K (.s (Yuc l)) X
    |none=>none
   |some (.sb s)=>K (.s s) X
   |_=>none
 |_=>none
def I64:Cs:=.cons (.i .i64) .nil
def vres(ok:Bool)(v:TV)(is:Bool)(X:YtI)(K:TV->YtI->Option β):Option β:=
 match ok with
 |true=>K (.tp [v,.b is]) X
 |false=>K v X
def Ywm(o:Option IntKind)(t:Ty)(V:Cs)(ag ok:Bool)(m k:TV)(X:YtI)(K:TV->YtI->Option β):Option β:=
 match vmap o t V X m,toD (kty o) k with
 |some (_,_,l,tags),some k=>bif Yxr tags.length (knd ag)&&knk ag V then
  vres ok (mvT ag (.cons t V) (mgt (keq o) k l (Cs.cons t V).dft)) (mhs (keq o) k l) X K
  else none
 |none,some k=>match Yu8 o X m with
  |some f=>match f.hole with
   |none=>bif Yxr (knd ag) 1&& (Ty.l f.c).eqb t&&knk ag V then vres ok (.sub f.a f.ver (mix (keq o) k f.l)) (mhs (keq o) k f.l) X K else none
   |some _=>none
  |none=>none
 |_,_=>none
def isAg:TV->Bool
 | .ag _=>true
 |_=>false
def Ywn(o:Option IntKind)(t:Ty)(V:Cs)(ag:Bool)(m k v:TV)(X:YtI)(K:TV->YtI->Option β):Option β:=
 match vmap o t V X m,toD (kty o) k with
 |some (a,n,l,tags),some k=>bif Yxr tags.length (knd ag)&& ((isAg v==ag)&&knk ag V)then(match YtY X v with
  |some cs=>match pack (.cons t V) cs with
   |some d=>K .u (vset X a (some (.st (.i .i64 (mck (keq o) n k l):: .l (mapC o t V) (mpt (keq o) n k d l)::tags))))
   |none=>none
  |none=>none)else none
 |none,some k=>match Yu8 o X m with
  |some f=>bif Yxr (knd ag) 1&& (Ty.l f.c).eqb t&&knk ag V then(ownK f.c X v fun b lm=>match f.hole with
   |none=>K .u (vset (vset X b none) f.a (some (.fm (.mp o (mck (keq o) f.n k f.l)) f.c (f.ver+1) none (mpt (keq o) f.n k lm f.l))))
   |some h=>chk (mix (keq o) k f.l=h) (K .u (vset (vset X b none) f.a (some (.fm (.mp o (mck (keq o) f.n k f.l)) f.c (f.ver+1) none (mpt (keq o) f.n k lm f.l))))))else none
  |none=>none
 |_,_=>none
def Ywo(o:Option IntKind)(t:Ty)(V:Cs)(m k:TV)(X:YtI)(K:TV->YtI->Option β):Option β:=
 match vmap o t V X m,toD (kty o) k with
 |some (a,n,l,tags),some k=>K .u (vset X a (some (.st (.i .i64 n:: .l (mapC o t V) (mdl (keq o) k l)::tags))))
 |none,some k=>match Yu8 o X m with
  |some f=>match f.hole with
   |none=>bif Cs.eqb (mapC o t V) (mapC o (.l f.c) .nil)then K .u (vset X f.a (some (.fm (.mp o f.n) f.c (f.ver+1) none (mdl (keq o) k f.l))))else none
   |some _=>none
  |none=>none
 |_,_=>none
def Ywp(o:Option IntKind)(t:Ty)(V:Cs)(ag:Bool)(it:TV)(X:YtI)(K:TV->YtI->Option β):Option β:=
 match it with
 | .np i=>match vget X i with
   |some (.st [.np a,.i .i64 _,.i .i64 tm,.l c seen,_])=>match vmap o t V X (.np a),asL c I64 seen with
    |some (_,n,l,tags),some seen=>bif Yxr tags.length (knd ag)&&knk ag V then chk (tm=n) (match seen.getLast? with
     |some b=>match mbf b l with
      |some e=>K (.tp [tvOf (kty o) e.1,mvT ag (.cons t V) e.2]) X
      |none=>none
     |none=>none)else none
    |none,some seen=>match Yu8 o X (.np a)with
     |some f=>match f.hole with
      |none=>chk (tm=f.n) (match seen.getLast? with
       |some b=>match mbf b f.l with
        |some e=>K (.tp [tvOf (kty o) e.1,.sub f.a f.ver (mbx b f.l)]) X
        |none=>none
       |none=>none)
      |some _=>none
     |none=>none
    |_,_=>none
   |_=>none
 |_=>none
def vG(op:VOp)(env:VEnv)(X:YtI)(K:TV->YtI->Option β):Option β:=
 match op with
 | .mkm o t V ag=>K (.np X.length) (X++[some (.st (.i .i64 0:: .l (mapC o t V) []::List.replicate (knd ag) (.b false)))])
 | .mget o t V ag ok m k=>Ywm o t V ag ok (vo env m) (vo env k) X K
 | .mput o t V ag m k v=>Ywn o t V ag (vo env m) (vo env k) (vo env v) X K
 | .mdel o t V m k=>Ywo o t V (vo env m) (vo env k) X K
 | .mlen m=>match vo env m with
   | .np a=>match vget X a with
     |some (.fm (.mp _ _) _ _ _ l)=>K (.i .i64 (l.length:Nat)) X
     |some (.st (.i .i64 _:: .l _ l::tags))=>bif Yxr tags.length 1||Yxr tags.length 2 then K (.i .i64 (l.length:Nat)) X else none
     |_=>none
   |_=>none
 | .mrng m=>match vo env m with
   | .np a=>match vget X a with
     |some (.fm (.mp _ n) _ _ _ _)=>K (.np X.length) (X++[some (.st [.np a,.i .i64 n,.i .i64 n,.l I64 [],.b false])])
     |some (.st (.i .i64 n:: .l _ _::tags))=>bif Yxr tags.length 1||Yxr tags.length 2 then K (.np X.length) (X++[some (.st [.np a,.i .i64 n,.i .i64 n,.l I64 [],.b false])])else none
     |_=>none
   |_=>none
 | .ment o t V ag it=>Ywp o t V ag (vo env it) X K
 | .mnxt _=>none
 | .cpy c d s=>match vo env d with
   | .ref a=>match vget X a with
     |some (.sq c' l)=>match srcV c (vo env s)with
      |some m=>match asL c c' m with
       |some m=>bif Yxu 0 c.width then K (.i .i64 ((min m.length l.length:Nat):Int)) (vset X a (some (.sq c' (m.take (min m.length l.length)++l.drop (min m.length l.length)))))else none
       |none=>none
      |none=>none
     |_=>none
   |_=>none
 | .mm mx xs=>match xs.map (vo env)with
   | .i k m::r=>match mmV mx k m r with|some v=>K v X|none=>none
   |_=>none
 | .emz x lo hi mx=>match vo env lo,vo env hi,vo env mx with
   | .i _ l,.i _ h,.i _ m=>chk (l=0/\h=0/\m=0) (match vo env x with
     | .l c _=>K (.e c) X
     | .e c=>K (.e c) X
     |_=>none)
   |_,_,_=>none
 | .mv x=>K (vo env x) X
 | .mvp x=>match vo env x with
   | .ref a=>match vget X a with
     |some (.sq _ l)=>K (.pre a (l.length:Nat)) X
     |_=>none
   |_=>none
 | .pick c a b=>match vo env c with
   | .b t=>bif t then K (vo env a) X else K (vo env b) X
   |_=>none
 | .box x=>match YtY X (vo env x)with
   |some (c::cs)=>bif Yxv (cs.length+1) 1000 then K (.ptr X.length 0 0) (X++[some (.st (c::cs))])else none
   |_=>none
 | .alloc z=>bif z.all K1.ok&&Yxu 0 z.length then K (.ptr X.length 0 0) (X++[some (.st (z.map K1.tv))])else none
 | .build z parts=>bif z.all K1.ok then match YvX X (z.map K1.tv) env parts with
   |some cs=>K (.ag cs) X
   |none=>none
   else none
 | .bsl c n parts=>bif Yxu 0 c.width then match Yvg X c.width (List.replicate n c.zcells) env parts with
   |some []=>K (.e c) X
   |some (e::els)=>match YuW c (e::els)with
    |some l=>K (.l c l) X
    |none=>K (.lt (e::els)) X
   |none=>none
   else none
 | .bslT c n parts=>bif Yxu 0 c.width then match Yvg X c.width (List.replicate n c.zcells) env parts with
   |some (e::els)=>K (.lt (e::els)) X
   |_=>none
   else none
 | .load g n x=>YvY g n (vo env x) X K
 | .loadR g n x=>match vo env x with
   | .rp cs=>match YuP g n cs with|some a=>K a X|none=>none
   |_=>none
 | .store n x y=>YvI n (vo env x) (vo env y) X K
 | .nilc x=>match vo env x with
   | .rp cs=>K (.rp cs) X
   | .ptr a i j=>bif(vget X a).isSome then K (.ptr a i j) X else none
   | .pti a ver i k j=>match vget X a with|some (.fm _ _ ver' none _)=>bif Yxr ver ver' then K (.pti a ver i k j) X else none|_=>none
   | .clo f cs=>K (.clo f cs) X
   |_=>none
 | .bin op x y=>vbin op (vo env x) (vo env y) fun r=>K r X
 | .beq ng x y=>match vo env x,vo env y with
   | .b s,.b t=>K (.b (match ng with|true=> !(s==t)|false=>s==t)) X
   |_,_=>none
 | .eqa ng ks x y=>match vo env x,vo env y with
   | .ag cs,.ag ds=>match eqV ks cs ds with|some r=>K (.b (match ng with|true=> !r|false=>r)) X|none=>none
   |_,_=>none
 | .not x=>match vo env x with
   | .b b=>K (.b (!b)) X
   |_=>none
 | .neg x=>match vo env x with
   | .i k n=>K (.i k (k.wrap (0-n))) X
   |_=>none
 | .conv k x=>match vo env x with
   | .i _ n=>K (.i k (k.wrap n)) X
   |_=>none
 | .cvs x=>match vo env x with
   | .s s=>K (.s s) X
   |_=>none
 | .fad off x=>match vo env x with
   | .rp cs=>K (.rp (cs.drop off)) X
   | .ptr a i j=>bif(vget X a).isSome then K (.ptr a i (j+off)) X else none
   | .pti a ver i k j=>match vget X a with|some (.fm _ _ ver' none _)=>bif Yxr ver ver' then K (.pti a ver i k (j+off)) X else none|_=>none
   |_=>none
 | .fld g off n x=>match vo env x with
   | .ag cs=>bif Yxv off cs.length then match YuP g n (cs.drop off)with|some a=>K a X|none=>none else none
   |_=>none
 | .iad es x i=>viad es (vo env x) (vo env i) X K
 | .iada _ _ _ _=>none
 | .idx x i=>match vo env x,vo env i with
   | .s s,.i _ n=>chk (0<=n/\n< (s.size:Int)) (K (.i .u8 (YvB s n)) X)
   |_,_=>none
 | .slcS x lo hi=>match vo env x with
   | .s s=>match vsb env lo 0,vsb env hi s.size with
     |some l,some h=>chk (0<=l/\l<=h/\h<=(s.size:Int)) (K (.s (s.extract l.toNat h.toNat)) X)
     |_,_=>none
   |_=>none
 | .slcR es0 x lo hi=>match vo env x with
   | .l c v=>bif Yxr c.width es0 then match vsb env lo 0,vsb env hi v.length with
     |some l,some h=>chk (0<=l/\l<=h/\h<=(v.length:Int)) (K (.l c ((v.take h.toNat).drop l.toNat)) X)
     |_,_=>none
     else none
   | .e c=>match vsb env lo 0,vsb env hi 0 with
     |some l,some h=>chk (l=0/\h=0) (K (.e c) X)
     |_,_=>none
   | .ref a=>match vget X a with
     |some (.sq _ l)=>match vsb env lo 0,hi with
      |some lo,none=>chk (lo=0) (K (.ref a) X)
      |some lo,some hi=>match vo env hi with
       | .i _ h=>chk (lo=0/\0<=h/\h<=(l.length:Int)) (K (.pre a h) X)
       |_=>none
      |_,_=>none
     |some (.fm (.rw _ _) _ _ _ l)=>match vsb env lo 0,hi with
      |some lo,some hi=>match vo env hi with
       | .i _ h=>chk (lo=0/\0<=h/\h<=(l.length:Int)) (K (.pre a h) X)
       |_=>none
      |_,_=>none
     |_=>none
   | .pre a m=>match vget X a with
     |some (.sq _ _)=>match vsb env lo 0,vsb env hi m with
      |some lo,some h=>chk (lo=0/\0<=h/\h<=m) (K (.pre a h) X)
      |_,_=>none
     |_=>none
   |_=>none
 | .ext x i=>match vo env x with
   | .tp l=>match l[i]? with|some b=>K b X|none=>none
   |_=>none
 | .lenS x=>match vo env x with
   | .s s=>K (.i .i64 (s.size:Nat)) X
   |_=>none
 | .len x=>vlen (vo env x) X K
 | .app c w s x=>vapp c w (vo env s) (vo env x) X K
 | .mksl c w n cp=>match vo env n,vo env cp with
   | .i _ n,.i _ cp=>chk (0<=n/\n<=cp/\cp<=(maxEl:Nat)) (match w,c with
     |2,.cons (.l c') .nil=>bif Yxu 0 c'.width then K (.ref X.length) (X++[some (.fm (.rw .nil false) c' 0 none (List.replicate n.toNat []))])else none
     |0,c=>bif Yxu 0 c.width then K (.ref X.length) (X++[some (.sq c (List.replicate n.toNat c.dft))])else none
     |_,_=>none)
   |_,_=>none
 | .mkf f caps=>K (.clo f (caps.map (vo env))) X
 | .lit c xs=>match Yuo X (xs.map (vo env))with
   |some (e::els)=>bif Yxu 0 c.width&&Yxv (els.length+1) 1000000 then match YuW c (e::els)with
    |some l=>K (.ref X.length) (X++[some (.sq c l)])
    |none=>none
    else none
   |_=>none
 | .appD c s x=>bif Yxu 0 c.width then Ywj c (vo env s) (vo env x) X K else none
 | .apps s x=>match vo env x with
   | .s b=>YwB (vo env s) b X K
   |_=>none
 | .bstr x=>Ywl (vo env x) X K
 | .appb s x=>Ywk (vo env s) (vo env x) X K
 | .appDb s x=>YvJ (vo env s) (vo env x) X K
 | .litb xs=>match Yuo X (xs.map (vo env))with
   |some (e::els)=>bif Yxv (els.length+1) 1000000 then match YuW U8 (e::els)with
    |some l=>bif inB l then K (.ref X.length) (X++[some (.sb (Yuc l))])else none
    |none=>none
    else none
   |_=>none
 | .bld=>K (.ptr X.length 0 0) (X++[some (.st [.np X.length,.v (.slice none 0 0)])])
 | .sbyt x=>match vo env x with
   | .s b=>K (.l U8 (strL b)) X
   |_=>none
 | .add64 xs=>match xs.map (vo env)with
   | [.i .u64 x,.i .u64 y,.i .u64 c]=>chk (c.toNat<=1) (K (.tp [.i .u64 (YuA x y c).1,.i .u64 (YuA x y c).2]) X)
   |_=>none
 | .sub64 xs=>match xs.map (vo env)with
   | [.i .u64 x,.i .u64 y,.i .u64 c]=>chk (c.toNat<=1) (K (.tp [.i .u64 (YuB x y c).1,.i .u64 (YuB x y c).2]) X)
   |_=>none
 | .call _ _=>none
 | .callF _ _=>none
 | .mkmF o c=>bif Yxu 0 c.width then K (.np X.length) (X++[some (.fm (.mp o 0) c 0 none [])])else none
 | .dyn _ _=>none
 | .dynP _ _=>none
 | .callN _ _ _=>none
 | .isp ng x=>match vo env x with
   | .nl=>K (.b (!ng)) X
   | .ptr a _ _=>bif(vget X a).isSome then K (.b ng) X else none
   |_=>none
 | .isi ng x=>match vo env x with
   | .ef q=>K (.b (bif ng then q else !q)) X
   |_=>none
end
end Go.Abs
namespace Go.Abs
open Go Go.RowKit
structure Lf where
 t:Ty
 v:t.den
inductive SV where
 |i (k:IntKind)
 |b
 |s
 |l (c:Cs)
 |u
 |e (c:Cs)
 |ref (a:Nat)
 |pre (a:Nat)
 |ptr (a i j:Nat)
 |ag (l:List SV)
 |tp (l:List SV)
 |clo (g:Nat) (l:List SV)
 |np (a:Nat)
 |nl
 |ef
inductive SO where
 |sq (c:Cs)
 |fm (A:Cs) (nn:Bool) (c:Cs)
 |fp (o:Option IntKind) (c:Cs)
 |st (l:List SV)
 |dd
 |sb
mutual
def SV.eqb:SV->SV->Bool
 | .i k,.i k'=>decide (k=k')
 | .b,.b=>true
 | .s,.s=>true
 | .l c,.l c'=>c.eqb c'
 | .u,.u=>true
 | .e c,.e c'=>c.eqb c'
 | .ref a,.ref a'=>Yxr a a'
 | .pre a,.pre a'=>Yxr a a'
 | .ptr a p q,.ptr a' p' q'=>Yxr a a'&&Yxr p p'&&Yxr q q'
 | .ag x,.ag x'=>SV.eqbs x x'
 | .tp x,.tp x'=>SV.eqbs x x'
 | .clo g x,.clo g' x'=>Yxr g g'&&SV.eqbs x x'
 | .np a,.np a'=>Yxr a a'
 | .nl,.nl=>true
 | .ef,.ef=>true
 |_,_=>false
def SV.eqbs:List SV->List SV->Bool
 | [],[]=>true
 |a::r,a'::r'=>a.eqb a'&&SV.eqbs r r'
 |_,_=>false
end
def SO.eqb:SO->SO->Bool
 | .sq c,.sq c'=>c.eqb c'
 | .fm A n c,.fm A' n' c'=>A.eqb A'&& (n==n'&&c.eqb c')
 | .fp o c,.fp o' c'=>decide (o=o')&&c.eqb c'
 | .st l,.st l'=>SV.eqbs l l'
 | .dd,.dd=>true
 | .sb,.sb=>true
 |_,_=>false
def SO.eqbs:List SO->List SO->Bool
 | [],[]=>true
 |a::r,a'::r'=>a.eqb a'&&SO.eqbs r r'
 |_,_=>false
mutual
def TV.sh:TV->Option SV
 | .i k _=>some (.i k)
 | .b _=>some .b
 | .s _=>some .s
 | .l c _=>some (.l c)
 | .u=>some .u
 | .e c=>some (.e c)
 | .ref a=>some (.ref a)
 | .pre a _=>some (.pre a)
 | .ptr a p q=>some (.ptr a p q)
 | .np a=>some (.np a)
 | .nl=>some .nl
 | .ef _=>some .ef
 | .ag x=>match TV.shs x with|some y=>some (.ag y)|none=>none
 | .tp x=>match TV.shs x with|some y=>some (.tp y)|none=>none
 | .clo g x=>match TV.shs x with|some y=>some (.clo g y)|none=>none
 |_=>none
def TV.shs:List TV->Option (List SV)
 | []=>some []
 |a::r=>match a.sh,TV.shs r with
  |some x,some xs=>some (x::xs)
  |_,_=>none
end
mutual
def TV.lv:TV->List Lf
 | .i k n=>[⟨.i k,n⟩]
 | .b x=>[⟨.b,x⟩]
 | .ef x=>[⟨.b,x⟩]
 | .s x=>[⟨.s,x⟩]
 | .l c w=>[⟨.l c,w⟩]
 | .pre _ n=>[⟨.i .i64,n⟩]
 | .ag y=>TV.lvs y
 | .tp y=>TV.lvs y
 | .clo _ y=>TV.lvs y
 |_=>[]
def TV.lvs:List TV->List Lf
 | []=>[]
 |a::r=>a.lv++TV.lvs r
end
def VObj.sh:VObj->Option SO
 | .sq c _=>some (.sq c)
 | .fm (.rw A nn) c ver none _=>bif Yxr ver 0 then some (.fm A nn c)else none
 | .fm (.mp o _) c ver none _=>bif Yxr ver 0 then some (.fp o c)else none
 | .fm _ _ _ (some _) _=>none
 | .st cs=>match TV.shs cs with|some l=>some (.st l)|none=>none
 | .sb _=>some .sb
def VObj.lv:VObj->List Lf
 | .sq c l=>[⟨.l c,l⟩]
 | .fm (.rw A nn) c _ _ l=>[⟨.l (sn c (Hd.rw A nn).A),l⟩]
 | .fm (.mp o n) c _ _ l=>[⟨.i .i64,n⟩,⟨.l (sn c (Hd.mp o n).A),l⟩]
 | .st cs=>TV.lvs cs
 | .sb s=>[⟨.s,s⟩]
def Yut:List Lf->(c:Cs)×c.den
 | []=>⟨.nil,()⟩
 |a::r=>match Yut r with
  | ⟨c,x⟩=>⟨.cons a.t c,mkP c a.v x⟩
def unp:(c:Cs)->c.den->List Lf
 | .nil,_=>[]
 | .cons t r,x=>⟨t,fstP r x⟩::unp r (sndP r x)
mutual
def YtU:SV->List Lf->Option (TV×List Lf)
 | .i k,⟨.i k',n⟩::r=>bif decide (k=k')then some (.i k n,r)else none
 | .b,⟨.b,x⟩::r=>some (.b x,r)
 | .ef,⟨.b,x⟩::r=>some (.ef x,r)
 | .s,⟨.s,x⟩::r=>some (.s x,r)
 | .l c,⟨.l c',v⟩::r=>match asL c' c v with|some v=>some (.l c v,r)|none=>none
 | .u,r=>some (.u,r)
 | .e c,r=>some (.e c,r)
 | .ref a,r=>some (.ref a,r)
 | .pre a,⟨.i .i64,n⟩::r=>some (.pre a n,r)
 | .ptr a i j,r=>some (.ptr a i j,r)
 | .np a,r=>some (.np a,r)
 | .nl,r=>some (.nl,r)
 | .ag l,r=>match Yt9 l r with|some (l,r)=>some (.ag l,r)|none=>none
 | .tp l,r=>match Yt9 l r with|some (l,r)=>some (.tp l,r)|none=>none
 | .clo g l,r=>match Yt9 l r with|some (l,r)=>some (.clo g l,r)|none=>none
 |_,_=>none
def Yt9:List SV->List Lf->Option (List TV×List Lf)
 | [],r=>some ([],r)
 |a::as,r=>match YtU a r with
  |some (x,r)=>match Yt9 as r with
   |some (xs,r)=>some (x::xs,r)
   |none=>none
  |none=>none
end
def YuQ:SO->List Lf->Option (VObj×List Lf)
 | .sq c,⟨.l c',v⟩::r=>match asL c' c v with|some v=>some (.sq c v,r)|none=>none
 | .fm A nn c,⟨.l c',v⟩::r=>match asL c' (sn c (Hd.rw A nn).A) v with|some v=>some (.fm (.rw A nn) c 0 none v,r)|none=>none
 | .fp o c,⟨.i .i64,n⟩::⟨.l c',v⟩::r=>match asL c' (sn c (Hd.mp o n).A) v with|some v=>some (.fm (.mp o n) c 0 none v,r)|none=>none
 | .st l,r=>match Yt9 l r with|some (l,r)=>some (.st l,r)|none=>none
 | .sb,⟨.s,x⟩::r=>some (.sb x,r)
 |_,_=>none
def Yt8:List SO->List Lf->Option (YtI×List Lf)
 | [],r=>some ([],r)
 | .dd::as,r=>match Yt8 as r with
   |some (xs,r)=>some (none::xs,r)
   |none=>none
 |a::as,r=>match YuQ a r with
  |some (x,r)=>match Yt8 as r with
   |some (xs,r)=>some (some x::xs,r)
   |none=>none
  |none=>none
structure Sg where
 ts:List Nat
 vs:List SV
 os:List SO
 c:Cs
def zipE:List Nat->List TV->VEnv
 |t::ts,v::vs=>(t,v)::zipE ts vs
 |_,_=>[]
def Sg.fill(g:Sg)(x:g.c.den):Option VSt:=
 match Yt9 g.vs (unp g.c x)with
 |some (vs,r)=>match Yt8 g.os r with
  |some (X,[])=>some ⟨zipE g.ts vs,X⟩
  |_=>none
 |none=>none
def shOs:YtI->Option (List SO)
 | []=>some []
 |some o::r=>match o.sh,shOs r with
  |some x,some xs=>some (x::xs)
  |_,_=>none
 |none::r=>match shOs r with
  |some xs=>some (.dd::xs)
  |none=>none
def lvOs:YtI->List Lf
 | []=>[]
 |some o::r=>o.lv++lvOs r
 |none::r=>lvOs r
def Sg.read(g:Sg)(vs:List TV)(X:YtI):Option g.c.den:=
 match TV.shs vs,shOs X with
 |some svs,some sos=>bif SV.eqbs svs g.vs&&SO.eqbs sos g.os then
  match Yut (TV.lvs vs++lvOs X)with
  | ⟨c,x⟩=>c.cast g.c x
  else none
 |_,_=>none
mutual
def TV.ids:TV->List Nat
 | .ref a=>[a]
 | .pre a _=>[a]
 | .ptr a _ _=>[a]
 | .np a=>[a]
 | .ag y=>TV.idss y
 | .tp y=>TV.idss y
 | .clo _ y=>TV.idss y
 |_=>[]
def TV.idss:List TV->List Nat
 | []=>[]
 |a::r=>a.ids++TV.idss r
end
mutual
def TV.ren(r:Nat->Option Nat):TV->TV
 | .ref a=>match r a with|some q=>.ref q|none=>.u
 | .pre a n=>match r a with|some q=>.pre q n|none=>.u
 | .ptr a x y=>match r a with|some q=>.ptr q x y|none=>.u
 | .np a=>match r a with|some q=>.np q|none=>.u
 | .e c=>.e c
 | .sub _ _ _=>.u
 | .pti _ _ _ _ _=>.u
 | .rp _=>.u
 | .lt _=>.u
 | .v _=>.u
 | .ag y=>.ag (TV.rens r y)
 | .tp y=>.tp (TV.rens r y)
 | .clo g y=>.clo g (TV.rens r y)
 | .i k n=>.i k n
 | .b x=>.b x
 | .s x=>.s x
 | .l c x=>.l c x
 | .u=>.u
 | .nl=>.nl
 | .ef x=>.ef x
def TV.rens(r:Nat->Option Nat):List TV->List TV
 | []=>[]
 |a::y=>a.ren r::TV.rens r y
end
def VObj.ids:Option VObj->List Nat
 |some (.st cs)=>TV.idss cs
 |_=>[]
def VObj.ren(r:Nat->Option Nat):VObj->VObj
 | .sq c l=>.sq c l
 | .fm hd c _ h l=>.fm hd c 0 h l
 | .st cs=>.st (TV.rens r cs)
 | .sb s=>.sb s
def YtK(X:YtI):List Nat->List Nat->List Nat
 |m,[]=>m
 |m,a::r=>bif(vget X a).isSome&& !(m.any (Yxr a))then YtK X (m++[a]) r else YtK X m r
def YtO(X:YtI):Nat->List Nat->List Nat
 |0,m=>m
 |d+1,m=>match YtK X m (m.flatMap fun a=>VObj.ids (vget X a))with
  |m'=>bif Yxr m'.length m.length then m else YtO X d m'
def idxV:List Nat->Nat->Nat->Option Nat
 | [],_,_=>none
 |x::r,a,i=>bif Yxr x a then some i else idxV r a (i+1)
def rnM(a n:Nat):List Nat:=(List.range n).map (fun b=>bif Yxr b a then n else b)++[a]
def rnV(a:Nat)(s:VSt):VSt:=match rnM a s.heap.length with
 |m=>⟨s.env.map fun p=>(p.1,p.2.ren fun b=>idxV m b 0),m.map fun b=>(vget s.heap b).map (VObj.ren fun b=>idxV m b 0)⟩
def ownV:List (Nat×Option Nat×Bool)->VSt->VSt
 | [],s=>s
 | (t,none,w)::r,s=>bif Yxu 999999 t then ownV r (rnV (Nat.sub t 1000000) s)else match w,YtT s.env t with
   |false,.e c=>bif Yxu 0 c.width then ownV r ⟨(t,.ref s.heap.length)::s.env,s.heap++[some (.sq c [])]⟩else ownV r s
   |true,.e c=>match unsn c with
    |some (A,c)=>bif Yxu 0 c.width then ownV r ⟨(t,.ref s.heap.length)::s.env,s.heap++[some (.fm (.rw A true) c 0 none [])]⟩else ownV r s
    |none=>ownV r s
   |_,.pre a n=>match vget s.heap a with
    |some (.sq c l)=>ownV r ⟨(t,.ref s.heap.length)::s.env,vset s.heap a none++[some (.sq c (l.take n.toNat))]⟩
    |_=>ownV r s
   |_,_=>ownV r s
 | (t,some j,w)::r,s=>match YtT s.env t with
   | .ptr a _ _=>match vget s.heap a with
     |some (.st cs)=>match w,cs[j]? with
      |false,some (.e c)=>bif Yxu 0 c.width then ownV r ⟨s.env,vset s.heap a (some (.st (cs.set j (.ref s.heap.length))))++[some (.sq c [])]⟩else ownV r s
      |true,some (.e c)=>match unsn c with
       |some (A,c)=>bif Yxu 0 c.width then ownV r ⟨s.env,vset s.heap a (some (.st (cs.set j (.ref s.heap.length))))++[some (.fm (.rw A true) c 0 none [])]⟩else ownV r s
       |none=>ownV r s
      |false,some (.v (.slice none 0 0))=>ownV r ⟨s.env,vset s.heap a (some (.st (cs.set j (.ref s.heap.length))))++[some (.sb (YxW #[]))]⟩
      |_,some (.pre b n)=>match vget s.heap b with
       |some (.sq c l)=>ownV r ⟨s.env,vset (vset s.heap b none++[some (.sq c (l.take n.toNat))]) a (some (.st (cs.set j (.ref s.heap.length))))⟩
       |_=>ownV r s
      |_,_=>ownV r s
     |_=>ownV r s
   | .ref a=>match w,vget s.heap a with
     |true,some (.fm (.rw A true) c v h l)=>ownV r ⟨s.env,vset s.heap a (some (.fm (.rw A false) c v h l))⟩
     |_,_=>ownV r (rnV a s)
   |_=>ownV r s
mutual
def TV.nrm:TV->TV
 | .e c=>.l c []
 | .ag y=>.ag (TV.nrms y)
 | .tp y=>.tp (TV.nrms y)
 | .clo g y=>.clo g (TV.nrms y)
 |a=>a
def TV.nrms:List TV->List TV
 | []=>[]
 |a::y=>a.nrm::TV.nrms y
end
def VObj.nrm:VObj->VObj
 | .st cs=>.st (TV.nrms cs)
 |o=>o
def nrmX(X:YtI):YtI:=X.map fun o=>o.map VObj.nrm
def YuH(k:Nat)(ts:List Nat)(s:VSt):List TV×YtI:=
 match ts.map (fun t=>(YtT s.env t).nrm),nrmX s.heap with
 |vs,X=>match YtO X 5 (YtK X (List.range (min k X.length)) (TV.idss vs))with
  |m=>(TV.rens (fun a=>idxV m a 0) vs,m.map fun a=>(vget X a).map (VObj.ren fun a=>idxV m a 0))
def frzT(X:YtI)(F:List Nat):TV->TV
 | .ref a=>bif F.any (Yxr a)then match vget X a with
   |some (.sq c l)=>.l c l
   |some (.fm (.rw A nn) c _ none l)=>.l (sn c (Hd.rw A nn).A) l
   |some (.sb s)=>.l U8 (strL s)
   |_=>.ref a
   else .ref a
 | .pre a n=>bif F.any (Yxr a)then match vget X a with
   |some (.sq c l)=>.l c (l.take n.toNat)
   |some (.fm (.rw A nn) c _ none l)=>.l (sn c (Hd.rw A nn).A) (l.take n.toNat)
   |_=>.u
   else match vget X a with|some _=>.pre a n|none=>.u
 |a=>a
mutual
def frzA(X:YtI)(F:List Nat):TV->TV
 | .ag l=>.ag (Yvp X F l)
 | .tp l=>.tp (Yvp X F l)
 | .clo g l=>.clo g (Yvp X F l)
 | .sub _ _ _=>.u
 | .pti _ _ _ _ _=>.u
 | .rp _=>.u
 | .lt _=>.u
 |a=>frzT X F a
def Yvp(X:YtI)(F:List Nat):List TV->List TV
 | []=>[]
 |a::r=>frzA X F a::Yvp X F r
end
def frzO(X:YtI)(F:List Nat):Option VObj->Option VObj
 |some (.st cs)=>some (.st (Yvp X F cs))
 |o=>o
def Yvh(X:YtI):List Nat->YtI
 | []=>X
 |a::r=>vset (Yvh X r) a none
def Yvi(X:YtI)(a:Nat):Bool:=
 match vget X a with
 |some (.sq _ _)=>true
 |some (.fm (.rw _ _) _ _ none _)=>true
 |some (.sb _)=>true
 |_=>false
def Ywc(X:YtI):TV->List Nat
 | .ptr a _ _=>match vget X a with
   |some (.st cs)=>(TV.idss cs).filter (Yvi X)
   |_=>[]
 |a=>a.ids.filter (Yvi X)
def Ywq(s:VSt)(t:Nat):List Nat:=
 bif Yxu t 1000000 then Ywc s.heap (YtT s.env t)else
 match YtT s.env (Nat.mod t 1000000)with
 | .ptr a _ _=>match vget s.heap a with
   |some (.st cs)=>match cs[Nat.sub (Nat.div t 1000000) 1]? with
    |some c=>c.ids.filter (Yvi s.heap)
    |none=>[]
   |_=>[]
 |_=>[]
def frzV(ts:List Nat)(s:VSt):VSt:=
 match ts.flatMap (Ywq s)with
 |F=>⟨s.env.map fun p=>(p.1,frzA s.heap F p.2),Yvh (s.heap.map (frzO s.heap F)) F⟩
def Yvv(X:YtI):Bool:=X.all fun o=>match o with|some (.fm _ _ _ (some _) _)=>false|_=>true
structure Out1 where
 ex:Ex
 g:Sg
def altT(A B:Type):List Out1->Type
 | []=>A
 |_::_=>A⊕B
def Alt:List Out1->Type
 | []=>Empty
 |o::r=>altT o.g.c.den (Alt r) r
def altK{γ:Type}:(os:List Out1)->Alt os->((o:Out1)->o.g.c.den->γ)->γ
 | [o],y,K=>K o y
 |o::o'::r,y,K=>match y with
  | .inl x=>K o x
  | .inr z=>altK (o'::r) z K
def YvK:(os:List Out1)->Nat->((o:Out1)->Option o.g.c.den)->Option (Alt os)
 | [],_,_=>none
 | [o],0,f=>f o
 |o::_::_,0,f=>match f o with|some x=>some (.inl x)|none=>none
 | [_],_+1,_=>none
 |_::o'::r,n+1,f=>match YvK (o'::r) n f with|some y=>some (.inr y)|none=>none
structure LpE where
 id:Nat
 own:List (Nat×Option Nat×Bool)
 g:Sg
 outs:List Out1
 F:g.c.den->Option (Alt outs)
structure FnE where
 g:Nat
 pf:Bool
 args:Sg
 res:SV
 os:List SO
 co:Cs
 F:args.c.den->Option co.den
structure Tabs where
 pf:Nat->Bool
 fs:List FnE
 ls:List LpE
 kb:Nat:=0
def ldT(X:YtI):TV->Option TV
 | .ref a=>match vget X a with
   |some (.sq c l)=>some (.l c l)
   |some (.sb s)=>some (.l U8 (strL s))
   |_=>none
 | .sub a ver i=>match vget X a with
   |some (.fm hd c ver' none l)=>bif Yxr ver ver' then some (.l c (owI hd c l i))else none
   |_=>none
 | .pre a n=>match vget X a with
   |some (.sq c l)=>some (.l c (l.take n.toNat))
   |_=>none
 |_=>none
def ldC(X:YtI):List TV->List TV×Bool
 | []=>([],false)
 |a::r=>match ldC X r with
  | (as,t)=>match ldT X a with
    |some x=>(x::as,true)
    |none=>match a with
     | .e c=>(.l c []::as,t)
     |a=>(a::as,t)
def ldL(X:YtI):List TV->List TV×Bool
 | []=>([],false)
 |a::r=>match ldL X r with
  | (as,t)=>match ldT X a with
    |some x=>(x::as,true)
    |none=>match a with
     | .ag cs=>match ldC X cs with
       | (ds,b)=>(.ag ds::as,b||t)
     | .e c=>(.l c []::as,t)
     |a=>(a::as,t)
def YwC:SV->Bool
 | .i _| .b| .s=>true
 | .tp l=>l.all fun y=>match y with| .i _| .b| .s=>true|_=>false
 |_=>false
def YvZ(g:Nat)(svs:List SV):List FnE->Option FnE
 | []=>none
 |e::r=>bif Yxr e.g g&&SV.eqbs svs e.args.vs then some e else YvZ g svs r
def Yvq(id:Nat):List LpE->Option LpE
 | []=>none
 |e::r=>bif Yxr e.id id then some e else Yvq id r
structure VI where
 dst:Option Nat
 op:VOp
 guard:Option (Nat×Bool)
 old:Bool
 nw:Bool
inductive VCode where
 |skip
 |reg (ops:List VI)
 |seq (a b:VCode)
 |cond (c:VOpd) (a b:VCode)
 |blk (id:Nat) (b:VCode)
 |loop (lid:Nat) (b:VCode)
 |jn (lid:Nat) (b:VCode)
 |exit (id:Nat)
 |bad
 |ret
 |fz (ts:List Nat) (b:VCode)
 |ow (ws:List (Nat×Option Nat×Bool)) (b:VCode)
 |regN (ns:List Nat) (ops:List VI)
section
variable{β:Type}
mutual
def YuI:TV->Bool
 | .i _ _| .b _| .s _| .l _ _| .ef _=>true
 | .ag x=>YtZ x
 | .tp x=>YtZ x
 | .clo _ x=>YtZ x
 |_=>false
def YtZ:List TV->Bool
 | []=>true
 |a::r=>YuI a&&YtZ r
end
def YvL(T:Tabs)(g:Nat)(args:List TV)(X:YtI)(K:TV->YtI->Option β):Option β:=
 match ldL X args with
 | (as,lent)=>match TV.shs as with
   |some svs=>match YvZ g svs T.fs with
    |some e=>bif YtZ as&& (!lent||YwC e.res)then match e.args.read as []with
     |some x=>YxD (e.F x) fun y=>match YtU e.res (unp e.co y)with
      |some (v,[])=>bif YuI v then K v X else none
      |_=>none
     |none=>none
     else none
    |none=>none
   |none=>none
def Yvw(g:Nat)(svs:List SV)(sos:List SO):List FnE->Option FnE
 | []=>none
 |e::r=>bif Yxr e.g g&& (SV.eqbs svs e.args.vs&&SO.eqbs sos e.args.os)then some e else Yvw g svs sos r
def YuR(g:Nat)(svs:List SV)(sos:List SO):List FnE->List FnE
 | []=>[]
 |e::r=>bif Yxr e.g g&& (SV.eqbs svs e.args.vs&&SO.eqbs sos e.args.os)then e::(YuR g svs sos r).filter (fun e'=> !(e'.res.eqb e.res&&SO.eqbs e'.os e.os))else YuR g svs sos r
def altO{α β:Type}(a:Option α)(k:α->Option β)(d:Option β):Option β:=
 match a with
 |some y=>k y
 |none=>d
def tryF{β:Type}(as:List TV)(Xs:YtI)(k:(e:FnE)->e.co.den->Option β):List FnE->Option β
 | []=>none
 | [e]=>match e.args.read as Xs with
   |some x=>YxD (e.F x) (k e)
   |none=>none
 |e::r=>match e.args.read as Xs with
  |some x=>altO (e.F x) (k e) (tryF as Xs k r)
  |none=>tryF as Xs k r
mutual
def clT(X:YtI)(m:List Nat):TV->Bool
 | .ref a| .pre a _| .ptr a _ _| .np a=>(vget X a).isSome&& !(m.any (Yxr a))
 | .u| .sub _ _ _| .pti _ _ _ _ _| .rp _| .lt _=>false
 | .ag x=>clTs X m x
 | .tp x=>clTs X m x
 | .clo _ x=>clTs X m x
 |_=>true
def clTs(X:YtI)(m:List Nat):List TV->Bool
 | []=>true
 |a::r=>clT X m a&&clTs X m r
end
def isU:TV->Bool
 | .u=>true
 |_=>false
def okO:Option VObj->Bool
 |some (.st cs)=>cs.all fun v=> !isU v
 |some (.fm _ _ _ (some _) _)=>false
 |some _=>true
 |none=>false
def clX(X:YtI)(m:List Nat):YtI->Nat->Bool
 | [],_=>true
 |o::r,i=>(m.any (Yxr i)|| (match o with|some (.st cs)=>cs.all fun v=>isU v||clT X m v|_=>true))&&clX X m r (i+1)
mutual
def wfT(X:YtI):TV->Bool
 | .i _ _| .b _| .s _| .l _ _| .u| .e _| .nl| .ef _=>true
 | .ref a=>match vget X a with|some (.sq _ _)=>true|some (.sb _)=>true|some (.fm (.rw _ _) _ _ _ _)=>true|_=>false
 | .ptr a i _=>Yxr i 0&&match vget X a with|some (.st _)=>true|_=>false
 | .np a=>match vget X a with|some (.st _)=>true|some (.fm (.mp _ _) _ _ _ _)=>true|_=>false
 | .ag x=>wfTs X x
 | .tp x=>wfTs X x
 | .clo _ x=>wfTs X x
 |_=>false
def wfTs(X:YtI):List TV->Bool
 | []=>true
 |a::r=>wfT X a&&wfTs X r
end
def wfX(X:YtI):YtI->Bool
 | []=>true
 |some (.sq c _)::r=>Yxu 0 c.width&&wfX X r
 |some (.st cs)::r=>Yxu 0 cs.length&&wfTs X cs&&wfX X r
 |some (.sb _)::r=>wfX X r
 |some (.fm hd c _ h _)::r=>(Yxu 0 c.width&& (hd.nn&&Option.isNone h))&&wfX X r
 |none::r=>wfX X r
def Yua{β:Type}:YtI->YtI->Option β->Option β
 | [],_,x=>x
 |some (.sq _ l)::r,some (.sq _ l2)::r2,x=>chk (l2.length=l.length) (Yua r r2 x)
 |some (.st _)::r,some (.st _)::r2,x=>Yua r r2 x
 |some (.sb s)::r,some (.sb s2)::r2,x=>chk (s2.size=s.size) (Yua r r2 x)
 |some (.fm (.rw _ _) c _ _ l)::r,some (.fm (.rw _ _) c' _ _ l2)::r2,x=>bif c.eqb c' then chk (l2.length=l.length) (Yua r r2 x)else none
 |some (.fm (.mp _ _) c _ _ _)::r,some (.fm (.mp _ _) c' _ _ _)::r2,x=>bif c.eqb c' then Yua r r2 x else none
 |_::r,none::r2,x=>Yua r r2 x
 |_,_,_=>none
def noFm:YtI->Bool
 | []=>true
 |some (.fm hd _ _ h _)::r=>(hd.nn&&Option.isNone h)&&noFm r
 |_::r=>noFm r
def YtX(m:List Nat)(n:Nat)(i:Nat):Nat:=bif Yxu i m.length then m.getD i 0 else n+(i-m.length)
def YwD:Option VObj->Option VObj->Option VObj
 |some (.fm _ _ v _ _),some (.fm hd c _ h l)=>some (.fm hd c (v+1) h l)
 |_,o=>o
def Yvj(r:Nat->Option Nat):YtI->List Nat->YtI->YtI
 |X,a::m,o::Y=>Yvj r (vset X a (YwD (vget X a) (o.map (VObj.ren r)))) m Y
 |X,_,_=>X
def Yt4(m:List Nat)(r:Nat->Option Nat)(X Y:YtI):YtI:=Yvj r X m Y++(Y.drop m.length).map fun o=>o.map (VObj.ren r)
def YvM(m:List Nat):YtI->Nat->List Nat
 | [],_=>[]
 |o::r,i=>bif(VObj.ids o).any (fun a=>m.any (Yxr a))then i::YvM m r (i+1)else YvM m r (i+1)
def Yt5(X:YtI):Nat->List Nat->List Nat
 |0,m=>m
 |d+1,m=>match YtK X m (YvM m X 0)with
  |m'=>bif Yxr m'.length m.length then m else Yt5 X d (YtO X 5 m')
def Yvx(T:Tabs)(g:Nat)(args:List TV)(X:YtI)(K:TV->YtI->Option β):Option β:=
 match Yt5 X 4 (YtO X 5 (YtK X [] (TV.idss args)))with
 |m=>match TV.rens (fun a=>idxV m a 0) args,m.map (fun a=>(vget X a).map (VObj.ren fun a=>idxV m a 0))with
  |as,Xs=>bif clX X m X 0&&noFm Xs then match TV.shs as,shOs Xs with
   |some svs,some sos=>tryF as Xs (fun e y=>match YtU e.res (unp e.co y)with
      |some (v,r)=>match Yt8 e.os r with
       |some (X2,[])=>bif Yxv m.length X2.length&& (wfT X2 v&&wfX X2 X2)then
        Yua Xs X2 (K (v.ren fun a=>some (YtX m X.length a)) (Yt4 m (fun a=>some (YtX m X.length a)) X X2))
        else none
       |_=>none
      |none=>none) (YuR g svs sos T.fs)
   |_,_=>none
   else none
def okF(X:YtI):Option VObj->Bool
 |some (.st cs)=>cs.all (clT X [])
 |some (.sq _ _)=>true
 |some (.sb _)=>true
 |_=>false
def detV:List TV->YtI->(List TV->YtI->Option β)->Option β
 | [],X,K=>K [] X
 | .sub a ver i::r,X,K=>match vget X a with
   |some (.fm hd c ver' none l)=>bif Yxr ver ver'&&hd.nn then
    (bif Yxu i l.length then detV r (vset X a (some (.fm hd c ver (some i) l))++[some (.sq c (owI hd c l i))]) fun as X'=>K (.ref X.length::as) X'
    else detV r X fun as X'=>K (.e c::as) X')else none
   |_=>none
 |a::r,X,K=>detV r X fun as X'=>K (a::as) X'
def fgO(m:List Nat):Option VObj->Option VObj
 |some (.st cs)=>some (.st (TV.rens (fun a=>bif m.any (Yxr a)then none else some a) cs))
 |o=>o
def fgX(m:List Nat):YtI->Nat->YtI
 | [],_=>[]
 |o::r,i=>(bif m.any (Yxr i)then o else fgO m o)::fgX m r (i+1)
def YvN(T:Tabs)(g:Nat)(args:List TV)(X:YtI)(K:TV->YtI->Option β):Option β:=
 detV args X fun as X1=>bif !(List.isEmpty (TV.idss args))|| (Yt5 (fgX (YtO X1 5 (YtK X1 [] (TV.idss as))) X1 0) 4 (YtO (fgX (YtO X1 5 (YtK X1 [] (TV.idss as))) X1 0) 5 (YtK (fgX (YtO X1 5 (YtK X1 [] (TV.idss as))) X1 0) [] (TV.idss as)))).all (Yxv X.length)then
  Yvx T g as (fgX (YtO X1 5 (YtK X1 [] (TV.idss as))) X1 0) fun v X2=>
  bif(List.range X1.length).all (fun a=>Yxu a X.length|| !(vget X2 a).isSome)then K v X2 else none
  else none
def YvO(T:Tabs)(g:Nat)(args:List TV)(X:YtI)(K:TV->YtI->Option β):Option β:=
 bif T.pf g then YvL T g args X K else Yvx T g args X K
def Cs.plain:Cs->Bool
 | .nil=>true
 | .cons (.l _) _=>false
 | .cons _ r=>r.plain
def YvP(T:Tabs)(g:Nat)(args:List TV)(d:Bool)(X:YtI)(K:TV->YtI->Option β):Option β:=
 match ldL X args with
 | (as,lent)=>match TV.shs as with
   |some svs=>match Yvw g svs [] T.fs with
    |some e=>bif YtZ as then match e.args.read as []with
     |some x=>YxD (e.F x) fun y=>match YtU e.res (unp e.co y)with
      |some (.ref 0,l)=>match Yt8 e.os l with
       |some ([some (.sq c z)],[])=>bif Yxu 0 c.width&& (!lent||c.plain)then(match d with|true=>K (.l c z) X|false=>K (.ref X.length) (X++[some (.sq c z)]))else none
       |_=>none
      |_=>none
     |none=>none
     else none
    |none=>none
   |none=>none
def vop(T:Tabs)(op:VOp)(env:VEnv)(X:YtI)(K:TV->YtI->Option β):Option β:=
 match op with
 | .call g args=>YvO T g (args.map (vo env)) X K
 | .dyn x args=>match vo env x with
   | .clo f cs=>YvO T f (args.map (vo env)++cs) X K
   |_=>none
 | .dynP x args=>match vo env x with
   | .clo f cs=>bif T.pf f then YvO T f (args.map (vo env)++cs) X K else none
   |_=>none
 | .callN g args d=>bif T.pf g then none else YvP T g (args.map (vo env)) d X K
 | .callF g args=>bif T.pf g then none else YvN T g (args.map (vo env)) X K
 |op=>vG op env X K
def VOp.touched:VOp->List VOpd
 | .load _ _ x| .store _ x _| .iad _ x _=>[x]
 | .app _ _ s _=>[s]
 | .appD _ s _=>[s]
 | .apps s _=>[s]
 | .bstr x=>[x]
 | .appb s _=>[s]
 | .appDb s _=>[s]
 | .mget _ _ _ _ _ m _=>[m]
 | .mput _ _ _ _ m _ _=>[m]
 | .mdel _ _ _ m _=>[m]
 | .mlen m=>[m]
 | .mrng m=>[m]
 | .ment _ _ _ _ it=>[it]
 | .mnxt it=>[it]
 | .cpy _ d _=>[d]
 | .call _ args=>args
 | .callN _ args _=>args
 | .callF _ args=>args
 | .dynP x args=>x::args
 |_=>[]
def YwE(s:VSt)(t:Nat):List Nat:=
 bif Yxu t 1000000 then(YtT s.env t).ids else
 bif Yxv 1000000000000 t then Yt5 s.heap 4 (YtO s.heap 5 (YtK s.heap [] (YtT s.env (Nat.sub t 1000000000000)).ids))else
 match YtT s.env (Nat.mod t 1000000)with
 | .ptr a _ _=>match vget s.heap a with
   |some (.st cs)=>match cs[Nat.sub (Nat.div t 1000000) 1]? with
    |some c=>c.ids
    |none=>[]
   |_=>[]
 |_=>[]
abbrev Nw:=Nat×List Nat
def Yuu(n:Nw)(a:Nat):Bool:=Yxv n.1 a||n.2.any (Yxr a)
def oldC(X:YtI)(n0:Nw):TV->Bool
 | .ref a| .pre a _| .ptr a _ _| .np a=>(vget X a).isSome&& !Yuu n0 a
 | .u| .sub _ _ _| .pti _ _ _ _ _| .v _=>false
 | .ag _=>false
 |_=>true
def oldB(X:YtI)(n0:Nw):TV->Bool
 | .ag cs=>cs.all (oldC X n0)
 |a=>oldC X n0 a
def oldT(X:YtI)(n0:Nw):TV->Bool
 | .clo _ cs=>cs.all (oldB X n0)
 |a=>oldB X n0 a
def newT(X:YtI)(n0:Nw):TV->Bool
 | .ref a| .ptr a _ _| .np a=>(vget X a).isSome&&Yuu n0 a
 | .i _ _| .b _| .s _| .l _ _| .e _=>true
 |_=>false
def nwT(X:YtI)(n0:Nw)(env:VEnv):VOp->Bool
 | .app _ _ s _=>newT X n0 (vo env s)
 | .appD _ s _=>newT X n0 (vo env s)
 | .apps s _=>newT X n0 (vo env s)
 | .appb s _=>newT X n0 (vo env s)
 | .appDb s _=>newT X n0 (vo env s)
 | .mput _ _ _ _ m _ _=>newT X n0 (vo env m)
 | .mdel _ _ _ m _=>newT X n0 (vo env m)
 | .cpy _ d _=>newT X n0 (vo env d)
 | .store _ x _=>newT X n0 (vo env x)
 | .call _ args=>(Yt5 X 4 (YtO X 5 (YtK X [] (TV.idss (args.map (vo env)))))).all (Yuu n0)&& (List.range n0.1).all fun a=>Yuu n0 a||okO (vget X a)
 | .callF _ args=>List.isEmpty (TV.idss (args.map (vo env)))&& (List.range n0.1).all fun a=>Yuu n0 a||okF X (vget X a)
 |_=>false
def Yu9:YtI->Nat->List Nat
 | [],_=>[]
 |o::r,i=>bif o.isSome then Yu9 r (i+1)else i::Yu9 r (i+1)
def okM(X:YtI)(n0:Nw)(i:VI)(env:VEnv):Bool:=
 (!i.old||i.op.touched.all fun x=>oldT X n0 (vo env x))&& (!i.nw||nwT X n0 env i.op)
def vput(env:VEnv)(d:Option Nat)(v:TV):VEnv:=
 match d with
 |some d=>(d,v)::env
 |none=>env
def vgo(T:Tabs)(n0:Nw)(i:VI)(env:VEnv)(X:YtI)(K:VSt->Option β):Option β:=
 bif okM X n0 i env then vop T i.op env X fun v X'=>K ⟨vput env i.dst v,X'⟩else none
abbrev undV:TV:=.v (.tuple ⟨[]⟩)
def vai(T:Tabs)(n0:Nw)(i:VI)(s:VSt)(K:VSt->Option β):Option β:=
 match i.guard with
 |none=>vgo T n0 i s.env s.heap K
 |some (g,w)=>match YtT s.env g with
  | .b t=>match w with
    |true=>bif t then vgo T n0 i ((g,.b true)::s.env) s.heap K else K ⟨vput ((g,.b false)::s.env) i.dst undV,s.heap⟩
    |false=>bif t then K ⟨vput ((g,.b true)::s.env) i.dst undV,s.heap⟩else vgo T n0 i ((g,.b false)::s.env) s.heap K
  | .v (.tuple ⟨[]⟩)=>K ⟨vput s.env i.dst undV,s.heap⟩
  |_=>none
def vops(T:Tabs)(n0:Nw):List VI->VSt->(VSt->Option β)->Option β
 | [],s,K=>K s
 |i::r,s,K=>vai T n0 i s fun s'=>vops T n0 r s' K
def refV(s:VSt):VOpd->Bool->VSt
 | .t g,b=>⟨(g,.b b)::s.env,s.heap⟩
 | .c _,_=>s
def vsub(T:Tabs)(lid:Nat)(s:VSt)(K:Ex->VSt->Option β):Option β:=
 match Yvq lid T.ls with
 |some e=>match YuH T.kb e.g.ts (ownV e.own s)with
  | (vs,X)=>match e.g.read vs X with
    |some x=>YxD (e.F x) fun y=>altK e.outs y fun o z=>match o.g.fill z with
     |some s'=>K o.ex s'
     |none=>none
    |none=>none
 |none=>none
def ev(T:Tabs):VCode->VSt->(Ex->VSt->Option β)->Option β
 | .bad,_,_=>none
 | .skip,s,K=>K .nor s
 | .reg ops,s,K=>vops T (s.heap.length,[]) ops s fun s'=>K .nor s'
 | .regN ns ops,s,K=>vops T (s.heap.length,ns.flatMap (YwE s)++Yu9 s.heap 0) ops s fun s'=>K .nor s'
 | .seq a b,s,K=>ev T a s fun e s'=>match e with
   | .nor=>ev T b s' K
   |e=>K e s'
 | .cond c a b,s,K=>match vo s.env c with
   | .b t=>bif t then ev T a (refV s c true) K else ev T b (refV s c false) K
   |_=>none
 | .blk id b,s,K=>ev T b s fun e s'=>match e with
   | .exit id'=>bif Yxr id' id then K .nor s' else K (.exit id') s'
   |e=>K e s'
 | .loop lid _,s,K=>vsub T lid s K
 | .jn lid _,s,K=>vsub T lid s K
 | .exit id,s,K=>K (.exit id) s
 | .ret,s,K=>K .ret s
 | .fz ts b,s,K=>bif Yvv s.heap then ev T b (frzV ts s) K else none
 | .ow ws b,s,K=>ev T b (ownV ws s) K
end
def Yuv{S R:Type}(step:S->Option (S⊕R)):Nat->S->Option R
 |0,_=>none
 |n+1,s=>match step s with
  |some (.inl s')=>Yuv step n s'
  |some (.inr r)=>some r
  |none=>none
open Classical in
noncomputable def Yuk{S R:Type}(step:S->Option (S⊕R))(s:S):Option R:=
 if h: ∃n r,Yuv step n s=some r then some (Classical.choose (Classical.choose_spec h))else none
def exEq:Ex->Ex->Bool
 | .nor,.nor=>true
 | .ret,.ret=>true
 | .exit a,.exit b=>Yxr a b
 |_,_=>false
def Yv0(e:Ex):List Out1->Nat->Option Nat
 | [],_=>none
 |o::r,n=>bif exEq o.ex e then some n else Yv0 e r (n+1)
def outK(kb:Nat)(outs:List Out1)(e:Ex)(s:VSt):Option (Alt outs):=
 match Yv0 e outs 0 with
 |some n=>YvK outs n fun o=>match YuH kb o.g.ts s with
  | (vs,X)=>o.g.read vs X
 |none=>none
def YvQ(T:Tabs)(own:List (Nat×Option Nat×Bool))(g:Sg)(outs:List Out1)(b:VCode)(x:g.c.den):Option (g.c.den⊕Alt outs):=
 match g.fill x with
 |some s=>ev T b s fun e s'=>match e with
  | .nor=>match YuH T.kb g.ts (ownV own s')with
    | (vs,X)=>match g.read vs X with
      |some x'=>some (.inl x')
      |none=>none
  |e=>match outK T.kb outs e s' with
   |some y=>some (.inr y)
   |none=>none
 |none=>none
def stepJ(T:Tabs)(g:Sg)(outs:List Out1)(b:VCode)(x:g.c.den):Option (Alt outs):=
 match g.fill x with
 |some s=>ev T b s fun e s'=>outK T.kb outs e s'
 |none=>none
structure VFn where
 pf:Bool
 slots:Nat
 res:List RV
 code:VCode
def YwF(s:VSt):RV->Option TV
 | .t n=>some (YtT s.env n)
 | .c n g sz=>YvY g sz (YtT s.env n) s.heap fun v _=>some v
def Yvr(s:VSt):List RV->Option (List TV)
 | []=>some []
 |r::rs=>match YwF s r,Yvr s rs with
  |some v,some vs=>some (v::vs)
  |_,_=>none
def tupV:List TV->TV
 | [v]=>v
 |vs=>.tp vs
mutual
def TV.dat(X:YtI):TV->TV
 | .ref a=>match vget X a with
   |some (.sq c y)=>.l c y
   |some (.fm (.rw A nn) c _ none y)=>.l (sn c (Hd.rw A nn).A) y
   |some (.sb y)=>.l U8 (strL y)
   |_=>.u
 | .pre a n=>match vget X a with
   |some (.sq c y)=>.l c (y.take n.toNat)
   |some (.fm (.rw A nn) c _ none y)=>.l (sn c (Hd.rw A nn).A) (y.take n.toNat)
   |_=>.u
 | .e c=>.l c []
 | .ag y=>.ag (TV.dats X y)
 | .tp y=>.tp (TV.dats X y)
 | .clo g y=>.clo g (TV.dats X y)
 |a=>a
def TV.dats(X:YtI):List TV->List TV
 | []=>[]
 |a::r=>a.dat X::TV.dats X r
end
def Yv1(sv:SV)(c:Cs)(v:TV):Option c.den:=
 match v.sh with
 |some sv'=>bif sv'.eqb sv then match Yut v.lv with| ⟨c',x⟩=>c'.cast c x else none
 |none=>none
def evP(T:Tabs)(F:VFn)(g:Sg)(res:SV)(co:Cs)(x:g.c.den):Option co.den:=
 match g.fill x with
 |some s=>ev T F.code s fun e s'=>match e with
  | .exit _=>none
  |_=>match Yvr s' F.res with
   |some vs=>Yv1 res co ((tupV vs).dat s'.heap)
   |none=>none
 |none=>none
def retI(k:Nat)(vs0:TV)(X0:YtI):TV×YtI:=
 match vs0.nrm,nrmX X0 with
 |vs,X=>match YtO X 5 (YtK X (List.range (min k X.length)) vs.ids)with
  |m=>(vs.ren fun a=>idxV m a 0,m.map fun a=>(vget X a).map (VObj.ren fun a=>idxV m a 0))
def Yv2(sv:SV)(os:List SO)(c:Cs)(v:TV)(X:YtI):Option c.den:=
 match v.sh,shOs X with
 |some sv',some os'=>bif sv'.eqb sv&&SO.eqbs os' os then match Yut (v.lv++lvOs X)with| ⟨c',x⟩=>c'.cast c x else none
 |_,_=>none
def evI(T:Tabs)(F:VFn)(g:Sg)(res:SV)(os:List SO)(co:Cs)(x:g.c.den):Option co.den:=
 match g.fill x with
 |some s=>ev T F.code s fun e s'=>match e with
  | .exit _=>none
  |_=>match Yvr s' F.res with
   |some vs=>match retI T.kb (tupV vs) s'.heap with
    | (v,X)=>Yv2 res os co v X
   |none=>none
 |none=>none
end Go.Abs
namespace Go.Abs
open Go Go.RowKit
inductive Pos where
 |m (a:Nat)
 |n (a i:Nat)
 deriving DecidableEq
abbrev Pl:=Pos->Option Nat
def elN:VObj->Nat
 | .sq _ l=>l.length
 | .fm (.rw _ _) _ _ _ l=>l.length
 | .fm (.mp _ _) _ _ _ _=>1
 | .st _=>1
 | .sb s=>s.size
def YvR(X:YtI)(a ver:Nat):Prop:= ∀o,vget X a=some o-> ∃hd c ver' hole l,o= .fm hd c ver' hole l/\ (ver<ver'\/(ver=ver'/\hole≠none))
def isFm:VObj->Bool
 | .fm _ _ _ _ _=>true
 |_=>false
inductive TR(X:YtI)(pl:Pl):TV->AV->Prop
 |i (k:IntKind) (n:Int):TR X pl (.i k n) (.v (.int k n))
 |b (x:Bool):TR X pl (.b x) (.v (.bool x))
 |s (x:ByteArray):TR X pl (.s x) (.v (.string x))
 |l (c:Cs) (v:List c.den) (a:AV) (h:Coe a (.rd c.width (v.map c.enc))):TR X pl (.l c v) a
 |e (c:Cs):TR X pl (.e c) .emp
 |u (a:AV):TR X pl .u a
 |v (x:Value):TR X pl (.v x) (.v x)
 |nl:TR X pl .nl (.v (.pointer none))
 |eft:TR X pl (.ef true) .er
 |eff:TR X pl (.ef false) (.v .nilIface)
 |ref (a x:Nat) (o:VObj) (n:Nat) (h:vget X a=some o) (hn:lenO o=some n) (hp:pl (.m a)=some x):TR X pl (.ref a) (.ref x 0 n)
 |refD (a:Nat) (av:AV) (h:vget X a=none) (ha:a<X.length):TR X pl (.ref a) av
 |pre (a x:Nat) (m:Int) (o:VObj) (n:Nat) (h:vget X a=some o) (hn:lenO o=some n) (hp:pl (.m a)=some x) (h0:0<=m) (hm:m.toNat<=n):TR X pl (.pre a m) (.ref x 0 m.toNat)
 |preD (a x:Nat) (m:Int) (h:vget X a=none) (ha:a<X.length) (h0:0<=m):TR X pl (.pre a m) (.ref x 0 m.toNat)
 |sub (a ver i y:Nat) (hd:Hd) (c:Cs) (l:List (sn c hd.A).den) (h:vget X a=some (.fm hd c ver none l)) (hi:i<l.length) (hp:pl (.n a i)=some y):TR X pl (.sub a ver i) (.ref y 0 (owI hd c l i).length)
 |sube (a ver i:Nat) (hd:Hd) (c:Cs) (l:List (sn c hd.A).den) (h:vget X a=some (.fm hd c ver none l)) (hp:pl (.n a i)=none) (h0:owI hd c l i=[]):TR X pl (.sub a ver i) .emp
 |subD (a ver i:Nat) (av:AV) (h:YvR X a ver) (ha:a<X.length):TR X pl (.sub a ver i) av
 |ptr (a i j x:Nat) (o:VObj) (h:vget X a=some o) (hi:i<elN o) (hp:pl (.m a)=some x):TR X pl (.ptr a i j) (.ptr x i j)
 |ptrD (a i j:Nat) (av:AV) (h:vget X a=none) (ha:a<X.length):TR X pl (.ptr a i j) av
 |pti (a ver i k j y:Nat) (hd:Hd) (c:Cs) (l:List (sn c hd.A).den) (h:vget X a=some (.fm hd c ver none l)) (hi:i<l.length) (hk:k< (owI hd c l i).length) (hp:pl (.n a i)=some y):TR X pl (.pti a ver i k j) (.ptr y k j)
 |ptiD (a ver i k j:Nat) (av:AV) (h:YvR X a ver) (ha:a<X.length):TR X pl (.pti a ver i k j) av
 |np (a x:Nat) (o:VObj) (h:vget X a=some o) (hp:pl (.m a)=some x):TR X pl (.np a) (.np x)
 |npD (a:Nat) (av:AV) (h:vget X a=none) (ha:a<X.length):TR X pl (.np a) av
 |rp (cs:List TV) (as:List AV) (hl:cs.length=as.length) (h: ∀(j:Nat) (c:TV) (a:AV),cs[j]?=some c->as[j]?=some a->TR X pl c a):TR X pl (.rp cs) (.rp as)
 |lt (es:Nat) (cs:List (List TV)) (as:List (List AV)) (hl:cs.length=as.length) (h0:cs≠ []) (hz: ∀e∈cs,e.length=es) (hz': ∀e∈as,e.length=es)
  (h: ∀(i j:Nat) (e:List TV) (f:List AV) (c:TV) (a:AV),cs[i]?=some e->as[i]?=some f->e[j]?=some c->f[j]?=some a->TR X pl c a):TR X pl (.lt cs) (.rd es as)
 |ag (cs:List TV) (as:List AV) (hl:cs.length=as.length) (h: ∀(j:Nat) (c:TV) (a:AV),cs[j]?=some c->as[j]?=some a->TR X pl c a):TR X pl (.ag cs) (.agg as)
 |tp (cs:List TV) (as:List AV) (hl:cs.length=as.length) (h: ∀(j:Nat) (c:TV) (a:AV),cs[j]?=some c->as[j]?=some a->TR X pl c a):TR X pl (.tp cs) (.tup as)
 |clo (g:Nat) (cs:List TV) (as:List AV) (hl:cs.length=as.length) (h: ∀(j:Nat) (c:TV) (a:AV),cs[j]?=some c->as[j]?=some a->TR X pl c a):TR X pl (.clo g cs) (.clo g as)
theorem TR.ef{X:YtI}{pl:Pl}(x:Bool):TR X pl (.ef x) (efA x):=by
 cases x
 ·exact .eff
 ·exact .eft
def CC(e e':List AV):Prop:=e.length=e'.length/\ ∀(j:Nat) (x x':AV),e[j]?=some x->e'[j]?=some x'->Coe x x'
def Rows(el:List (List AV))(c:Cs)(l:List c.den):Prop:=
 el.length=l.length/\ ∀(i:Nat) (e:List AV) (v:c.den),el[i]?=some e->l[i]?=some v->CC e (c.enc v)
def CT(X:YtI)(pl:Pl)(cs:List TV)(as:List AV):Prop:=
 cs.length=as.length/\ ∀(j:Nat) (c:TV) (a:AV),cs[j]?=some c->as[j]?=some a->TR X pl c a
def Hd.obj:Hd->List (List AV)->AObj
 | .rw A _,el=>⟨A.width+1,el⟩
 | .mp _ n,el=>⟨3,[[.v (.int .i64 n),.rd 3 el,.v (.bool false)]]⟩
def ElR(pl:Pl)(H:Heap)(a:Nat)(hd:Hd)(c:Cs)(hole:Option Nat)(i:Nat)(e:List AV)(v:(sn c hd.A).den):Prop:=
 ∃d r,e=d++[r]/\CC d (hd.A.enc (da c hd.A v))/\ (hole≠some i->
  (∃y el',pl (.n a i)=some y/\r= .ref y 0 (ow c hd.A v).length/\H[y]?=some (some ⟨c.width,el'⟩)/\Rows el' c (ow c hd.A v))\/
  (hd.nn=false/\pl (.n a i)=none/\ow c hd.A v=[]/\r= .emp))
def OR(X:YtI)(pl:Pl)(H:Heap)(a:Nat):VObj->Prop
 | .sq c l=> ∃x el,pl (.m a)=some x/\H[x]?=some (some ⟨c.width,el⟩)/\0<c.width/\Rows el c l
 | .fm hd c _ hole l=> ∃x el,pl (.m a)=some x/\H[x]?=some (some (hd.obj el))/\0<c.width/\el.length=l.length/\
   (∀(i:Nat) (e:List AV) (v:(sn c hd.A).den),el[i]?=some e->l[i]?=some v->ElR pl H a hd c hole i e v)
 | .st cs=> ∃x e,pl (.m a)=some x/\H[x]?=some (some ⟨cs.length,[e]⟩)/\0<cs.length/\CT X pl cs e
 | .sb s=> ∃x,pl (.m a)=some x/\H[x]?=some (some ⟨0,strA s⟩)
def Live(X:YtI):Pos->Prop
 | .m a=> ∃o,vget X a=some o
 | .n a i=> ∃hd c ver hole l,vget X a=some (.fm hd c ver hole l)/\i<l.length/\hole≠some i
structure HRel(Fr:Nat->Prop)(H0:Heap)(X:YtI)(pl:Pl)(H:Heap):Prop where
 obj: ∀a o,vget X a=some o->OR X pl H a o
 inj: ∀p q x,pl p=some x->pl q=some x->p=q
 own: ∀p x,pl p=some x->Live X p
 fr: ∀x,Fr x->x<H0.length/\H[x]?=H0[x]?
 nfr: ∀p x,pl p=some x-> ¬Fr x
 le:H0.length<=H.length
structure Ext(X:YtI)(pl:Pl)(X':YtI)(pl':Pl):Prop where
 le:X.length<=X'.length
 keep: ∀a,a<X.length->vget X' a=none\/ ∃o o',vget X a=some o/\vget X' a=some o'/\elN o'=elN o/\lenO o'=lenO o/\pl' (.m a)=pl (.m a)/\isFm o'=isFm o/\
  ∀hd c ver hole l,o'= .fm hd c ver hole l-> ∃hd0 ver0 hole0 l0,o= .fm hd0 c ver0 hole0 l0/\ (ver0<ver\/(ver0=ver/\ (hole=none->hole0=none/\l.length=l0.length/\ ∀i,(owI hd c l i).length=(owI hd0 c l0 i).length/\pl' (.n a i)=pl (.n a i))))
theorem Yab: ∀{X:YtI} {a:Nat} {o:VObj},vget X a=some o->a<X.length
 | [],_,_,h=>by trivial
 |_::_,0,_,_=>by simp
 |_::r,a+1,o,h=>by simp only[vget]at h;have:=Yab h;simp_all
theorem Ext.sub{X:YtI}{pl:Pl}{X':YtI}{pl':Pl}(hx:Ext X pl X' pl'){a ver:Nat}{hd:Hd}{c:Cs}{l:List (sn c hd.A).den}(h:vget X a=some (.fm hd c ver none l)):
  YvR X' a ver\/ ∃hd' l',vget X' a=some (.fm hd' c ver none l')/\l'.length=l.length/\ ∀i,(owI hd' c l' i).length=(owI hd c l i).length/\pl' (.n a i)=pl (.n a i):=by
 rcases hx.keep a (Yab h)with h'| ⟨o1,o',h1,h2,h3,h4,h5,h7,h6⟩
 ·exact .inl (fun o ho=>by simp_all)
 ·rw[h]at h1;injection h1 with h1;subst h1
  cases o' with
  |sq c' l'=>cases h7
  |st cs=>cases h7
  |sb s=>cases h7
  |fm hd' c' ver' hole' l'=>
   obtain⟨hd0,ver0,hole0,l0,e1,e3⟩:=h6 hd' c' ver' hole' l' rfl
   injection e1 with e0 e1 e5 e6 e4
   subst e0;subst e1;subst e5;subst e6
   have e4:=eq_of_heq e4;subst e4
   rcases e3 with e3| ⟨rfl,e3⟩
   ·exact .inl (fun o ho=>by rw[h2]at ho;injection ho with ho;subst ho;exact⟨_,_,_,_,_,rfl,.inl e3⟩)
   ·cases hole' with
    |none=>exact .inr ⟨hd',l',h2,(e3 rfl).2.1,(e3 rfl).2.2⟩
    |some q=>exact .inl (fun o ho=>by rw[h2]at ho;injection ho with ho;subst ho;exact⟨_,_,_,_,_,rfl,.inr ⟨rfl,by simp⟩⟩)
theorem Ext.dead{X:YtI}{pl:Pl}{X':YtI}{pl':Pl}(hx:Ext X pl X' pl'){a ver:Nat}(ha:a<X.length)(h:YvR X a ver):YvR X' a ver:=by
 intro o ho
 rcases hx.keep a ha with h'| ⟨o1,o',h1,h2,h3,h4,h5,h7,h6⟩
 ·simp_all
 ·rw[h2]at ho;injection ho with ho;subst ho
  obtain⟨hd,c,ver',hole,l,rfl,hd⟩:=h o1 h1
  cases o' with
  |sq c' l'=>cases h7
  |st cs=>cases h7
  |sb s=>cases h7
  |fm hd' c' ver2 hole' l'=>
   obtain⟨hd0,ver0,hole0,l0,e1,e3⟩:=h6 hd' c' ver2 hole' l' rfl
   injection e1 with e0 e1 e5 e6 e4
   subst e0;subst e1;subst e5;subst e6
   refine⟨_,_,_,_,_,rfl,?_⟩
   rcases e3 with e3| ⟨rfl,e3⟩
   ·omega
   ·rcases hd with hd| ⟨rfl,hd⟩
    ·exact .inl hd
    ·refine .inr ⟨rfl,fun e=>hd (e3 e).1⟩
theorem TR.ext{X:YtI}{pl:Pl}{X':YtI}{pl':Pl}(hx:Ext X pl X' pl'){v:TV}{a:AV}(h:TR X pl v a):TR X' pl' v a:=by
 induction h with
 |i k n=>exact .i k n
 |b x=>exact .b x
 |s x=>exact .s x
 |l c v a h=>exact .l c v a h
 |e c=>exact .e c
 |u a=>exact .u a
 |v x=>exact .v x
 |nl=>exact .nl
 |eft=>exact .eft
 |eff=>exact .eff
 |ref a x o n h hn hp=>
  rcases hx.keep a (Yab h)with h'| ⟨o1,o',h1,h2,h3,h4,h5,_,_⟩
  ·exact .refD _ _ h' (Yxw (Yab h) hx.le)
  ·rw[h]at h1;injection h1 with h1;subst h1
   exact .ref a x o' n h2 (h4.trans hn) (h5.trans hp)
 |refD a av h ha=>
  rcases hx.keep a ha with h'| ⟨o1,o',h1,_⟩
  ·exact .refD _ _ h' (Yxw ha hx.le)
  simp_all
 |pre a x m o n h hn hp h0 hm=>
  rcases hx.keep a (Yab h)with h'| ⟨o1,o',h1,h2,h3,h4,h5,_,_⟩
  ·exact .preD _ _ _ h' (Yxw (Yab h) hx.le) h0
  ·rw[h]at h1;injection h1 with h1;subst h1
   exact .pre a x m o' n h2 (h4.trans hn) (h5.trans hp) h0 hm
 |preD a x m h ha h0=>
  rcases hx.keep a ha with h'| ⟨o1,o',h1,_⟩
  ·exact .preD _ _ _ h' (Yxw ha hx.le) h0
  simp_all
 |sub a ver i y hd c l h hi hp=>
  have hlt:=Yxw (Yab h) hx.le
  rcases hx.sub h with hd| ⟨hd',l',h1,h2,h3⟩
  ·exact .subD _ _ _ _ hd hlt
  ·rw[<-(h3 i).1]
   exact .sub a ver i y hd' c l' h1 (by omega) ((h3 i).2.trans hp)
 |sube a ver i hd c l h hp h0=>
  have hlt:=Yxw (Yab h) hx.le
  rcases hx.sub h with hd| ⟨hd',l',h1,h2,h3⟩
  ·exact .subD _ _ _ _ hd hlt
  ·refine .sube a ver i hd' c l' h1 ((h3 i).2.trans hp) (YwZ.1 ?_)
   rw[(h3 i).1,h0];rfl
 |subD a ver i av h ha=>exact .subD _ _ _ _ (hx.dead ha h) (Yxw ha hx.le)
 |ptr a i j x o h hi hp=>
  rcases hx.keep a (Yab h)with h'| ⟨o1,o',h1,h2,h3,h4,h5,_,_⟩
  ·exact .ptrD _ _ _ _ h' (Yxw (Yab h) hx.le)
  ·rw[h]at h1;injection h1 with h1;subst h1
   exact .ptr a i j x o' h2 (by omega) (h5.trans hp)
 |ptrD a i j av h ha=>
  rcases hx.keep a ha with h'| ⟨o1,o',h1,_⟩
  ·exact .ptrD _ _ _ _ h' (Yxw ha hx.le)
  simp_all
 |pti a ver i k j y hd c l h hi hk hp=>
  have hlt:=Yxw (Yab h) hx.le
  rcases hx.sub h with hd| ⟨hd',l',h1,h2,h3⟩
  ·exact .ptiD _ _ _ _ _ _ hd hlt
  ·exact .pti a ver i k j y hd' c l' h1 (by omega) (by have:=(h3 i).1;omega) ((h3 i).2.trans hp)
 |ptiD a ver i k j av h ha=>exact .ptiD _ _ _ _ _ _ (hx.dead ha h) (Yxw ha hx.le)
 |np a x o h hp=>
  rcases hx.keep a (Yab h)with h'| ⟨o1,o',h1,h2,h3,h4,h5,_,_⟩
  ·exact .npD _ _ h' (Yxw (Yab h) hx.le)
  ·exact .np a x o' h2 (h5.trans hp)
 |npD a av h ha=>
  rcases hx.keep a ha with h'| ⟨o1,o',h1,_⟩
  ·exact .npD _ _ h' (Yxw ha hx.le)
  simp_all
 |rp cs as hl h ih=>exact .rp cs as hl ih
 |lt es cs as hl h0 hz hz' h ih=>exact .lt es cs as hl h0 hz hz' ih
 |ag cs as hl h ih=>exact .ag cs as hl ih
 |tp cs as hl h ih=>exact .tp cs as hl ih
 |clo g cs as hl h ih=>exact .clo g cs as hl ih
theorem CT.ext{X:YtI}{pl:Pl}{X':YtI}{pl':Pl}(hx:Ext X pl X' pl'){cs:List TV}{as:List AV}(h:CT X pl cs as):CT X' pl' cs as:=
 ⟨h.1,fun j c a h1 h2=>(h.2 j c a h1 h2).ext hx⟩
theorem Ext.refl(X:YtI)(pl:Pl):Ext X pl X pl:=by
 refine⟨Yxs _,fun a _=> ?_⟩
 cases h:vget X a with
 |none=>simp
 |some o=>grind
theorem Ext.trans{A:YtI}{p:Pl}{B:YtI}{q:Pl}{C:YtI}{r:Pl}(h:Ext A p B q)(k:Ext B q C r):Ext A p C r:=by
 refine⟨Yxy h.le k.le,fun a ha=> ?_⟩
 rcases k.keep a (Yxw ha h.le)with k'| ⟨o2,o3,k1,k2,k3,k4,k5,k7,k6⟩
 ·simp_all
 ·rcases h.keep a ha with h'| ⟨o1,o2',h1,h2,h3,h4,h5,h7,h6⟩
  ·simp_all
  ·rw[k1]at h2;injection h2 with h2;subst h2
   refine .inr ⟨o1,o3,h1,k2,k3.trans h3,k4.trans h4,k5.trans h5,k7.trans h7,fun hd c ver hole l e=> ?_⟩
   obtain⟨hd0,v0,q0,l0,e1,e3⟩:=k6 hd c ver hole l e
   obtain⟨hd1,v1,q1,l1,f1,f3⟩:=h6 hd0 c v0 q0 l0 e1
   refine⟨hd1,v1,q1,l1,f1,?_⟩
   rcases e3 with e3| ⟨rfl,e3⟩<;>rcases f3 with f3| ⟨rfl,f3⟩
   ·exact .inl (by omega)
   ·exact .inl e3
   ·exact .inl f3
   ·refine .inr ⟨rfl,fun hn=> ?_⟩
    obtain⟨g1,g2,g3⟩:=e3 hn
    obtain⟨g4,g5,g6⟩:=f3 g1
    exact⟨g4,g2.trans g5,fun i=>⟨(g3 i).1.trans (g6 i).1,(g3 i).2.trans (g6 i).2⟩⟩
end Go.Abs
namespace Go.Abs
open Go Go.RowKit
theorem Yac: ∀(X:YtI) (a:Nat) (o:Option VObj),(vset X a o).length=X.length
 | [],_,_=>rfl
 |_::_,0,_=>rfl
 |_::r,a+1,o=>by simp[vset,Yac r a o]
theorem Yam: ∀{X:YtI} {a:Nat} (o:Option VObj),a<X.length->vget (vset X a o) a=o
 |_::_,0,_,_=>rfl
 |_::r,a+1,o,h=>by simp only[vset,vget];exact Yam o (by simp_all)
theorem Yak: ∀{X:YtI} {a b:Nat} (o:Option VObj),a≠b->vget (vset X a o) b=vget X b
 | [],_,_,_,_=>rfl
 |_::_,0,0,_,h=>absurd rfl h
 |_::_,0,_+1,_,_=>rfl
 |_::_,_+1,0,_,_=>rfl
 |_::r,a+1,b+1,o,h=>by simp only[vset,vget];exact Yak o (by omega)
theorem Yap: ∀{X:YtI} {Y:YtI} {a:Nat},a<X.length->vget (X++Y) a=vget X a
 |_::_,_,0,_=>rfl
 |_::r,Y,a+1,h=>by simp;exact Yap (by simp_all)
theorem Yal: ∀(X:YtI) (o:Option VObj),vget (X++[o]) X.length=o
 | [],_=>rfl
 |_::r,o=>by exact Yal r o
theorem Yar: ∀{X:YtI} {a:Nat},X.length<=a->vget X a=none
 | [],_,_=>rfl
 |_::r,0,h=>by grind
 |_::r,a+1,h=>by simp only[vget];exact Yar (by simp_all)
def plS(pl:Pl)(p:Pos)(x:Option Nat):Pl:=fun q=>if q=p then x else pl q
def Pos.of:Pos->Nat
 | .m a=>a
 | .n a _=>a
def plK(pl:Pl)(a:Nat):Pl:=fun q=>if q.of=a then none else pl q
section
variable{Fr:Nat->Prop}{H0:Heap}{X:YtI}{pl:Pl}{H:Heap}
theorem HRel.lt(hr:HRel Fr H0 X pl H){p:Pos}{x:Nat}(hp:pl p=some x): ∃o,H[x]?=some (some o):=by
 have hl:=hr.own p x hp
 cases p with
 |m a=>
  obtain⟨o,ho⟩:=hl
  have:=hr.obj a o ho
  cases o with
  |sq c l=>obtain⟨y,el,h1,h2,_⟩:=this;simp_all
  |fm hd c ver hole l=>obtain⟨y,el,h1,h2,_⟩:=this;simp_all
  |st cs=>obtain⟨y,el,h1,h2,_⟩:=this;simp_all
  |sb s=>obtain⟨y,h1,h2⟩:=this;simp_all
 |n a i=>
  obtain⟨hd,c,ver,hole,l,ho,hi,hne⟩:=hl
  obtain⟨y,el,h1,h2,h3,h4,h6⟩:=hr.obj a _ ho
  have hi':i<el.length:=by omega
  obtain⟨d,r,_,_,k⟩:=h6 i el[i] l[i] (YwO hi') (YwO hi)
  rcases k hne with⟨y',el',k1,_,k3,_⟩| ⟨_,k1,_⟩
  ·simp_all
  simp_all
theorem HRel.bd(hr:HRel Fr H0 X pl H){p:Pos}{x:Nat}(hp:pl p=some x):x<H.length:=by
 obtain⟨o,ho⟩:=hr.lt hp
 grind
theorem HRel.dead(hr:HRel Fr H0 X pl H){p:Pos}(h:vget X p.of=none):pl p=none:=by
 cases hp:pl p with
 |none=>rfl
 |some x=>
  have:=hr.own p x hp
  cases p with
  |m a=>obtain⟨o,ho⟩:=this;simp only[Pos.of]at h;simp_all
  |n a i=>obtain⟨_,_,_,_,_,ho,_⟩:=this;simp only[Pos.of]at h;simp_all
theorem OR.keep{X':YtI}{pl':Pl}{H':Heap}{a:Nat}{o:VObj}(h:OR X pl H a o)(hx:Ext X pl X' pl')(hp: ∀p,p.of=a->pl' p=pl p)
  (hH: ∀p x,p.of=a->pl p=some x->H'[x]?=H[x]?):OR X' pl' H' a o:=by
 cases o with
 |sq c l=>
  obtain⟨x,el,h1,h2,h3,h4⟩:=h
  exact⟨x,el,(hp _ rfl).trans h1,(hH _ x rfl h1).trans h2,h3,h4⟩
 |fm hd c ver hole l=>
  obtain⟨x,el,h1,h2,h3,h4,h6⟩:=h
  refine⟨x,el,(hp _ rfl).trans h1,(hH _ x rfl h1).trans h2,h3,h4,fun i e v k1 k2=> ?_⟩
  obtain⟨d,r,q1,q2,q3⟩:=h6 i e v k1 k2
  refine⟨d,r,q1,q2,fun k3=> ?_⟩
  rcases q3 k3 with⟨y,el',g1,g2,g3,g4⟩| ⟨g0,g1,g2,g3⟩
  ·exact .inl ⟨y,el',(hp _ rfl).trans g1,g2,(hH _ y rfl g1).trans g3,g4⟩
  ·exact .inr ⟨g0,(hp _ rfl).trans g1,g2,g3⟩
 |st cs=>
  obtain⟨x,e,h1,h2,h3,h4⟩:=h
  exact⟨x,e,(hp _ rfl).trans h1,(hH _ x rfl h1).trans h2,h3,h4.ext hx⟩
 |sb s=>
  obtain⟨x,h1,h2⟩:=h
  exact⟨x,(hp _ rfl).trans h1,(hH _ x rfl h1).trans h2⟩
theorem Yas(hr:HRel Fr H0 X pl H)(o:VObj)(O:AObj)(ho:Ext X pl (X++[some o]) (plS pl (.m X.length) (some H.length))->OR (X++[some o]) (plS pl (.m X.length) (some H.length)) (H++[some O]) X.length o):
  HRel Fr H0 (X++[some o]) (plS pl (.m X.length) (some H.length)) (H++[some O])/\Ext X pl (X++[some o]) (plS pl (.m X.length) (some H.length)):=by
 have hx:Ext X pl (X++[some o]) (plS pl (.m X.length) (some H.length)):=by
  refine⟨by simp,fun a ha=> ?_⟩
  have hne:(Pos.m a:Pos)≠ .m X.length:=fun e=>by simp_all
  cases h:vget X a with
  |none=>exact .inl (by rw[Yap ha];exact h)
  |some o1=>
   refine .inr ⟨o1,o1,rfl,by rw[Yap ha];exact h,rfl,rfl,by unfold plS;simp_all,rfl,fun hd c ver hole l e=>⟨hd,ver,hole,l,e,.inr ⟨rfl,fun h=>⟨h,rfl,fun i=>⟨rfl,by rfl⟩⟩⟩⟩⟩
 refine⟨⟨fun a o1 h1=> ?_,fun p q x hp hq=> ?_,fun p x hp=> ?_,fun x hx'=> ?_,fun p x hp=> ?_,?_⟩,hx⟩
 ·by_cases e:a=X.length
  ·subst e
   rw[Yal]at h1;simp_all
  ·have ha:a<X.length:=by
    have:=Yab h1;grind
   rw[Yap ha]at h1
   refine(hr.obj a o1 h1).keep hx (fun p hp=> ?_) (fun p x hp hpx=> ?_)
   ·unfold plS;rw[if_neg (fun h=>e (by subst h;exact hp.symm))]
   ·rw[YwU (hr.bd hpx)]
 ·unfold plS at hp hq
  split at hp<;>split at hq
  ·simp_all
  ·injection hp with hp;subst hp;have:=hr.bd hq;omega
  ·injection hq with hq;subst hq;have:=hr.bd hp;omega
  ·exact hr.inj p q x hp hq
 ·unfold plS at hp
  split at hp
  ·rename_i h;subst h;exact⟨o,Yal X _⟩
  ·have:=hr.own p x hp
   cases p with
   |m a=>obtain⟨o1,h1⟩:=this;exact⟨o1,by rw[Yap (Yab h1)];exact h1⟩
   |n a i=>obtain⟨hd,c,ver,hole,l,h1,h2⟩:=this;exact⟨hd,c,ver,hole,l,by rw[Yap (Yab h1)];exact h1,h2⟩
 ·have h1:=hr.fr x hx'
  grind
 ·unfold plS at hp
  split at hp
  ·injection hp with hp;subst hp;intro hf;have:=(hr.fr _ hf).1;have:=hr.le;omega
  ·exact hr.nfr p x hp
 ·have:=hr.le;grind
theorem YcM(hr:HRel Fr H0 X pl H){a x:Nat}{o:VObj}(ha:vget X a=some o)(hp:pl (.m a)=some x):
  HRel Fr H0 (vset X a none) (plK pl a) (H.set x none)/\Ext X pl (vset X a none) (plK pl a):=by
 have hal:=Yab ha
 have hx:Ext X pl (vset X a none) (plK pl a):=by
  refine⟨by rw[Yac];omega,fun b hb=> ?_⟩
  by_cases e:b=a
  ·subst e;exact .inl (Yam _ hal)
  ·rw[Yak _ (Ne.symm e)]
   cases h:vget X b with
   |none=>simp
   |some o1=>exact .inr ⟨o1,o1,rfl,rfl,rfl,rfl,by unfold plK;rw[if_neg (by trivial)],rfl,fun hd c ver hole l e'=>⟨hd,ver,hole,l,e',.inr ⟨rfl,fun h=>⟨h,rfl,fun i=>⟨rfl,by unfold plK;rw[if_neg (by trivial)]⟩⟩⟩⟩⟩
 have hk: ∀{p y},plK pl a p=some y->p.of≠a/\pl p=some y:=by
  intro p y h
  unfold plK at h
  simp_all
 have hyx: ∀{p y},p.of≠a->pl p=some y->y≠x:=fun h1 h2 e=>by
  subst e
  have:=hr.inj _ _ _ h2 hp
  subst this;trivial
 refine⟨⟨fun b o1 h1=> ?_,fun p q y h1 h2=>hr.inj p q y (hk h1).2 (hk h2).2,fun p y h1=> ?_,fun y hy=> ?_,fun p y h1=>hr.nfr p y (hk h1).2,by have:=hr.le;simp_all⟩,hx⟩
 ·have hb:b≠a:=fun e=>by subst e;rw[Yam _ hal]at h1;cases h1
  rw[Yak _ (Ne.symm hb)]at h1
  refine(hr.obj b o1 h1).keep hx (fun p hpb=> ?_) (fun p y hpb hpy=> ?_)
  ·unfold plK;simp_all
  grind
 ·obtain⟨h2,h3⟩:=hk h1
  have:=hr.own p y h3
  cases p with
  |m b=>obtain⟨o1,k1⟩:=this;exact⟨o1,by rw[Yak _ (show a≠b from fun e=>h2 e.symm)];exact k1⟩
  |n b i=>obtain⟨hd,c,ver,hole,l,k1,k2⟩:=this;exact⟨hd,c,ver,hole,l,by rw[Yak _ (show a≠b from fun e=>h2 e.symm)];exact k1,k2⟩
 ·have h1:=hr.fr y hy
  refine⟨h1.1,?_⟩
  rw[YwV (fun e=>hr.nfr _ _ hp (by simp_all))]
  grind
theorem Yb2(hr:HRel Fr H0 X pl H){a x:Nat}{o o':VObj}(ha:vget X a=some o)(hp:pl (.m a)=some x)(O:AObj)(hn:elN o'=elN o)(hl:lenO o'=lenO o)(hnf: ∀hd c v h l,o'≠ .fm hd c v h l)(hnf0: ∀hd c v h l,o≠ .fm hd c v h l)
  (ho:Ext X pl (vset X a (some o')) pl->OR (vset X a (some o')) pl (H.set x (some O)) a o'):
  HRel Fr H0 (vset X a (some o')) pl (H.set x (some O))/\Ext X pl (vset X a (some o')) pl:=by
 have hal:=Yab ha
 have hx:Ext X pl (vset X a (some o')) pl:=by
  refine⟨by rw[Yac];omega,fun b hb=> ?_⟩
  by_cases e:b=a
  ·subst e;exact .inr ⟨o,o',ha,Yam _ hal,hn,hl,rfl,by cases o<;>cases o'<;>first|rfl|grind|grind,fun hd c ver hole l e=>absurd e (hnf _ _ _ _ _)⟩
  ·rw[Yak _ (Ne.symm e)]
   cases h:vget X b with
   |none=>simp
   |some o1=>grind
 have hno: ∀{p y},p.of=a->pl p=some y->p= .m a:=by
  intro p y h1 h2
  have:=hr.own p y h2
  cases p with
  |m b=>simp only[Pos.of]at h1;rw[h1]
  |n b i=>
   simp only[Pos.of]at h1;subst h1
   obtain⟨hd,c,v,h,l,k,_⟩:=this
   grind
 refine⟨⟨fun b o1 h1=> ?_,hr.inj,fun p y h1=> ?_,fun y hy=> ?_,hr.nfr,by have:=hr.le;simp_all⟩,hx⟩
 ·by_cases e:b=a
  ·subst e
   rw[Yam _ hal]at h1;simp_all
  ·rw[Yak _ (Ne.symm e)]at h1
   refine(hr.obj b o1 h1).keep hx (fun p _=>rfl) (fun p y hpb hpy=> ?_)
   rw[YwV (fun e'=>e (by subst e';have:=hr.inj _ _ _ hpy hp;subst this;exact hpb.symm))]
 ·have:=hr.own p y h1
  by_cases e:p.of=a
  ·have:=hno e h1;subst this;exact⟨o',Yam _ hal⟩
  ·cases p with
   |m b=>obtain⟨o1,k1⟩:=this;exact⟨o1,by rw[Yak _ (show a≠b from fun e'=>e e'.symm)];exact k1⟩
   |n b i=>obtain⟨hd,c,ver,hole,l,k1,k2⟩:=this;exact⟨hd,c,ver,hole,l,by rw[Yak _ (show a≠b from fun e'=>e e'.symm)];exact k1,k2⟩
 ·have h1:=hr.fr y hy
  refine⟨h1.1,?_⟩
  rw[YwV (fun e=>hr.nfr _ _ hp (by simp_all))]
  grind
end
end Go.Abs
namespace Go.Abs
open Go Go.RowKit
def K1.av:K1->AV
 | .i k n=>.v (.int k n)
 | .b x=>.v (.bool x)
 | .s x=>.v (.string x)
 | .e _=>.emp
 | .v x=>.v x
 | .nl=>.v (.pointer none)
def K1.val:K1->Value
 | .i k n=>.int k n
 | .b x=>.bool x
 | .s x=>.string x
 | .e _=>.slice none 0 0
 | .v x=>x
 | .nl=>.pointer none
def KC.av:KC->AV
 | .one k=>k.av
 | .ag l=>.agg (l.map K1.av)
 | .tp l=>.tup (l.map K1.av)
 | .f g=>.clo g []
 | .v x=>.v x
def VOpd.er:VOpd->Opd
 | .t n=>.t n
 | .c k=>.c k.av
theorem Yh9{k:K1}(h:k.ok=true):zc k.val=k.av:=by
 cases k with
 |v x=>cases x<;>first|rfl|cases h
 |_=>rfl
theorem CT.nil{X:YtI}{pl:Pl}:CT X pl [] []:=⟨rfl,fun j c a h=>by simp⟩
theorem CT.cons{X:YtI}{pl:Pl}{c:TV}{cs:List TV}{a:AV}{as:List AV}(h:TR X pl c a)(k:CT X pl cs as):CT X pl (c::cs) (a::as):=by
 refine⟨by simp[k.1],fun j c' a' h1 h2=> ?_⟩
 cases j with
 |zero=>simp_all
 |succ j=>exact k.2 j c' a' h1 h2
theorem CT.inv{X:YtI}{pl:Pl}{c:TV}{cs:List TV}{as:List AV}(h:CT X pl (c::cs) as): ∃a r,as=a::r/\TR X pl c a/\CT X pl cs r:=by
 cases as with
 |nil=>have:=h.1;trivial
 |cons a r=>exact⟨a,r,rfl,h.2 0 c a rfl rfl,by simpa using h.1,fun j c' a' h1 h2=>h.2 (j+1) c' a' h1 h2⟩
theorem CT.get{X:YtI}{pl:Pl}{cs:List TV}{as:List AV}(h:CT X pl cs as){j:Nat}{c:TV}(hj:cs[j]?=some c): ∃a,as[j]?=some a/\TR X pl c a:=by
 have hl:j<cs.length:=(YwP.1 hj).1
 have hl':j<as.length:=by rw[<-h.1];exact hl
 exact⟨as[j],YwO hl',h.2 j c _ hj (YwO hl')⟩
theorem CT.take{X:YtI}{pl:Pl}{cs:List TV}{as:List AV}(h:CT X pl cs as)(n:Nat):CT X pl (cs.take n) (as.take n):=by
 refine⟨by simp[h.1],fun j c a h1 h2=> ?_⟩
 rw[Yw8]at h1 h2
 split at h1
 ·rename_i hj;rw[if_pos hj]at h2;exact h.2 j c a h1 h2
 trivial
theorem CT.drop{X:YtI}{pl:Pl}{cs:List TV}{as:List AV}(h:CT X pl cs as)(n:Nat):CT X pl (cs.drop n) (as.drop n):=by
 refine⟨by simp[h.1],fun j c a h1 h2=> ?_⟩
 rw[Yxh]at h1 h2
 exact h.2 _ c a h1 h2
theorem CT.append{X:YtI}{pl:Pl}{cs ds:List TV}{as bs:List AV}(h:CT X pl cs as)(k:CT X pl ds bs):CT X pl (cs++ds) (as++bs):=by
 refine⟨by simp[h.1,k.1],fun j c a h1 h2=> ?_⟩
 by_cases hj:j<cs.length
 ·rw[YwU hj]at h1
  rw[YwU (by rw[<-h.1];exact hj)]at h2
  exact h.2 j c a h1 h2
 ·rw[Yw0 (by omega)]at h1
  rw[Yw0 (by rw[<-h.1];omega),<-h.1]at h2
  exact k.2 _ c a h1 h2
theorem CT.spl{X:YtI}{pl:Pl}{l cs:List TV}{as bs:List AV}(h:CT X pl l as)(k:CT X pl cs bs)(j:Nat):CT X pl (spl l j cs) (splice as j bs):=by
 unfold Go.Abs.spl splice
 rw[<-k.1]
 exact((h.take j).append k).append (h.drop _)
theorem CT.map1{X:YtI}{pl:Pl}(l:List K1):CT X pl (l.map K1.tv) (l.map K1.av):=by
 induction l with
 |nil=>exact .nil
 |cons k r ih=>
  refine .cons ?_ ih
  cases k<;>first|exact .i _ _|exact .b _|exact .s _|exact .e _|exact .v _|exact .nl
section
variable{X:YtI}{pl:Pl}
theorem YnE(k:KC):TR X pl k.tv k.av:=by
 cases k with
 |one k=>cases k<;>first|exact .i _ _|exact .b _|exact .s _|exact .e _|exact .v _|exact .nl
 |ag l=>have h:=CT.map1 (X:=X) (pl:=pl) l;exact .ag _ _ h.1 h.2
 |tp l=>have h:=CT.map1 (X:=X) (pl:=pl) l;exact .tp _ _ h.1 h.2
 |f g=>exact .clo g _ _ rfl (fun j c a h=>by simp)
 |v x=>exact .v x
def ERel(X:YtI)(pl:Pl)(env:VEnv)(ae:Env):Prop:= ∀t,TR X pl (YtT env t) (YtM ae t)
theorem ERel.ext{X':YtI}{pl':Pl}{env:VEnv}{ae:Env}(h:ERel X pl env ae)(hx:Ext X pl X' pl'):ERel X' pl' env ae:=fun t=>(h t).ext hx
theorem Yat{env:VEnv}{ae:Env}(h:ERel X pl env ae)(x:VOpd):TR X pl (vo env x) (opd ae x.er):=by
 cases x with
 |t n=>exact h n
 |c k=>exact YnE k
theorem YaZ{a:AV}{es:Nat}{l:List (List AV)}(h:Coe a (.rd es l)):(a= .emp/\l=[])\/ ∃l0,a= .rd es l0/\l0.length=l.length/\ ∀(i:Nat) (e e':List AV),l0[i]?=some e->l[i]?=some e'->CC e e':=by
 generalize hb:AV.rd es l=b at h
 cases h with
 |refl=>subst hb;exact .inr ⟨l,rfl,rfl,fun i e e' h1 h2=>by rw[h1]at h2;injection h2 with h2;subst h2;exact⟨rfl,fun j x x' h3 h4=>by rw[h3]at h4;injection h4 with h4;subst h4;exact .refl _⟩⟩
 |empRd es=>simp_all
 |rd es l0 l' hl hz h=>injection hb with h1 h2;subst h1;subst h2;exact .inr ⟨l0,rfl,hl,fun i e e' h1 h2=>⟨hz i e e' h1 h2,fun j x x' h3 h4=>h i e e' j x x' h1 h2 h3 h4⟩⟩
 |_=>cases hb
theorem YaF{a:AV}{x:Value}(h:Coe a (.v x)):a= .v x:=by cases h;rfl
theorem YnF{t:Ty}{v:t.den}{a:AV}(h:Coe a (t.enc v)):TR X pl (tvOf t v) a:=by
 cases t with
 |i k=>rw[YaF h];exact .i _ _
 |b=>rw[YaF h];exact .b _
 |s=>rw[YaF h];exact .s _
 |l c=>exact .l c v a h
theorem Ybb: ∀(c:Cs) (v:c.den) {e:List AV},CC e (c.enc v)->CT X pl (cells c v) e
 | .nil,v,e,h=>by
   have:=h.1
   rw[YwZ.1 this];exact .nil
 | .cons t r,v,e,h=>by
   cases e with
   |nil=>have:=h.1;trivial
   |cons a as=>
    refine .cons (YnF (h.2 0 a _ rfl (by rfl))) (Ybb r _ ⟨by have:=h.1;simpa[Cs.enc]using this,fun j x x' h1 h2=>h.2 (j+1) x x' h1 (by trivial)⟩)
theorem Yaz{c c':Cs}{l:List c.den}{l':List c'.den}(h:asL c c' l=some l'): ∃e:c=c',e▸l=l':=by
 obtain⟨e,h1⟩:=Ty.cast_some h
 grind
theorem Yaa{β:Type}{b:Bool}{x:Option β}{r:β}(h:(bif b then x else none)=some r):b=true/\x=some r:=by
 grind
theorem Yia{t:Ty}{tv:TV}{a:AV}{x:t.den}(h:toD t tv=some x)(hr:TR X pl tv a):Coe a (t.enc x):=by
 cases t with
 |i k=>
  cases tv with
  |i k' n=>
   obtain⟨h1,h2⟩:=Yaa (b:=decide (k'=k)) (x:=some n) (by exact h)
   have:=of_decide_eq_true h1;subst this
   injection h2 with h2;subst h2
   cases hr;exact .refl _
  |_=>cases h
 |b=>
  cases tv with
  |b y=>injection h with h;subst h;cases hr;exact .refl _
  |_=>cases h
 |s=>
  cases tv with
  |s y=>injection h with h;subst h;cases hr;exact .refl _
  |_=>cases h
 |l c=>
  cases tv with
  |l c' v=>
   obtain⟨e,h1⟩:=Yaz (c:=c') (c':=c) (l:=v) (l':=x) h
   subst e;subst h1
   cases hr with
   |l _ _ _ h=>exact h
  |e c'=>
   obtain⟨h1,h2⟩:=Yaa h
   injection h2 with h2;subst h2
   cases hr;exact .empRd _
  |_=>cases h
theorem Ybc: ∀{c:Cs} {cs:List TV} {as:List AV} {v:c.den},pack c cs=some v->CT X pl cs as->CC as (c.enc v)
 | .nil,[],as,v,h,hc=>by
   have:=hc.1
   cases as with
   |nil=>exact⟨rfl,fun j x x' h=>by grind⟩
   |cons _ _=>trivial
 | .cons t r,a::cs,as,v,h,hc=>by
   obtain⟨b,bs,rfl,h1,h2⟩:=hc.inv
   simp only[pack]at h
   split at h
   ·rename_i x y hx hy
    injection h with h;subst h
    have k1:=Yia hx h1
    have k2:=Ybc hy h2
    simp only[Cs.enc,Yba,YaS]
    refine⟨by simp[k2.1],fun j x x' g1 g2=> ?_⟩
    cases j with
    |zero=>simp_all
    |succ j=>exact k2.2 j x x' g1 g2
   trivial
 | .nil,_::_,_,_,h,_=>by trivial
 | .cons _ _,[],_,_,h,_=>by trivial
theorem Yib: ∀{c:Cs} {cs:List TV} {v:c.den},pack c cs=some v->cs.length=c.width
 | .nil,[],_,_=>rfl
 | .cons t r,a::cs,v,h=>by
   simp only[pack]at h
   split at h
   ·rename_i x y hx hy;simp only[Yxe,Cs.width,Yib hy]
   trivial
 | .nil,_::_,_,h=>by trivial
 | .cons _ _,[],_,h=>by trivial
def CE(X:YtI)(pl:Pl)(cs:List (List TV))(as:List (List AV)):Prop:=
 cs.length=as.length/\ ∀(i:Nat) (e:List TV) (f:List AV),cs[i]?=some e->as[i]?=some f->CT X pl e f
theorem YcN: ∀{c:Cs} {cs:List (List TV)} {as:List (List AV)} {l:List c.den},YuW c cs=some l->CE X pl cs as->Rows as c l
 |c,[],as,l,h,hc=>by
  injection h with h;subst h
  have:=hc.1
  cases as with
  |nil=>exact⟨rfl,fun i e v h=>by simp⟩
  |cons _ _=>trivial
 |c,a::cs,as,l,h,hc=>by
  cases as with
  |nil=>have:=hc.1;trivial
  |cons b bs=>
   simp only[YuW]at h
   split at h
   ·rename_i x y hx hy
    injection h with h;subst h
    have k1:=Ybc hx (hc.2 0 a b rfl rfl)
    have k2:=YcN hy (as:=bs) ⟨by simpa using hc.1,fun i e f h1 h2=>hc.2 (i+1) e f h1 h2⟩
    refine⟨by simp[k2.1],fun i e v h1 h2=> ?_⟩
    cases i with
    |zero=>simp_all
    |succ i=>exact k2.2 i e v h1 h2
   trivial
theorem Yff{tv:TV}{a:AV}{cs:List TV}(h:YtY X tv=some cs)(hr:TR X pl tv a): ∃as,cellsOf a=some as/\CT X pl cs as:=by
 have one: ∀{tv a},TR X pl tv a->CT X pl [tv] [a]:=fun h=>.cons h .nil
 cases tv with
 |i k n=>injection h with h;subst h;have hr':=hr;cases hr';exact⟨_,by rfl,one hr⟩
 |b x=>injection h with h;subst h;have hr':=hr;cases hr';exact⟨_,by rfl,one hr⟩
 |s x=>injection h with h;subst h;have hr':=hr;cases hr';exact⟨_,by rfl,one hr⟩
 |l c v=>
  injection h with h;subst h
  have hr':=hr
  cases hr' with
  |l _ _ _ hc=>
   rcases YaZ hc with⟨rfl,_⟩| ⟨l0,rfl,_⟩<;>exact⟨_,by rfl,one hr⟩
 |e c=>injection h with h;subst h;have hr':=hr;cases hr';exact⟨_,by rfl,one hr⟩
 |u=>trivial
 |ef x=>trivial
 |nl=>injection h with h;subst h;have hr':=hr;cases hr';exact⟨_,by rfl,one hr⟩
 |v x=>
  simp only[YtY]at h
  cases hx:x.oneCell' with
  |false=>simp_all
  |true=>simp[hx]at h;subst h;have hr':=hr;cases hr';exact⟨_,by simp[cellsOf,hx],one hr⟩
 |ref a=>
  simp only[YtY]at h
  cases ho:vget X a with
  |none=>simp_all
  |some o=>
   simp[ho]at h;subst h
   have hr':=hr
   cases hr' with
   |ref=>exact⟨_,by rfl,one hr⟩
   |refD _ _ h=>simp_all
 |pre a n=>
  simp only[YtY]at h
  cases ho:vget X a with
  |none=>simp_all
  |some o=>
   simp[ho]at h;subst h
   have hr':=hr
   cases hr' with
   |pre=>exact⟨_,by rfl,one hr⟩
   |preD _ _ _ h=>simp_all
 |ptr a i j=>
  simp only[YtY]at h
  cases ho:vget X a with
  |none=>simp_all
  |some o=>
   simp[ho]at h;subst h
   have hr':=hr
   cases hr' with
   |ptr=>exact⟨_,by rfl,one hr⟩
   |ptrD _ _ _ _ h=>simp_all
 |np a=>
  simp only[YtY]at h
  cases ho:vget X a with
  |none=>simp_all
  |some o=>
   simp[ho]at h;subst h
   have hr':=hr
   cases hr' with
   |np=>exact⟨_,by rfl,one hr⟩
   |npD _ _ h=>simp_all
 |sub _ _ _=>trivial
 |pti _ _ _ _ _=>trivial
 |lt _=>trivial
 |tp _=>trivial
 |ag ds=>injection h with h;subst h;cases hr with
  |ag _ as hl h=>exact⟨as,by rfl,hl,h⟩
 |rp ds=>simp only[YtY]at h;injection h with h;subst h;have hr':=hr;cases hr';exact⟨_,by rfl,one hr⟩
 |clo g ds=>simp only[YtY]at h;injection h with h;subst h;have hr':=hr;cases hr';exact⟨_,by rfl,one hr⟩
theorem Yic{g:Bool}{n:Nat}{cs:List TV}{as:List AV}{v:TV}{K:AV->Prop}(h:YuP g n cs=some v)(hc:CT X pl cs as)(hk: ∀a,TR X pl v a->K a):Yul g n as K:=by
 cases g with
 |true=>
  simp only[YuP]at h
  cases hn:Yxv n cs.length with
  |false=>simp_all
  |true=>
   rw[hn,cond_true]at h;injection h with h;subst h
   exact⟨by rw[<-hc.1];simp_all,hk _ (.ag _ _ (hc.take n).1 (hc.take n).2)⟩
 |false=>
  obtain⟨a,h1,h2⟩:=hc.get h
  exact⟨a,h1,hk a h2⟩
theorem Yah{β:Type}{p:Prop}[Decidable p]{x:Option β}{r:β}(h:chk p x=some r):p/\x=some r:=by
 unfold chk at h
 grind
theorem Yid(bs:ByteArray): ∀(m i:Nat) (r:List UInt8),bs.size-i=m->ByteArray.toList.loop bs i r=r.reverse++bs.data.toList.drop i
 |0,i,r,h=>by
  unfold ByteArray.toList.loop
  have h2: ¬i<bs.size:=by omega
  rw[if_neg h2,List.drop_of_length_le (by simp_all),List.append_nil]
 |m+1,i,r,h=>by
  unfold ByteArray.toList.loop
  have h2:i<bs.size:=by omega
  have h3:i<bs.data.toList.length:=by trivial
  rw[if_pos h2,Yid bs m (i+1) _ (by omega),Yxm h3]
  simp
  congr 2
  simp only[ByteArray.get!]
  simp_all
theorem Ya0(bs:ByteArray):bs.toList=bs.data.toList:=by
 have:=Yid bs _ 0 [] rfl
 trivial
theorem Yie(x y:ByteArray):(x.toList==y.toList)=decide (x=y):=by
 rw[YxN,beq_iff_eq,decide_eq_true_iff]
 constructor
 ·intro h
  have h2: ∀z:ByteArray,z.toList=z.data.toList:=fun z=>Ya0 z
  cases x;simp_all
 simp_all
variable{β:Type}{r:β}
theorem YnG{op:BinOp}{k:IntKind}{x y:Int}{K:TV->Option β}(h:vint op k x y K=some r){KA:Value->Prop}(hk: ∀w z,K w=some r->TR X pl w (.v z)->KA z):YuZ op k x y KA:=by
 cases op<;>simp only[vint]at h
 case quo=>obtain⟨h1,h2⟩:=Yah h;exact⟨h1,hk _ _ h2 (.i _ _)⟩
 case rem=>obtain⟨h1,h2⟩:=Yah h;exact⟨h1,hk _ _ h2 (.i _ _)⟩
 case shl=>obtain⟨h1,h2⟩:=Yah h;exact⟨h1,hk _ _ h2 (.i _ _)⟩
 case shr=>obtain⟨h1,h2⟩:=Yah h;exact⟨h1,hk _ _ h2 (.i _ _)⟩
 case eql=>exact hk _ _ h (.b _)
 case neq=>exact hk _ _ h (.b _)
 all_goals exact hk _ _ h (by constructor)
theorem YnH{op:BinOp}{x y:ByteArray}{K:TV->Option β}(h:vstr op x y K=some r){KA:Value->Prop}(hk: ∀w z,K w=some r->TR X pl w (.v z)->KA z):YuK op x y KA:=by
 cases op<;>simp only[vstr]at h
 case add=>obtain⟨h1,h2⟩:=Yah h;exact⟨Int.ofNat_le.2 (YxC h1),hk _ _ h2 (.s _)⟩
 all_goals first
  | (simp only[YuK,Yie];exact hk _ _ h (.b _))
  |cases h
theorem YnI{op:BinOp}{a b:TV}{va vb:AV}{K:TV->Option β}(h:vbin op a b K=some r)(ha:TR X pl a va)(hb:TR X pl b vb){KA:Value->Prop}
  (hk: ∀w z,K w=some r->TR X pl w (.v z)->KA z):binK op va vb KA:=by
 unfold vbin at h
 split at h
 ·obtain⟨h1,h2⟩:=Yaa h
  cases ha;cases hb
  exact⟨of_decide_eq_true h1,YnG h2 hk⟩
 ·cases ha;cases hb
  exact YnH h hk
 trivial
theorem Yif: ∀{ks:List Nat} {cs ds:List TV} {as bs:List AV} {x:Bool},eqV ks cs ds=some x->CT X pl cs as->CT X pl ds bs->eqL ks as bs=some x
 | [],[],[],as,bs,x,h,h1,h2=>by
   have k1:=h1.1;have k2:=h2.1
   cases as<;>cases bs<;>simp at k1 k2
   trivial
 |k::ks,a::cs,b::ds,as,bs,x,h,h1,h2=>by
  obtain⟨va,vas,rfl,g1,g2⟩:=h1.inv
  obtain⟨vb,vbs,rfl,g3,g4⟩:=h2.inv
  simp only[eqV]at h
  split at h
  ·rename_i x1 y1 hx hy
   simp only[eqL,Yif hy g2 g4]
   have:eqAV k va vb=some x1:=by
    unfold eqV1 at hx
    split at hx
    ·cases g1;cases g3;trivial
    ·obtain⟨e1,e2⟩:=Yaa hx
     have:=of_decide_eq_true e1;subst this
     cases g1;cases g3
     simp only[eqAV,if_true]
     trivial
    ·cases g1;cases g3
     simp only[eqAV,Yie];exact hx
    trivial
   simp_all
  trivial
 | [],[],_::_,_,_,_,h,_,_=>by trivial
 | [],_::_,_,_,_,_,h,_,_=>by trivial
 |_::_,[],_,_,_,_,h,_,_=>by trivial
 |_::_,_::_,[],_,_,_,h,_,_=>by trivial
theorem Yig{mx:Bool}{k:IntKind}: ∀{l:List TV} {as:List AV} {m:Int} {v:TV},mmV mx k m l=some v->CT X pl l as-> ∃a,mmF mx k m as=some a/\TR X pl v a
 | [],as,m,v,h,hc=>by
   have:=hc.1
   cases as with
   |nil=>injection h with h;subst h;exact⟨_,rfl,.i _ _⟩
   |cons _ _=>trivial
 |a::l,as,m,v,h,hc=>by
  obtain⟨b,bs,rfl,h1,h2⟩:=hc.inv
  unfold mmV at h
  split at h
  ·trivial
  ·rename_i _ _ k' n r' he
   injection he with e1 e2;subst e1;subst e2
   cases h1
   have:=Yig h h2
   trivial
  trivial
end
end Go.Abs
namespace Go.Abs
open Go Go.RowKit
section
variable{Fr:Nat->Prop}{H0:Heap}{X:YtI}{pl:Pl}{H:Heap}
theorem HRel.build(hr:HRel Fr H0 X pl H){X':YtI}{pl':Pl}{H':Heap}(A:Nat->Prop)(hx:Ext X pl X' pl')
  (hX: ∀b,¬A b->vget X' b=vget X b) (hp: ∀p:Pos,¬A p.of->pl' p=pl p)
  (hH: ∀(p:Pos) x,¬A p.of->pl p=some x->H'[x]?=H[x]?)
  (obj: ∀b o,A b->vget X' b=some o->OR X' pl' H' b o)
  (own: ∀(p:Pos) x,A p.of->pl' p=some x->Live X' p)
  (src: ∀(p:Pos) x,A p.of->pl' p=some x->(∃q:Pos,pl q=some x/\A q.of)\/H.length<=x)
  (inj: ∀(p q:Pos) x,A p.of->A q.of->pl' p=some x->pl' q=some x->p=q)
  (frH: ∀x,Fr x->H'[x]?=H[x]?) (le:H.length<=H'.length):HRel Fr H0 X' pl' H':=by
 have mixed: ∀(p q:Pos) x,A p.of-> ¬A q.of->pl' p=some x->pl' q=some x->False:=by
  intro p q x h1 h2 h3 h4
  rw[hp q h2]at h4
  rcases src p x h1 h3 with⟨q',k1,k2⟩|k
  ·have:=hr.inj _ _ _ k1 h4
   simp_all
  ·have:=hr.bd h4;omega
 refine⟨fun b o h1=> ?_,fun p q x h1 h2=> ?_,fun p x h1=> ?_,fun x h1=> ?_,fun p x h1=> ?_,Yxy hr.le le⟩
 ·by_cases hb:A b
  ·simp_all
  ·rw[hX b hb]at h1
   exact(hr.obj b o h1).keep hx (fun p e=>hp p (by simp_all)) (fun p x e e2=>hH p x (by simp_all) e2)
 ·by_cases ha:A p.of<;>by_cases hb:A q.of
  ·grind
  ·grind
  ·grind
  ·rw[hp p ha]at h1;rw[hp q hb]at h2;exact hr.inj p q x h1 h2
 ·by_cases ha:A p.of
  ·simp_all
  ·rw[hp p ha]at h1
   have:=hr.own p x h1
   cases p with
   |m b=>obtain⟨o,k⟩:=this;exact⟨o,by rw[hX b ha];exact k⟩
   |n b i=>obtain⟨hd,c,v,h,l,k,k2⟩:=this;exact⟨hd,c,v,h,l,by rw[hX b ha];exact k,k2⟩
 ·have:=hr.fr x h1
  simp_all
 ·by_cases ha:A p.of
  ·rcases src p x ha h1 with⟨q,k1,k2⟩|k
   ·exact hr.nfr q x k1
   ·intro hf;have:=(hr.fr x hf).1;have:=hr.le;omega
  ·rw[hp p ha]at h1;exact hr.nfr p x h1
theorem Ybd(hr:HRel Fr H0 X pl H){a:Nat}{hd:Hd}{c:Cs}{ver:Nat}{hole:Option Nat}{l:List (sn c hd.A).den}(ha:vget X a=some (.fm hd c ver hole l)){p:Pos}{x:Nat}(hp:pl p=some x)(hpa:p.of=a):
  p= .m a\/ ∃i,p= .n a i/\i<l.length/\hole≠some i:=by
 have:=hr.own p x hp
 cases p with
 |m b=>simp only[Pos.of]at hpa;simp_all
 |n b i=>
  simp only[Pos.of]at hpa;subst hpa
  obtain⟨hd',c',v,h,l',k,k1,k2⟩:=this
  rw[ha]at k;injection k with k;injection k with e0 e1 e2 e3 e4
  subst e0;subst e1;subst e3
  have e4:=eq_of_heq e4;subst e4
  exact .inr ⟨i,rfl,k1,k2⟩
theorem Yih(hr:HRel Fr H0 X pl H){a:Nat}{c:Cs}{l:List c.den}(ha:vget X a=some (.sq c l)){p:Pos}{x:Nat}(hp:pl p=some x)(hpa:p.of=a):p= .m a:=by
 have:=hr.own p x hp
 cases p with
 |m b=>simp only[Pos.of]at hpa;rw[hpa]
 |n b i=>
  simp only[Pos.of]at hpa;subst hpa
  obtain⟨hd',c',v,h,l',k,_⟩:=this
  simp_all
theorem YdG(hr:HRel Fr H0 X pl H){a x m:Nat}{hd hd':Hd}{c:Cs}{ver ver':Nat}{hole:Option Nat}{l:List (sn c hd.A).den}{l':List (sn c hd'.A).den}{el:List (List AV)}{X':YtI}{src:Nat->Option Nat}
  (ha:vget X a=some (.fm hd c ver hole l)) (hp:pl (.m a)=some x) (hm:m=a\/(vget X' m=none/\ ∃lm,vget X m=some (.sq c lm))) (hlen:X'.length=X.length) (hga:vget X' a=some (.fm hd' c ver' none l'))
  (hgb: ∀b,b≠a->b≠m->vget X' b=vget X b) (hver:ver<ver') (hN:elN (.fm hd' c ver' none l')=elN (.fm hd c ver hole l)) (hL:lenO (.fm hd' c ver' none l')=lenO (.fm hd c ver hole l)) (h0:0<c.width)
  (hsrc: ∀j z,src j=some z->j<l'.length/\ ((∃i,pl (.n a i)=some z)\/(m≠a/\pl (.m m)=some z))) (hinj: ∀i j z,src i=some z->src j=some z->i=j)
  (hel:el.length=l'.length) (hrow: ∀(i:Nat) (e:List AV) (v:(sn c hd'.A).den),el[i]?=some e->l'[i]?=some v-> ∃d r,e=d++[r]/\CC d (hd'.A.enc (da c hd'.A v))/\
   ((∃y el',src i=some y/\r= .ref y 0 (ow c hd'.A v).length/\H[y]?=some (some ⟨c.width,el'⟩)/\Rows el' c (ow c hd'.A v))\/(hd'.nn=false/\src i=none/\ow c hd'.A v=[]/\r= .emp))):
  ∃pl',HRel Fr H0 X' pl' (H.set x (some (hd'.obj el)))/\Ext X pl X' pl'/\pl' (.m a)=some x/\ ∀i,pl' (.n a i)=src i:=by
 have hal:=Yab ha
 let pl':Pl:=fun q=>match q with
  | .m b=>if b=a then some x else if b=m then none else pl (.m b)
  | .n b j=>if b=a then src j else if b=m then none else pl (.n b j)
 have pm:pl' (.m a)=some x:=if_pos rfl
 have pn: ∀j,pl' (.n a j)=src j:=fun j=>if_pos rfl
 have po: ∀q:Pos,q.of≠a->q.of≠m->pl' q=pl q:=fun q h1 h2=>by
  cases q with
  |m b=>simp only[Pos.of]at h1 h2;simp only[pl',if_neg h1,if_neg h2]
  |n b j=>simp only[Pos.of]at h1 h2;simp only[pl',if_neg h1,if_neg h2]
 have pmm: ∀q:Pos,m≠a->q.of=m->pl' q=none:=fun q h1 h2=>by
  cases q with
  |m b=>simp only[Pos.of]at h2;subst h2;simp only[pl',if_neg h1,if_true]
  |n b j=>simp only[Pos.of]at h2;subst h2;simp only[pl',if_neg h1,if_true]
 have hxt:Ext X pl X' pl':=by
  refine⟨by omega,fun b hb=> ?_⟩
  by_cases e1:b=a
  ·subst e1
   exact .inr ⟨_,_,ha,hga,hN,hL,pm.trans hp.symm,rfl,fun hd1 c1 v1 h1 l1 e=>by
    injection e with e0 e1 e2 e3 e4
    subst e0;subst e1;subst e2;subst e3
    exact⟨_,_,_,_,rfl,.inl hver⟩⟩
  ·by_cases e2:b=m
   ·rcases hm with hm|hm
    ·exact absurd (e2.trans hm) e1
    ·exact .inl (e2▸hm.1)
   ·rw[hgb b e1 e2]
    cases h:vget X b with
    |none=>simp
    |some o=>exact .inr ⟨o,o,rfl,rfl,rfl,rfl,po (.m b) e1 e2,rfl,fun hd' c' v' h' l' e=>⟨hd',v',h',l',e,.inr ⟨rfl,fun h=>⟨h,rfl,fun j=>⟨rfl,po (.n b j) e1 e2⟩⟩⟩⟩⟩
 have hxl:x<H.length:=hr.bd hp
 have hsx: ∀j z,src j=some z->z≠x:=fun j z h e=>by
  subst e
  rcases(hsrc j _ h).2 with⟨i,hi⟩| ⟨h1,h2⟩
  ·have:=hr.inj _ _ _ hi hp;cases this
  ·have:=hr.inj _ _ _ h2 hp;injection this with this;exact h1 this
 have key: ∀{p:Pos} {z},(p.of=a\/p.of=m)->pl' p=some z->(p= .m a/\z=x)\/ ∃j,p= .n a j/\src j=some z:=by
  intro p z hb hz
  by_cases e:p.of=a
  ·cases p with
   |m b=>simp only[Pos.of]at e;subst e;rw[pm]at hz;injection hz with hz;exact .inl ⟨rfl,hz.symm⟩
   |n b j=>simp only[Pos.of]at e;subst e;rw[pn]at hz;exact .inr ⟨j,rfl,hz⟩
  ·have e2:=hb.resolve_left e
   rw[pmm p (fun h=>e (e2.trans h)) e2]at hz;cases hz
 refine⟨pl',hr.build (fun b=>b=a\/b=m) hxt (fun b hb=>hgb b (fun e=>hb (.inl e)) (fun e=>hb (.inr e))) (fun p hb=>po p (fun e=>hb (.inl e)) (fun e=>hb (.inr e))) (fun p z hb hz=> ?_) (fun b o hb ho=> ?_) (fun p z hb hz=> ?_) (fun p z hb hz=> ?_) (fun p q z hb hb' hz hz'=> ?_) (fun z hz=> ?_) (by simp),hxt,pm,pn⟩
 ·rw[YwV (fun e=> ?_)]
  subst e
  have:=hr.inj _ _ _ hz hp
  subst this;exact hb (.inl rfl)
 ·by_cases e:b=a
  ·subst e
   rw[hga]at ho;injection ho with ho;subst ho
   refine⟨x,el,pm,Yw4 hxl,h0,hel,fun i e v k1 k2=> ?_⟩
   obtain⟨d,r,g1,g2,g3⟩:=hrow i e v k1 k2
   refine⟨d,r,g1,g2,fun _=> ?_⟩
   rcases g3 with⟨y,el',f1,f2,f3,f4⟩| ⟨f0,f1,f2,f3⟩
   ·exact .inl ⟨y,el',(pn i).trans f1,f2,by rw[YwV (Ne.symm (hsx i y f1))];exact f3,f4⟩
   ·exact .inr ⟨f0,(pn i).trans f1,f2,f3⟩
  ·have e2:=hb.resolve_left e
   rcases hm with hm|hm
   ·exact absurd (e2.trans hm) e
   ·rw[e2,hm.1]at ho;cases ho
 ·rcases key hb hz with⟨rfl,rfl⟩| ⟨j,rfl,h⟩
  ·exact⟨_,hga⟩
  ·exact⟨_,_,_,_,_,hga,(hsrc j z h).1,by simp⟩
 ·rcases key hb hz with⟨rfl,rfl⟩| ⟨j,rfl,h⟩
  ·exact .inl ⟨_,hp,.inl rfl⟩
  ·rcases(hsrc j z h).2 with⟨i,hi⟩| ⟨_,h2⟩
   ·exact .inl ⟨_,hi,.inl rfl⟩
   ·exact .inl ⟨_,h2,.inr rfl⟩
 ·rcases key hb hz with⟨rfl,rfl⟩| ⟨j,rfl,h⟩<;>rcases key hb' hz' with⟨rfl,h'⟩| ⟨j',rfl,h'⟩
  ·rfl
  ·exact absurd rfl (hsx _ _ h')
  ·exact absurd h' (hsx _ _ h)
  ·rw[hinj _ _ _ h h']
 ·rw[YwV (fun e=>hr.nfr _ _ hp (by simp_all))]
theorem Yfg(hr:HRel Fr H0 X pl H)(D:Nat->Prop){hd:Hd}{c:Cs}{l:List (sn c hd.A).den}{el:List (List AV)}{X':YtI}{H':Heap}{src:Nat->Option Nat}
  (hlen:X'.length=X.length+1) (hgn:vget X' X.length=some (.fm hd c 0 none l)) (hgd: ∀b,b<X.length->D b->vget X' b=none) (hgb: ∀b,b<X.length-> ¬D b->vget X' b=vget X b) (h0:0<c.width)
  (hHl:H'.length=H.length+1) (hHn:H'[H.length]?=some (some (hd.obj el))) (hH: ∀(p:Pos) z,¬D p.of->pl p=some z->H'[z]?=H[z]?) (hHf: ∀z,Fr z->H'[z]?=H[z]?)
  (hsrc: ∀j z,src j=some z->j<l.length/\ ∃p:Pos,D p.of/\pl p=some z) (hinj: ∀i j z,src i=some z->src j=some z->i=j)
  (hel:el.length=l.length) (hrow: ∀(i:Nat) (e:List AV) (v:(sn c hd.A).den),el[i]?=some e->l[i]?=some v-> ∃d r,e=d++[r]/\CC d (hd.A.enc (da c hd.A v))/\
   ((∃y el',src i=some y/\r= .ref y 0 (ow c hd.A v).length/\H'[y]?=some (some ⟨c.width,el'⟩)/\Rows el' c (ow c hd.A v))\/(hd.nn=false/\src i=none/\ow c hd.A v=[]/\r= .emp))):
  ∃pl',HRel Fr H0 X' pl' H'/\Ext X pl X' pl'/\pl' (.m X.length)=some H.length:=by
 classical
 let pl':Pl:=fun q=>if q.of=X.length then(match q with| .m _=>some H.length| .n _ j=>src j)else if D q.of then none else pl q
 have pm:pl' (.m X.length)=some H.length:=if_pos rfl
 have pn: ∀j,pl' (.n X.length j)=src j:=fun j=>if_pos rfl
 have pd: ∀q:Pos,q.of≠X.length->D q.of->pl' q=none:=fun q h1 h2=>by simp only[pl',if_neg h1,if_pos h2]
 have po: ∀q:Pos,q.of≠X.length-> ¬D q.of->pl' q=pl q:=fun q h1 h2=>by simp only[pl',if_neg h1,if_neg h2]
 have plt: ∀{q:Pos} {z},pl q=some z->q.of<X.length:=fun{q z} h=>by
  have:=hr.own q z h
  cases q with
  |m a=>obtain⟨o,h⟩:=this;exact Yab h
  |n a i=>obtain⟨_,_,_,_,_,h,_⟩:=this;exact Yab h
 have hxt:Ext X pl X' pl':=by
  refine⟨by omega,fun b hb=> ?_⟩
  by_cases e:D b
  ·exact .inl (hgd b hb e)
  ·rw[hgb b hb e]
   cases h:vget X b with
   |none=>simp
   |some o=>exact .inr ⟨o,o,rfl,rfl,rfl,rfl,po _ (by simp only[Pos.of];omega) e,rfl,fun hd' c' v' h' l' e'=>⟨hd',v',h',l',e',.inr ⟨rfl,fun h=>⟨h,rfl,fun j=>⟨rfl,po _ (by simp only[Pos.of];omega) e⟩⟩⟩⟩⟩
 have key: ∀{p:Pos} {z},(p.of=X.length\/D p.of)->pl' p=some z->(p= .m X.length/\z=H.length)\/ ∃j,p= .n X.length j/\src j=some z:=by
  intro p z hb hz
  by_cases e:p.of=X.length
  ·cases p with
   |m b=>simp only[Pos.of]at e;subst e;rw[pm]at hz;injection hz with hz;exact .inl ⟨rfl,hz.symm⟩
   |n b j=>simp only[Pos.of]at e;subst e;rw[pn]at hz;exact .inr ⟨j,rfl,hz⟩
  ·rw[pd p e (hb.resolve_left e)]at hz;cases hz
 have hsl: ∀j z,src j=some z->z<H.length:=fun j z h=>by
  obtain⟨_,p,_,hp⟩:=hsrc j z h;exact hr.bd hp
 refine⟨pl',hr.build (fun b=>b=X.length\/D b) hxt (fun b hb=> ?_) (fun p hb=>po p (fun e=>hb (.inl e)) (fun e=>hb (.inr e))) (fun p z hb hz=>hH p z (fun e=>hb (.inr e)) hz) (fun b o hb ho=> ?_) (fun p z hb hz=> ?_) (fun p z hb hz=> ?_) (fun p q z hb hb' hz hz'=> ?_) hHf (by omega),hxt,pm⟩
 ·rw[not_or]at hb
  by_cases e:b<X.length
  ·exact hgb b e hb.2
  ·rw[Yar (by omega),Yar (by omega)]
 ·by_cases e:b=X.length
  ·subst e
   rw[hgn]at ho;injection ho with ho;subst ho
   refine⟨H.length,el,pm,hHn,h0,hel,fun i e v k1 k2=> ?_⟩
   obtain⟨d,r,g1,g2,g3⟩:=hrow i e v k1 k2
   refine⟨d,r,g1,g2,fun _=> ?_⟩
   rcases g3 with⟨y,el',f1,f2,f3,f4⟩| ⟨f0,f1,f2,f3⟩
   ·exact .inl ⟨y,el',(pn i).trans f1,f2,f3,f4⟩
   ·exact .inr ⟨f0,(pn i).trans f1,f2,f3⟩
  ·have hl:=Yab ho
   rw[hgd b (by omega) (hb.resolve_left e)]at ho;cases ho
 ·rcases key hb hz with⟨rfl,rfl⟩| ⟨j,rfl,h⟩
  ·exact⟨_,hgn⟩
  ·exact⟨_,_,_,_,_,hgn,(hsrc j z h).1,by simp⟩
 ·rcases key hb hz with⟨rfl,rfl⟩| ⟨j,rfl,h⟩
  ·exact .inr (Yxs _)
  ·obtain⟨_,p,h1,h2⟩:=hsrc j z h
   exact .inl ⟨p,h2,.inr h1⟩
 ·rcases key hb hz with⟨rfl,rfl⟩| ⟨j,rfl,h⟩<;>rcases key hb' hz' with⟨rfl,h'⟩| ⟨j',rfl,h'⟩
  ·rfl
  ·have:=hsl _ _ h';omega
  ·have:=hsl _ _ h;omega
  ·rw[hinj _ _ _ h h']
theorem YaT{a:Nat}{hd:Hd}{c:Cs}{hole:Option Nat}{i:Nat}{e:List AV}{v:(sn c hd.A).den}(h:ElR pl H a hd c hole i e v)(hi:hole≠some i): ∃d r,e=d++[r]/\CC d (hd.A.enc (da c hd.A v))/\
   ((∃y el',pl (.n a i)=some y/\r= .ref y 0 (ow c hd.A v).length/\H[y]?=some (some ⟨c.width,el'⟩)/\Rows el' c (ow c hd.A v))\/(hd.nn=false/\pl (.n a i)=none/\ow c hd.A v=[]/\r= .emp)):=by
 obtain⟨d,r,h1,h2,h3⟩:=h
 exact⟨d,r,h1,h2,h3 hi⟩
theorem YnJ(hr:HRel Fr H0 X pl H){a:Nat}{hd:Hd}{c:Cs}{ver:Nat}{hole:Option Nat}{l:List (sn c hd.A).den}(ha:vget X a=some (.fm hd c ver hole l)){i:Nat}(hi:l.length<=i\/hole=some i):pl (.n a i)=none:=by
 cases h:pl (.n a i)with
 |none=>rfl
 |some z=>
  rcases Ybd hr ha h rfl with e| ⟨j,e,h1,h2⟩
  ·cases e
  ·injection e with _ e;subst e
   rcases hi with hi|hi
   ·omega
   ·exact absurd hi h2
theorem YdH{c:Cs}{l:List c.den}{i:Nat}(h:i<l.length):l[i]?=some (getI c l i):=by
 simp[getI,List.getD,h]
theorem YnK{c:Cs}{l:List c.den}{i:Nat}(h:l.length<=i):getI c l i=c.dft:=by
 simp[getI,List.getD,h]
theorem YnL{hd:Hd}{c:Cs}{l:List (sn c hd.A).den}{i:Nat}(h:l.length<=i):owI hd c l i=[]:=by
 unfold owI;rw[YnK h,Yh6]
theorem YaU(hd:Hd)(c:Cs)(l:List (sn c hd.A).den)(i:Nat)(v:List c.den):(setO hd c l i v).length=l.length:=Yw5
theorem Yii(hd:Hd)(c:Cs)(l:List (sn c hd.A).den)(i:Nat)(d:hd.A.den):(setD hd c l i d).length=l.length:=Yw5
theorem Yij{c:Cs}{l:List c.den}{i:Nat}(j:Nat)(v:c.den)(h:i<l.length):getI c (l.set i v) j=if j=i then v else getI c l j:=by
 unfold getI
 by_cases e:j=i
 ·subst e;simp[List.getD,h]
 ·simp[List.getD,YwV (Ne.symm e),e]
theorem YnM{hd:Hd}{c:Cs}{l:List (sn c hd.A).den}{i:Nat}{v:List c.den}(h:i<l.length)(j:Nat):owI hd c (setO hd c l i v) j=if j=i then v else owI hd c l j:=by
 unfold owI setO
 rw[Yij j _ h]
 by_cases e:j=i
 ·rw[if_pos e,if_pos e,YaE]
 ·rw[if_neg e,if_neg e]
theorem YnN{hd:Hd}{c:Cs}{l:List (sn c hd.A).den}{i:Nat}{d:hd.A.den}(h:i<l.length)(j:Nat):owI hd c (setD hd c l i d) j=owI hd c l j:=by
 unfold setD
 rw[owI,Yij j _ h]
 by_cases e:j=i
 ·rw[if_pos e,YaE,e]
 ·rw[if_neg e];rfl
theorem Yb3{A:Cs}{nn:Bool}{el:List (List AV)}:(Hd.rw A nn).obj el=⟨A.width+1,el⟩:=rfl
theorem YnO(hr:HRel Fr H0 X pl H){a x m y i:Nat}{A:Cs}{nn:Bool}{c:Cs}{ver:Nat}{hole:Option Nat}{l:List (sn c A).den}{lm:List c.den}{el:List (List AV)}{e0:List AV}
  (ha:vget X a=some (.fm (.rw A nn) c ver hole l)) (hp:pl (.m a)=some x) (hm:vget X m=some (.sq c lm)) (hpm:pl (.m m)=some y) (hne:m≠a) (hi:i<l.length) (hh:hole=none\/hole=some i) (hx:H[x]?=some (some ⟨A.width+1,el⟩)) (hei:el[i]?=some e0):
  ∃pl',HRel Fr H0 (vset (vset X m none) a (some (.fm (.rw A nn) c (ver+1) none (setO (.rw A nn) c l i lm)))) pl' (H.set x (some ⟨A.width+1,el.set i (splice e0 A.width [.ref y 0 lm.length])⟩))/\
   Ext X pl (vset (vset X m none) a (some (.fm (.rw A nn) c (ver+1) none (setO (.rw A nn) c l i lm)))) pl':=by
 have hal:=Yab ha
 have hml:=Yab hm
 obtain⟨x',el0,h1,h2,h3,h4,h6⟩:=hr.obj a _ ha
 rw[hp]at h1;injection h1 with h1;subst h1
 rw[hx]at h2;injection h2 with h2;injection h2 with h2;injection h2 with _ h2;subst h2
 obtain⟨y',el2,g1,g2,g3,g4⟩:=hr.obj m _ hm
 rw[hpm]at g1;injection g1 with g1;subst g1
 obtain⟨pl',k1,k2,_⟩:=YdG hr (m:=m) (hd':=.rw A nn) (ver':=ver+1) (l':=setO (.rw A nn) c l i lm) (el:=el.set i (splice e0 A.width [.ref y 0 lm.length])) (X':=vset (vset X m none) a (some (.fm (.rw A nn) c (ver+1) none (setO (.rw A nn) c l i lm))))
  (src:=fun j=>if j=i then some y else pl (.n a j)) ha hp (.inr ⟨by rw[Yak _ (Ne.symm hne)];exact Yam _ hml,lm,hm⟩) (by rw[Yac,Yac]) (Yam _ (by rw[Yac];omega)) (fun b h1 h2=>by rw[Yak _ (Ne.symm h1),Yak _ (Ne.symm h2)]) (by omega)
  (by simp only[elN];exact YaU _ _ _ _ _) (by simp only[lenO];exact congrArg some (YaU _ _ _ _ _)) h3 (fun j z hz=>by
   by_cases e:j=i
   ·rw[if_pos e]at hz;injection hz with hz;subst hz
    exact⟨by rw[YaU];omega,.inr ⟨hne,hpm⟩⟩
   ·rw[if_neg e]at hz
    refine⟨?_,.inl ⟨j,hz⟩⟩
    rcases Ybd hr ha hz rfl with e| ⟨j',e,h,_⟩
    ·cases e
    ·injection e with _ e;subst e;rw[YaU];exact h) (fun j k z h1 h2=>by
   by_cases e1:j=i<;>by_cases e2:k=i
   ·rw[e1,e2]
   ·rw[if_pos e1]at h1;rw[if_neg e2]at h2;injection h1 with h1;subst h1;have:=hr.inj _ _ _ h2 hpm;cases this
   ·rw[if_neg e1]at h1;rw[if_pos e2]at h2;injection h2 with h2;subst h2;have:=hr.inj _ _ _ h1 hpm;cases this
   ·rw[if_neg e1]at h1;rw[if_neg e2]at h2;have:=hr.inj _ _ _ h1 h2;injection this) (by rw[Yw5,YaU];exact h4) (by
  intro j e v k1 k2
  by_cases hj:j=i
  ·subst hj
   have hjl:j<el.length:=by rw[h4];exact hi
   rw[Yw4 hjl]at k1
   injection k1 with k1;subst k1
   unfold setO at k2
   rw[Yw4 hi]at k2;injection k2 with k2;subst k2
   obtain⟨d,r,q1,q2,_⟩:=h6 j e0 _ hei (YdH hi)
   have hdl:d.length=A.width:=by rw[q2.1,Yax]
   refine⟨d,.ref y 0 lm.length,?_,?_,.inl ⟨y,el2,if_pos rfl,?_,g2,?_⟩⟩
   ·subst q1;unfold splice
    rw[<-hdl];simp
   ·rw[Ybl];exact q2
   ·rw[YaE]
   ·rw[YaE];exact g4
  ·unfold setO at k2
   rw[YwV (Ne.symm hj)]at k1 k2
   have hnj:hole≠some j:=by
    rcases hh with h|h<;>rw[h]<;>simp;exact fun e=>hj e.symm
   obtain⟨d,r,q1,q2,q3⟩:=YaT (h6 j e v k1 k2) hnj
   exact⟨d,r,q1,q2,by rw[if_neg hj];exact q3⟩)
 exact⟨pl',k1,k2⟩
theorem YnP(hr:HRel Fr H0 X pl H){a x i:Nat}{A:Cs}{c:Cs}{ver:Nat}{l:List (sn c A).den}{el:List (List AV)}{e0:List AV}
  (ha:vget X a=some (.fm (.rw A false) c ver none l)) (hp:pl (.m a)=some x) (hi:i<l.length) (hx:H[x]?=some (some ⟨A.width+1,el⟩)) (hei:el[i]?=some e0):
  ∃pl',HRel Fr H0 (vset X a (some (.fm (.rw A false) c (ver+1) none (setO (.rw A false) c l i [])))) pl' (H.set x (some ⟨A.width+1,el.set i (splice e0 A.width [.emp])⟩))/\
   Ext X pl (vset X a (some (.fm (.rw A false) c (ver+1) none (setO (.rw A false) c l i [])))) pl':=by
 have hal:=Yab ha
 obtain⟨x',el0,h1,h2,h3,h4,h6⟩:=hr.obj a _ ha
 rw[hp]at h1;injection h1 with h1;subst h1
 rw[hx]at h2;injection h2 with h2;injection h2 with h2;injection h2 with _ h2;subst h2
 obtain⟨pl',k1,k2,_⟩:=YdG hr (m:=a) (hd':=.rw A false) (ver':=ver+1) (l':=setO (.rw A false) c l i []) (el:=el.set i (splice e0 A.width [.emp])) (X':=vset X a (some (.fm (.rw A false) c (ver+1) none (setO (.rw A false) c l i []))))
  (src:=fun j=>if j=i then none else pl (.n a j)) ha hp (.inl rfl) (Yac _ _ _) (Yam _ hal) (fun b h1 _=>by rw[Yak _ (Ne.symm h1)]) (by omega)
  (by simp only[elN];exact YaU _ _ _ _ _) (by simp only[lenO];exact congrArg some (YaU _ _ _ _ _)) h3 (fun j z hz=>by
   by_cases e:j=i
   ·rw[if_pos e]at hz;cases hz
   ·rw[if_neg e]at hz
    refine⟨?_,.inl ⟨j,hz⟩⟩
    rcases Ybd hr ha hz rfl with e| ⟨j',e,h,_⟩
    ·cases e
    ·injection e with _ e;subst e;rw[YaU];exact h) (fun j k z h1 h2=>by
   by_cases e1:j=i
   ·rw[if_pos e1]at h1;cases h1
   ·by_cases e2:k=i
    ·rw[if_pos e2]at h2;cases h2
    ·rw[if_neg e1]at h1;rw[if_neg e2]at h2;have:=hr.inj _ _ _ h1 h2;injection this) (by rw[Yw5,YaU];exact h4) (by
  intro j e v k1 k2
  by_cases hj:j=i
  ·subst hj
   have hjl:j<el.length:=by rw[h4];exact hi
   rw[Yw4 hjl]at k1
   injection k1 with k1;subst k1
   unfold setO at k2
   rw[Yw4 hi]at k2;injection k2 with k2;subst k2
   obtain⟨d,r,q1,q2,_⟩:=h6 j e0 _ hei (YdH hi)
   have hdl:d.length=A.width:=by rw[q2.1,Yax]
   refine⟨d,.emp,?_,?_,.inr ⟨rfl,if_pos rfl,?_,rfl⟩⟩
   ·subst q1;unfold splice
    rw[<-hdl];simp
   ·rw[Ybl];exact q2
   ·rw[YaE]
  ·unfold setO at k2
   rw[YwV (Ne.symm hj)]at k1 k2
   obtain⟨d,r,q1,q2,q3⟩:=YaT (h6 j e v k1 k2) (by simp)
   exact⟨d,r,q1,q2,by rw[if_neg hj];exact q3⟩)
 exact⟨pl',k1,k2⟩
theorem Yfh(hr:HRel Fr H0 X pl H){a:Nat}{hd:Hd}{c:Cs}{ver:Nat}{hole:Option Nat}{l l':List (sn c hd.A).den}(ha:vget X a=some (.fm hd c ver none l)){H':Heap}(hlen:H'.length=H.length)(hll:l'.length=l.length)
  (how:hole=none-> ∀i,(owI hd c l' i).length=(owI hd c l i).length) {pl':Pl} (hpl: ∀p:Pos,(∀i,hole=some i->p≠ .n a i)->pl' p=pl p) (hph: ∀i,hole=some i->pl' (.n a i)=none)
  (hH: ∀(p:Pos) z,p.of≠a->pl p=some z->H'[z]?=H[z]?) (hHf: ∀z,Fr z->H'[z]?=H[z]?) (hob:Ext X pl (vset X a (some (.fm hd c ver hole l'))) pl'->OR (vset X a (some (.fm hd c ver hole l'))) pl' H' a (.fm hd c ver hole l')):
  HRel Fr H0 (vset X a (some (.fm hd c ver hole l'))) pl' H'/\Ext X pl (vset X a (some (.fm hd c ver hole l'))) pl':=by
 have hal:=Yab ha
 have hgeta:vget (vset X a (some (.fm hd c ver hole l'))) a=some (.fm hd c ver hole l'):=Yam _ hal
 have hgetb: ∀b,b≠a->vget (vset X a (some (.fm hd c ver hole l'))) b=vget X b:=fun b h=>Yak _ (Ne.symm h)
 have hpo: ∀p:Pos,p.of≠a->pl' p=pl p:=fun p h=>hpl p fun i _ e=>h (by subst e;rfl)
 have hpm:pl' (.m a)=pl (.m a):=hpl _ fun i _ e=>by cases e
 have hz0: ∀{p:Pos} {z},pl' p=some z->pl p=some z/\ ∀i,hole=some i->p≠ .n a i:=by
  intro p z h
  have hne: ∀i,hole=some i->p≠ .n a i:=fun i hi e=>by subst e;rw[hph i hi]at h;cases h
  exact⟨by rw[<-hpl p hne];exact h,hne⟩
 have hxt:Ext X pl (vset X a (some (.fm hd c ver hole l'))) pl':=by
  refine⟨by rw[Yac];omega,fun b hb=> ?_⟩
  by_cases e1:b=a
  ·subst e1
   refine .inr ⟨_,_,ha,hgeta,?_,?_,hpm,rfl,fun hd1 c1 v1 h1 l1 e=> ?_⟩
   ·cases hd<;>simp[elN,hll]
   ·cases hd<;>simp[lenO,hll]
   ·injection e with e0 e1 e2 e3 e4
    subst e0;subst e1;subst e2;subst e3
    have e4:=eq_of_heq e4;subst e4
    exact⟨_,_,_,_,rfl,.inr ⟨rfl,fun hn=>⟨rfl,hll,fun i=>⟨how hn i,hpl _ fun j hj=>by rw[hn]at hj;cases hj⟩⟩⟩⟩
  ·rw[hgetb b e1]
   cases h:vget X b with
   |none=>simp
   |some o=>exact .inr ⟨o,o,rfl,rfl,rfl,rfl,hpo (.m b) e1,rfl,fun hd' c' v' h' l' e=>⟨hd',v',h',l',e,.inr ⟨rfl,fun h=>⟨h,rfl,fun j=>⟨rfl,hpo (.n b j) e1⟩⟩⟩⟩⟩
 refine⟨hr.build (fun b=>b=a) hxt (fun b hb=>hgetb b hb) (fun p hb=>hpo p hb) (fun p z hb hz=>hH p z hb hz) (fun b o hb ho=> ?_) (fun p z hb hz=> ?_) (fun p z hb hz=>.inl ⟨p,(hz0 hz).1,hb⟩) (fun p q z _ _ hz hz'=>hr.inj _ _ _ (hz0 hz).1 (hz0 hz').1) hHf (by omega),hxt⟩
 ·subst hb
  rw[hgeta]at ho;injection ho with ho;subst ho
  exact hob hxt
 ·obtain⟨h1,h2⟩:=hz0 hz
  rcases Ybd hr ha h1 hb with rfl| ⟨j,rfl,k1,_⟩
  ·exact⟨_,hgeta⟩
  ·exact⟨_,_,_,_,_,hgeta,by omega,fun e=>h2 j e rfl⟩
theorem Yik(hr:HRel Fr H0 X pl H){a i:Nat}{hd:Hd}{c:Cs}{ver:Nat}{l:List (sn c hd.A).den}(ha:vget X a=some (.fm hd c ver none l)){H':Heap}(hlen:H'.length=H.length)
  (hH: ∀z,pl (.n a i)≠some z->H'[z]?=H[z]?):
  HRel Fr H0 (vset X a (some (.fm hd c ver (some i) l))) (plS pl (.n a i) none) H'/\Ext X pl (vset X a (some (.fm hd c ver (some i) l))) (plS pl (.n a i) none):=by
 have hHp: ∀{p:Pos} {z},p≠ .n a i->pl p=some z->H'[z]?=H[z]?:=fun h1 h2=>hH _ (fun e=>h1 (hr.inj _ _ _ h2 e))
 have hpb: ∀p:Pos,p≠ .n a i->plS pl (.n a i) none p=pl p:=fun p h=>by unfold plS;simp_all
 refine Yfh hr ha hlen rfl (fun h=>by cases h) (fun p h=>hpb p (h i rfl)) (fun j h=>by injection h with h;subst h;unfold plS;simp) (fun p z h hz=>hHp (fun e=>h (by subst e;rfl)) hz) (fun z hz=>hH z (fun e=>hr.nfr _ _ e hz)) (fun _=> ?_)
 obtain⟨x',el,h1,h2,h3,h4,h6⟩:=hr.obj a _ ha
 refine⟨x',el,(hpb _ (fun e=>by cases e)).trans h1,(hHp (fun e=>by cases e) h1).trans h2,h3,h4,fun j e v k1 k2=> ?_⟩
 obtain⟨d,r,q1,q2,q3⟩:=h6 j e v k1 k2
 refine⟨d,r,q1,q2,fun hj=> ?_⟩
 have hne:(Pos.n a j:Pos)≠ .n a i:=fun e=>by injection e with _ e;exact hj (by rw[e])
 rcases q3 (by simp)with⟨y,el',f1,f2,f3,f4⟩| ⟨f0,f1,f2,f3⟩
 ·exact .inl ⟨y,el',(hpb _ hne).trans f1,f2,(hHp hne f1).trans f3,f4⟩
 ·exact .inr ⟨f0,(hpb _ hne).trans f1,f2,f3⟩
theorem YnQ(hr:HRel Fr H0 X pl H){a i y:Nat}{hd:Hd}{c:Cs}{ver:Nat}{l:List (sn c hd.A).den}(ha:vget X a=some (.fm hd c ver none l))(hi:i<l.length)(hp:pl (.n a i)=some y){lm:List c.den}(hlm:lm.length=(owI hd c l i).length)
  {el:List (List AV)} (hrow:Rows el c lm):
  HRel Fr H0 (vset X a (some (.fm hd c ver none (setO hd c l i lm)))) pl (H.set y (some ⟨c.width,el⟩))/\Ext X pl (vset X a (some (.fm hd c ver none (setO hd c l i lm)))) pl:=by
 have hne: ∀{p:Pos} {z},p≠ .n a i->pl p=some z->(H.set y (some ⟨c.width,el⟩))[z]?=H[z]?:=fun h1 h2=>by
  rw[YwV (fun e=>h1 (by subst e;exact hr.inj _ _ _ h2 hp))]
 refine Yfh hr ha (by simp) (YaU _ _ _ _ _) (fun _ j=> ?_) (fun _ _=>rfl) (fun _ h=>by cases h) (fun p z h hz=>hne (fun e=>h (by subst e;rfl)) hz) (fun z hz=> ?_) (fun _=> ?_)
 ·rw[YnM hi];split
  ·rename_i e;rw[hlm,e]
  ·rfl
 ·rw[YwV (fun e=>hr.nfr _ _ hp (by simp_all))]
 ·obtain⟨x',el0,h1,h2,h3,h4,h6⟩:=hr.obj a _ ha
  refine⟨x',el0,h1,(hne (fun e=>by cases e) h1).trans h2,h3,by rw[YaU];exact h4,fun j e v k1 k2=> ?_⟩
  by_cases hj:j=i
  ·subst hj
   unfold setO at k2
   rw[Yw4 hi]at k2;injection k2 with k2;subst k2
   obtain⟨d,r,q1,q2,q3⟩:=h6 j e _ k1 (YdH hi)
   refine⟨d,r,q1,by rw[Ybl];exact q2,fun _=>.inl ?_⟩
   rcases q3 (by simp)with⟨y',el',f1,f2,f3,f4⟩| ⟨f0,f1,f2,f3⟩
   ·rw[hp]at f1;injection f1 with f1;subst f1
    refine⟨y,el,hp,?_,Yw4 (hr.bd hp),by rw[YaE];exact hrow⟩
    rw[YaE,f2,hlm];rfl
   ·rw[hp]at f1;cases f1
  ·unfold setO at k2
   rw[YwV (Ne.symm hj)]at k2
   obtain⟨d,r,q1,q2,q3⟩:=h6 j e v k1 k2
   refine⟨d,r,q1,q2,fun _=> ?_⟩
   have hnj:(Pos.n a j:Pos)≠ .n a i:=fun e=>by injection e with _ e;exact hj e
   rcases q3 (by simp)with⟨y',el',f1,f2,f3,f4⟩|h
   ·exact .inl ⟨y',el',f1,f2,(hne hnj f1).trans f3,f4⟩
   ·exact .inr h
theorem YnR(hr:HRel Fr H0 X pl H){a x i:Nat}{A:Cs}{nn:Bool}{c:Cs}{ver:Nat}{l:List (sn c A).den}(ha:vget X a=some (.fm (.rw A nn) c ver none l))(hp:pl (.m a)=some x)(hi:i<l.length){el:List (List AV)}(hx:H[x]?=some (some ⟨A.width+1,el⟩))
  {d:A.den} {f g:List AV} {r0:AV} (hei:el[i]?=some (f++[r0])) (hg:CC g (A.enc d)) (hfl:f.length=A.width):
  HRel Fr H0 (vset X a (some (.fm (.rw A nn) c ver none (setD (.rw A nn) c l i d)))) pl (H.set x (some ⟨A.width+1,el.set i (g++[r0])⟩))/\Ext X pl (vset X a (some (.fm (.rw A nn) c ver none (setD (.rw A nn) c l i d)))) pl:=by
 have hne: ∀{p:Pos} {z},p≠ .m a->pl p=some z->(H.set x (some ⟨A.width+1,el.set i (g++[r0])⟩))[z]?=H[z]?:=fun h1 h2=>by
  rw[YwV (fun e=>h1 (by subst e;exact hr.inj _ _ _ h2 hp))]
 refine Yfh (hd:=.rw A nn) hr ha (by simp) (Yii _ _ _ _ _) (fun _ j=>by rw[YnN (hd:=.rw A nn) hi]) (fun _ _=>rfl) (fun _ h=>by cases h) (fun p z h hz=>hne (fun e=>h (by subst e;rfl)) hz) (fun z hz=> ?_) (fun _=> ?_)
 ·rw[YwV (fun e=>hr.nfr _ _ hp (by simp_all))]
 ·obtain⟨x',el0,h1,h2,h3,h4,h6⟩:=hr.obj a _ ha
  rw[hp]at h1;injection h1 with h1;subst h1
  rw[hx]at h2;injection h2 with h2;injection h2 with h2;injection h2 with _ h2;subst h2
  refine⟨x,_,hp,Yw4 (hr.bd hp),h3,by rw[Yw5,Yii];exact h4,fun j e v k1 k2=> ?_⟩
  by_cases hj:j=i
  ·subst hj
   have hjl:j<el.length:=by rw[h4];exact hi
   rw[Yw4 hjl]at k1;injection k1 with k1;subst k1
   unfold setD at k2
   rw[Yw4 hi]at k2;injection k2 with k2;subst k2
   obtain⟨d0,r,q1,q2,q3⟩:=h6 j _ _ hei (YdH hi)
   have hd0:d0.length=A.width:=by rw[q2.1,Yax]
   obtain⟨rfl,e2⟩:=List.append_inj q1 (by rw[hfl,hd0])
   injection e2 with e2;subst e2
   refine⟨g,r0,rfl,by rw[Ybl];exact hg,fun hj=> ?_⟩
   rw[YaE]
   rcases q3 hj with⟨y',el',f1,f2,f3,f4⟩|h
   ·exact .inl ⟨y',el',f1,f2,(hne (fun e=>by cases e) f1).trans f3,f4⟩
   ·exact .inr h
  ·unfold setD at k2
   rw[YwV (Ne.symm hj)]at k1 k2
   obtain⟨d,r,q1,q2,q3⟩:=h6 j e v k1 k2
   refine⟨d,r,q1,q2,fun hj=> ?_⟩
   rcases q3 hj with⟨y',el',f1,f2,f3,f4⟩|h
   ·exact .inl ⟨y',el',f1,f2,(hne (fun e=>by cases e) f1).trans f3,f4⟩
   ·exact .inr h
end
end Go.Abs
