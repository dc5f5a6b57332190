/- Abstract values and how real values, in a real world, stand to them: the first part of a layer of our own over the model. No condition; nothing of the program stands here. -/
import Derived.WalkKit
import Derived.Lib.AppendStr
import Derived.Laws.IdiomStrings
import Derived.Laws.Externs
import Derived.KernelRfl
import Derived.MapKept
import Derived.Maps.RangeRun
import Derived.Lib.LazyBuf
import Derived.Lib.MinMax
set_option linter.unusedVariables false
set_option linter.unusedSimpArgs false
set_option linter.unusedSectionVars false
open Option renaming some → U,none → zz
open Bool renaming true → zZ,false → zj
open List renaming getElem?_eq_some_iff → iP, mem_of_getElem? → jc, getElem?_eq_getElem → je, getElem?_map → jt, map_cons → kn, getElem?_append_left → ld, all_eq_true → ly, map_nil → mq, getElem?_set_ne → mR, length_eq_zero_iff → mC, mem_map → mH, getElem?_append_right → nF, getElem?_take → oU, getElem?_set_self → o_, getElem?_range → pO, length_map → pQ, append_assoc → qS, nil_append → qt, ext_getElem? → pT, getElem?_drop → rU, cons_append → rV, mem_range → tX, mem_append → uE, drop_zero → vM, mem_cons_of_mem → wD, getElem?_replicate → vN
open Nat renaming beq → im, ble → iS, eq_of_beq_eq_true → jr, blt → js, le_refl → jG, mul_le_mul_right → lD, le_of_ble_eq_true → l9, zero_add → mD, lt_of_lt_of_le → mS, le_trans → nu, add_mul → nY, add_zero → sZ, zero_le → sP
open Option renaming map_eq_some_iff → lS, map_some → l_, bind_some → pK, isSome_iff_exists → pU, getD_some → qu
open Bool renaming and_eq_true → iI, or_eq_true → rG
open Array renaming getD_eq_getD_getElem? → mI, getElem?_eq_some_iff → pV, getElem?_eq_getElem → rH, toArray_toList → uF, getElem?_push → yo
open ByteArray renaming mk → a_
namespace Go.Abs
open Go
structure FM where
 f:Nat->Nat
 own:List (String×Nat):=[]
 qv:List (String×Nat):=[]
 mks:List String:=[]
 bt:TypeId:=0
 bu:TypeId:=0
 tb:List (Nat× (Array Value->Prop)):=[]
 gs:List (Nat×List Value):=[]
 F9: ∀p∈gs,∃q,(p.1,q)∈tb/\ ∀c,q c->c=p.2.toArray:=by intro p hp;cases hp
instance:CoeFun FM (λ_=>Nat->Nat):=⟨FM.f⟩
def nZ(w:World)(g:Nat)(t:TypeId):Prop:= ∃cur fr,w.heap[g]?=U (.cells cur t fr)
inductive AV where
 |v (x:Value)
 |u
 |emp
 |rd (es:Nat) (l:List (List AV))
 |rp (cs:List AV)
 |ref (a off len:Nat)
 |ptr (a i j:Nat)
 |agg (cs:List AV)
 |iZ (vs:List AV)
 |clo (f:Nat) (F':List AV)
 |np (a:Nat)
 |er
 deriving Inhabited
inductive Loc where
 |fresh
 |dead
 |nil (b:Bool)
 |hid (s:Nat->Prop)
 |cells (g es cap:Nat)
 |mp (i:Bool) (g:Nat)
structure iu where
 es:Nat
 el:List (List AV)
def wd:Nat->Nat
 |0=>1
 |n+1=>n+1
theorem rW{n:Nat}(h:0<n):wd n=n:=by cases n with|zero=>omega|succ n=>rfl
theorem VA(n:Nat):0<wd n:=by cases n<;>simp[wd]
abbrev ic:=List (Option iu)
abbrev HF:=Nat->Option (Option iu)
def hf(H:ic):HF:=λa=>H[a]?
def kN(L:Nat->Loc)(b:Nat):Prop:=(∃a es cap,L a= .cells b es cap)\/ ∃a i,L a= .mp i b
def ma(L:Nat->Loc)(b:Nat):Prop:=kN L b\/ ∃a s,L a= .hid s/\s b
inductive VR(fm:FM)(w:World)(L:Nat->Loc):Value->AV->Prop
 |v (x:Value):VR fm w L x (.v x)
 |u (x:Value):VR fm w L x .u
 |emp (A:Option Addr):VR fm w L (.slice A 0 0) .emp
 |lT (A:Option Addr) (es c:Nat):VR fm w L (.slice A 0 c) (.rd es [])
 |rd (b o c es:Nat) (l:List (List AV)) (vals:Nat->Nat->Value)
  (F_:l≠ []) (Ga: ∀e∈l,e.length=es) (YF5:0<es) (JX:l.length<=c) (hb: ¬ma L b) (hbs:b<w.heap.size)
  (hc: ∀i e j x,l[i]?=U e->e[j]?=U x->w.cell? ⟨b,o+i*es+j,zz⟩=U (vals i j))
  (h1: ∀i e j x,l[i]?=U e->e[j]?=U x->(vals i j).oneCell'=zZ)
  (hr: ∀i e j x,l[i]?=U e->e[j]?=U x->VR fm w L (vals i j) x):
  VR fm w L (.slice (U ⟨b,o,zz⟩) l.length c) (.rd es l)
 |rp (b o:Nat) (cs:List AV) (vals:Nat->Value) (hb: ¬ma L b) (hbs:b<w.heap.size)
  (hc: ∀j x,cs[j]?=U x->w.cell? ⟨b,o+j,zz⟩=U (vals j))
  (h1: ∀j x,cs[j]?=U x->(vals j).oneCell'=zZ)
  (hr: ∀j x,cs[j]?=U x->VR fm w L (vals j) x):
  VR fm w L (.pointer (U ⟨b,o,zz⟩)) (.rp cs)
 |jH (g es cap a off len:Nat) (h:L a= .cells g es cap) (hl:off+len<=cap):
  VR fm w L (.slice (U ⟨g,off*es,zz⟩) len (cap-off)) (.ref a off len)
 |jo (A:Option Addr) (a:Nat) (b:Bool) (h:L a= .nil b) (hA:b=zZ->A=zz):VR fm w L (.slice A 0 0) (.ref a 0 0)
 |ju (A:Option Addr) (c a off len:Nat) (h:L a= .dead) (hl:len<=c):VR fm w L (.slice A len c) (.ref a off len)
 |lg (g es cap a i j:Nat) (h:L a= .cells g es cap):VR fm w L (.pointer (U ⟨g,i*es+j,zz⟩)) (.ptr a i j)
 |jN (ad:Addr) (a i j:Nat) (h:L a= .dead):VR fm w L (.pointer (U ad)) (.ptr a i j)
 |qT (g a:Nat) (v:Value) (h:L a= .cells g 2 1) (ht:nZ w g fm.bt) (hv:v= .pointer zz\/v= .pointer (U ⟨g,0,zz⟩)):VR fm w L v (.np a)
 |lL (p:Option Addr) (a:Nat) (h:L a= .dead):VR fm w L (.pointer p) (.np a)
 |rX (g a:Nat) (h:L a= .mp zj g):VR fm w L (.map (U g)) (.np a)
 |rY (g a:Nat) (h:L a= .mp zZ g):VR fm w L (.pointer (U ⟨g,0,zz⟩)) (.np a)
 |mJ (p:Option Nat) (a:Nat) (h:L a= .dead):VR fm w L (.map p) (.np a)
 |agg (xs:Array Value) (cs:List AV) (hs:xs.size=cs.length)
  (h1: ∀j a,cs[j]?=U a->(xs.getD j undef).oneCell'=zZ)
  (h: ∀j a,cs[j]?=U a->VR fm w L (xs.getD j undef) a):VR fm w L (.agg xs) (.agg cs)
 |iZ (xs:Array Value) (cs:List AV) (hs:xs.size=cs.length)
  (h: ∀j a,cs[j]?=U a->VR fm w L (xs.getD j undef) a):VR fm w L (.tuple xs) (.iZ cs)
 |clo (f:Nat) (xs:Array Value) (cs:List AV) (hs:xs.size=cs.length)
  (h: ∀j a,cs[j]?=U a->VR fm w L (xs.getD j undef) a):VR fm w L (.func (.func f) #[] xs) (.clo (fm f) cs)
 |er (t:TypeId) (p:Value):VR fm w L (.iface t p) .er
def MV(fm:FM)(w:World)(L:Nat->Loc)(k:Nat)(v:Value)(r:List AV):Prop:=
 (k=1/\ ∃a,r=[a]/\v.oneCell'=zZ/\VR fm w L v a)\/(k=2/\ ∃xs,v= .agg xs/\VR fm w L (.agg xs) (.agg r))
structure MR(fm:FM)(w:World)(L:Nat->Loc)(kd:Nat)(es:Array MapEntry)(el:List (List AV)):Prop where
 len:es.size=el.length
 row: ∀(i:Nat) (e:List AV),el[i]?=U e-> ∃(m:MapEntry) (b k:AV) (r:List AV),es[i]?=U m/\e=b::k::r/\VR fm w L (.int .i64 (m.born:Int)) b/\VR fm w L m.key k/\MV fm w L kd m.val r
def vO(es:Array MapEntry)(k:Nat):Prop:=
 (∀(i:Nat) (e:MapEntry),es[i]?=U e->e.born<k)/\ (∀(i j:Nat) (e f:MapEntry),i<j->es[i]?=U e->es[j]?=U f->e.born<f.born)
def Ny(fm:FM)(w:World)(L:Nat->Loc)(S:Array Nat)(B:List (List AV)):Prop:=
 S.size=B.length/\ ∀(i:Nat) (e:List AV),B[i]?=U e-> ∃(n:Nat) (b:AV),S[i]?=U n/\e=[b]/\VR fm w L (.int .i64 (n:Int)) b
def pW(fm:FM)(w:World)(L:Nat->Loc)(y:Loc)(o:iu):Prop:=
 match y with
 | .nil b=>o.el=[]/\ (o.es=0->b=zZ)
 | .cells g es cap=>es=wd o.es/\0<es/\o.el.length<=cap/\cap<=maxLen/\ (∀e∈o.el,e.length=es)/\
   ∃cur ty,w.heap[g]?=U (.cells cur ty (0,0))/\cur.size=cap*es/\
    ∀i e j x,o.el[i]?=U e->e[j]?=U x->
     (cur.getD (i*es+j) undef).oneCell'=zZ/\VR fm w L (cur.getD (i*es+j) undef) x
 | .mp zj g=>(o.es=3\/o.es=4)/\ ∃es k c0 R T,w.heap[g]?=U (.map es k)/\o.el=[c0::R::T]/\VR fm w L (.int .i64 ((k:Nat):Int)) c0/\
   (∀t∈T,VR fm w L (.bool zj) t)/\vO es k/\ (R= .u\/ ∃wd el,R= .rd wd el/\MR fm w L (o.es-2) es el)
 | .mp zZ g=>o.es=5/\ ∃a0 s t S q G h p d,w.heap[g]?=U (.mapIter (U G) h p d)/\
   o.el=[[a0,s,t,S,q]]/\VR fm w L (.map (U G)) a0/\VR fm w L (.int .i64 ((h:Nat):Int)) s/\VR fm w L (.int .i64 ((d:Nat):Int)) t/\VR fm w L (.bool zj) q/\
   (S= .u\/ ∃wd B,S= .rd wd B/\Ny fm w L p B)
 |_=>False
def rZ(fm:FM)(w:World)(L:Nat->Loc):Prop:= ∀p∈fm.tb,¬ma L p.1/\ ∃c t f,p.2 c/\w.heap[p.1]?=U (.cells c t f)
structure HR(fm:FM)(w:World)(L:Nat->Loc)(H:HF):Prop where
 obj: ∀a o,H a=U (U o)->pW fm w L (L a) o
 live: ∀a,(∃g es cap,L a= .cells g es cap)\/(∃b,L a= .nil b)-> ∃o,H a=U (U o)
 fresh: ∀a,L a= .fresh↔H a=zz
 inj: ∀a b g e c e' c',L a= .cells g e c->L b= .cells g e' c'->a=b
 hid: ∀a s,L a= .hid s-> ∀g,s g->g<w.heap.size/\ ¬kN L g
 qw: ∀a o g es cap,H a=U (U o)->o.es=0->L a= .cells g es cap->nZ w g fm.bu
 qU: ∀a i g,L a= .mp i g->(∃o,H a=U (U o))/\ ∀b j,L b= .mp j g->a=b
 tab:rZ fm w L
structure iv(L:Nat->Loc)(w w':World):Prop where
 os:w'.os=w.os
 tape:w'.tape=w.tape
 output:w'.output=w.output
 size:w.heap.size<=w'.heap.size
 lF: ∀b,b<w.heap.size-> ¬kN L b->w'.heap[b]?=w.heap[b]?
 tY: ∀b t,nZ w b t->nZ w' b t
structure hY(L L':Nat->Loc)(n:Nat):Prop where
 old: ∀a,L a≠ .fresh->L' a=L a\/(L' a= .dead/\ ∀g,L a≠ .hid g)
 own: ∀b,ma L' b->ma L b\/n<=b
 r_: ∀b,kN L' b->kN L b\/n<=b
theorem nZ.of{w w':World}{b:Nat}{t:TypeId}(h:w'.heap[b]?=w.heap[b]?)(k:nZ w b t):nZ w' b t:=by
 obtain⟨c,f,k⟩:=k;exact⟨c,f,h.trans k⟩
theorem nZ.lt{w:World}{b:Nat}{t:TypeId}(k:nZ w b t):b<w.heap.size:=by
 obtain⟨c,f,k⟩:=k;exact(pV.1 k).1
theorem iv.refl(L:Nat->Loc)(w:World):iv L w w:=⟨rfl,rfl,rfl,jG _,λ_ _ _=>rfl,λ_ _ h=>h⟩
theorem rZ.mono{fm:FM}{w w':World}{L d:Nat->Loc}(h:rZ fm w L)(k:iv L w w')(H: ∀b,ma d b->ma L b\/w.heap.size<=b):rZ fm w' d:=λp g=>by
 obtain⟨h1,c,t,f,q,h2⟩:=h p g;have y:=(pV.1 h2).1;exact⟨λh=>(H _ h).elim h1 (λh=>by omega),c,t,f,q,(k.lF _ y λh=>h1 (.inl h)).trans h2⟩
theorem rZ.loc{fm:FM}{w:World}{L d:Nat->Loc}(h:rZ fm w L)(H: ∀b,b<w.heap.size->ma d b->ma L b):rZ fm w d:=λp g=>by
 obtain⟨h1,c,t,f,k,h2⟩:=h p g;exact⟨λh=>h1 (H _ (pV.1 h2).1 h),c,t,f,k,h2⟩
theorem hY.refl(L:Nat->Loc)(n:Nat):hY L L n:=⟨λ_ _=>.inl rfl,λ_ h=>.inl h,λ_ h=>.inl h⟩
theorem hY.mono{L d:Nat->Loc}{n m:Nat}(h:hY L d n)(g:m<=n):hY L d m:=
 ⟨h.old,λb H=>(h.own b H).imp id (λh=>nu g h),λb H=>(h.r_ b H).imp id (λh=>nu g h)⟩
theorem hY.trans{A B C:Nat->Loc}{n:Nat}(h:hY A B n)(k:hY B C n):hY A C n:=by
 refine⟨λa p=> ?_,λb H=> ?_,λb H=> ?_⟩
 .rcases h.old a p with e| ⟨e,d⟩
  .rcases k.old a (by rw[e];exact p)with e'| ⟨e',d⟩
   .exact .inl (e'.trans e)
   .exact .inr ⟨e',λg=>by rw[<-e];exact d g⟩
  .rcases k.old a (by rw[e];exact λh=>by cases h)with e'| ⟨e',_⟩
   .exact .inr ⟨e'.trans e,d⟩
   .exact .inr ⟨e',d⟩
 .rcases k.own b H with H|H
  .exact h.own b H
  .exact .inr H
 .rcases k.r_ b H with H|H
  .exact h.r_ b H
  .exact .inr H
theorem iv.trans{L d:Nat->Loc}{a b c:World}(h:iv L a b)(q:hY L d a.heap.size)(k:iv d b c):iv L a c:=by
 refine⟨k.os.trans h.os,k.tape.trans h.tape,k.output.trans h.output,nu h.size k.size,λi g p=> ?_,λb t w=>k.tY b t (h.tY b t w)⟩;rw[k.lF i (mS g h.size) (λH=> ?_),h.lF i g p];rcases q.r_ i H with H|H
 .exact p H
 .omega
theorem iv.cell{L:Nat->Loc}{w w':World}(h:iv L w w'){p:Addr}(H:p.block<w.heap.size)(d: ¬ma L p.block):
  w'.cell? p=w.cell? p:=World.cell?_of_block (h.lF p.block H (λg=>d (.inl g)))
theorem hY.sa{L d:Nat->Loc}{n b:Nat}(h:hY L d n)(H: ¬ma L b)(k:b<n): ¬ma d b:=λg=>by
 rcases h.own b g with h|h
 .exact H h
 .omega
theorem VR.mono{fm:FM}{w w':World}{L J:Nat->Loc}(q:iv L w w')(d:hY L J w.heap.size){x:Value}{a:AV}(h:VR fm w L x a):
  VR fm w' J x a:=by
 induction h with
 |v x=>exact .v x
 |u x=>exact .u x
 |emp A=>exact .emp A
 |lT A es c=>exact .lT A es c
 |rd b o c es l vals C D y E z H F h1 M I=>
  exact .rd b o c es l vals C D y E (d.sa z H) (mS H q.size)
   (λi e j x N G=>by rw[q.cell (p:=⟨b,_,zz⟩) H z];exact F i e j x N G) h1 I
 |rp b o cs vals z H F h1 M I=>
  exact .rp b o cs vals (d.sa z H) (mS H q.size)
   (λj x G=>by rw[q.cell (p:=⟨b,_,zz⟩) H z];exact F j x G) h1 I
 |jH g es cap a O len h B=>
  rcases d.old a (by rw[h];exact λh=>by cases h)with e| ⟨e,_⟩
  .exact .jH g es cap a O len (e.trans h) B
  .exact .ju _ _ a O len e (by omega)
 |jo A a b h P=>
  rcases d.old a (by rw[h];exact λh=>by cases h)with e| ⟨e,_⟩
  .exact .jo A a b (e.trans h) P
  .exact .ju _ _ a 0 0 e (jG _)
 |ju A c a O len h B=>
  rcases d.old a (by rw[h];exact λh=>by cases h)with e| ⟨e,_⟩
  .exact .ju _ _ a O len (e.trans h) B
  .exact .ju _ _ a O len e B
 |lg g es cap a i j h=>
  rcases d.old a (by rw[h];exact λh=>by cases h)with e| ⟨e,_⟩
  .exact .lg g es cap a i j (e.trans h)
  .exact .jN _ a i j e
 |jN R a i j h=>
  rcases d.old a (by rw[h];exact λh=>by cases h)with e| ⟨e,_⟩
  .exact .jN _ a i j (e.trans h)
  .exact .jN _ a i j e
 |qT g a v h Q K=>
  rcases d.old a (by rw[h];exact λh=>by cases h)with e| ⟨e,_⟩
  .exact .qT g a v (e.trans h) (q.tY _ _ Q) K
  .rcases K with rfl|rfl
   .exact .lL _ a e
   .exact .lL _ a e
 |lL p a h=>
  rcases d.old a (by rw[h];exact λh=>by cases h)with e| ⟨e,_⟩
  .exact .lL p a (e.trans h)
  .exact .lL p a e
 |rX g a h=>
  rcases d.old a (by rw[h];exact λh=>by cases h)with e| ⟨e,_⟩
  .exact .rX g a (e.trans h)
  .exact .mJ _ a e
 |rY g a h=>
  rcases d.old a (by rw[h];exact λh=>by cases h)with e| ⟨e,_⟩
  .exact .rY g a (e.trans h)
  .exact .lL _ a e
 |mJ p a h=>
  rcases d.old a (by rw[h];exact λh=>by cases h)with e| ⟨e,_⟩
  .exact .mJ p a (e.trans h)
  .exact .mJ p a e
 |agg xs cs k h1 h I=>exact .agg xs cs k h1 I
 |iZ xs cs k h I=>exact .iZ xs cs k I
 |clo f xs cs k h I=>exact .clo f xs cs k I
 |er t p=>exact .er t p
theorem MV.mono{fm:FM}{w w':World}{L d:Nat->Loc}(k:iv L w w')(H:hY L d w.heap.size){K:Nat}{v:Value}{r:List AV}(h:MV fm w L K v r):MV fm w' d K v r:=by
 rcases h with⟨h0,a,h1,h2,g⟩| ⟨h0,xs,h1,h2⟩
 .exact .inl ⟨h0,a,h1,h2,g.mono k H⟩
 .exact .inr ⟨h0,xs,h1,h2.mono k H⟩
theorem MR.mono{fm:FM}{w w':World}{L g:Nat->Loc}(H:iv L w w')(d:hY L g w.heap.size){K:Nat}{es:Array MapEntry}{el:List (List AV)}(h:MR fm w L K es el):MR fm w' g K es el:=
 ⟨h.len,λi e p=>by
  obtain⟨m,b,k,r,h1,h2,q,y,z⟩:=h.row i e p;exact⟨m,b,k,r,h1,h2,q.mono H d,y.mono H d,z.mono H d⟩⟩
theorem HR.Ew{fm:FM}{w:World}{L:Nat->Loc}{H:HF}(h:HR fm w L H){a g:Nat}{i:Bool}(y:L a= .mp i g): ∃ob,w.heap[g]?=U ob/\ ∀c t f,ob≠ .cells c t f:=by
 obtain⟨⟨o,A⟩,_⟩:=h.qU a i g y;have:=h.obj a o A;rw[y]at this;cases i with
 |false=>
  obtain⟨_,es,k,c0,R,T,p,_⟩:=this;exact⟨_,p,λc t f e=>by cases e⟩
 |true=>
  obtain⟨_,a0,s,t,S,B,G,q,z,d,p,_⟩:=this;exact⟨_,p,λc t f e=>by cases e⟩
theorem HR.Af{fm:FM}{w:World}{L:Nat->Loc}{H:HF}(h:HR fm w L H){a g:Nat}{i:Bool}(d:L a= .mp i g):g<w.heap.size:=by
 obtain⟨_,k,_⟩:=h.Ew d;exact(pV.1 k).1
theorem xL{fm:FM}{w w':World}{L F:Nat->Loc}{i:Bool}{g:Nat}{o:iu}(h:pW fm w L (.mp i g) o)(k:iv L w w')(H:hY L F w.heap.size)
  (G: ∀ob,w.heap[g]?=U ob->w'.heap[g]?=U ob):pW fm w' F (.mp i g) o:=by
 cases i with
 |false=>
  obtain⟨h0,es,C,c0,R,T,h1,h2,z,A,B,D⟩:=h;exact⟨h0,es,C,c0,R,T,G _ h1,h2,z.mono k H,λt I=>(A t I).mono k H,B,D.imp id (λ⟨W,el,e,y⟩=>⟨W,el,e,y.mono k H⟩)⟩
 |true=>
  obtain⟨h0,a0,s,t,S,E,J,p,q,d,h1,h2,z,A,B,D,K⟩:=h;exact⟨h0,a0,s,t,S,E,J,p,q,d,G _ h1,h2,z.mono k H,A.mono k H,B.mono k H,D.mono k H,K.imp id (λ⟨W,M,e,y⟩=>⟨W,M,e,y.1,λi e N=>by
   obtain⟨n,b,O,P,Q⟩:=y.2 i e N;exact⟨n,b,O,P,Q.mono k H⟩⟩)⟩
theorem HR.mono{fm:FM}{w w':World}{L:Nat->Loc}{H:HF}(h:HR fm w L H)(k:iv L w w')
  (A: ∀b,b<w.heap.size->kN L b->w'.heap[b]?=w.heap[b]?):HR fm w' L H:=by
 refine⟨λa o y=> ?_,h.live,h.fresh,h.inj,λa s B g C=>⟨mS (h.hid a s B g C).1 k.size,(h.hid a s B g C).2⟩,λa o g es cap h1 h2 z=>k.tY _ _ (h.qw a o g es cap h1 h2 z),h.qU,h.tab.mono k λ_ h=>.inl h⟩;have d:=h.obj a o y;revert d;cases D:L a with
 |fresh=>exact id
 |dead=>exact id
 |nil=>exact id
 |hid g=>exact id
 |cells g es cap=>
  rintro⟨h0,h1,h2,z,F,cur,ty,E,G,I⟩;refine⟨h0,h1,h2,z,F,cur,ty,?_,G,λi e j x J K=> ?_⟩
  .rw[A g ?_ (.inl ⟨a,es,cap,D⟩)]
   .exact E
   .exact(pV.1 E).1
  .obtain⟨p,q⟩:=I i e j x J K;exact⟨p,q.mono k (hY.refl _ _)⟩
 |mp i g=>
  intro M;exact xL M k (hY.refl _ _) (λob h1=>by rw[A g (pV.1 h1).1 (.inr ⟨a,i,D⟩)];exact h1)
end Go.Abs
namespace Go.Abs
open Go
abbrev Env:=List (Nat×AV)
def zc:Value->AV
 | .slice zz 0 0=>.emp
 |v=>.v v
inductive iY where
 |t (n:Nat)
 |c (v:AV)
 deriving Inhabited
inductive Nz where
 |mm (mx:Bool)
 |Ey (ng:Bool)
 |isp (ng:Bool)
 |isi (ng:Bool)
 |emz
 |sl3 (es:Nat)
 |sbyt
 |add64
 |sub64
 deriving Inhabited
inductive pa where
 |lit (es:Nat)
 |appD (es:Nat)
 |apps
 |bstr
 |bld
 |appb
 |appDb
 |litb
 |mkm (kd wd:Nat)
 |mget (ks:Bool) (kd:Nat) (ok:Bool)
 |mput (ks:Bool) (kd wd:Nat)
 |mdel (ks:Bool) (wd:Nat)
 |mlen
 |mrng
 |ment
 |mnxt
 |cpy (es:Nat)
 |ixa (len:Nat)
 deriving Inhabited,DecidableEq
def pa.mK:pa->Bool
 | .appD _| .apps| .appb| .appDb| .mput _ _ _| .mdel _ _| .cpy _| .mnxt=>zZ
 |_=>zj
def pa.deep:pa->Bool
 | .ment| .mnxt=>zZ
 |_=>zj
def pa.news:pa->Bool
 | .lit _| .appD _| .apps| .bld| .appb| .appDb| .litb| .mkm _ _| .mrng=>zZ
 |_=>zj
def pa.look:pa->Nat
 | .appD _| .apps| .bstr| .appb| .appDb| .mget _ _ _| .mput _ _ _| .mdel _ _| .mlen| .mrng| .ment| .mnxt| .cpy _=>1
 |_=>0
inductive jA where
 |pv (op:Nz) (xs:List iY)
 |mv (x:iY)
 |pick (c a b:iY)
 |box (x:iY)
 |alloc (z:List Value)
 |build (z:List Value) (parts:List (Nat×Nat×iY))
 |bsl (es:Nat) (z:List Value) (len:Nat) (parts:List (Nat×iY))
 |load (agg:Bool) (n:Nat) (x:iY)
 |loadR (agg:Bool) (n:Nat) (x:iY)
 |store (n:Nat) (x y:iY)
 |nilc (x:iY)
 |bin (op:BinOp) (x y:iY)
 |beq (neg:Bool) (x y:iY)
 |eqa (neg:Bool) (ks:List Nat) (x y:iY)
 |not (x:iY)
 |neg (x:iY)
 |conv (k:IntKind) (x:iY)
 |cvs (x:iY)
 |fad (off:Nat) (x:iY)
 |fld (agg:Bool) (off n:Nat) (x:iY)
 |iad (es:Nat) (x i:iY)
 |iada (es len:Nat) (x i:iY)
 |idx (x i:iY)
 |slcS (x:iY) (lo hi:Option iY)
 |slcR (es:Nat) (x:iY) (lo hi:Option iY)
 |ext (x:iY) (i:Nat)
 |len (x:iY)
 |lenS (x:iY)
 |app (es:Nat) (s x:iY)
 |mksl (es:Nat) (z:List Value) (n c:iY)
 |call (f:Nat) (args:List iY)
 |dyn (x:iY) (args:List iY)
 |dynP (x:iY) (args:List iY)
 |callN (f:Nat) (args:List iY) (d:Bool)
 |mkf (f:Nat) (F':List iY)
 |px (op:pa) (xs:List iY)
 deriving Inhabited
structure AI where
 dst:Option Nat
 op:jA
 guard:Option (Nat×Bool)
 old:Bool:=zj
 nw:Bool:=zj
 deriving Inhabited
inductive i_ where
 |skip
 |qx (ops:List AI)
 |pb (ls:List (List AI))
 |seq (a b:i_)
 |cond (c:iY) (a b:i_)
 |lF (id:Nat) (b:i_)
 |loop (b:i_)
 |exit (id:Nat)
 |ret
 |bad
 deriving Inhabited
structure jI where
 env:Env
 heap:ic
 base:Nat
abbrev vP:=List AV->ic->AV->ic->Prop
structure Ctx where
 C:Nat->vP
 pf:Nat->Bool
def jk:Env->Nat->AV
 | [],_=>.u
 | (n,v)::r,t=>bif n==t then v else jk r t
def iC(env:Env):iY->AV
 | .t n=>jk env n
 | .c v=>v
def jh(env:Env)(x:iY)(K:AV->Prop):Prop:=K (iC env x)
def Ag(b:Bool)(A B:Prop):Prop:=(b=zZ->A)/\ (b=zj->B)
def cellsOf:AV->Option (List AV)
 | .agg cs=>U cs
 | .iZ _=>zz
 | .u=>zz
 | .v x=>if x.oneCell' then U [.v x]else zz
 |a=>U [a]
def BN(a:AV)(K:List AV->Prop):Prop:= ∃cs,cellsOf a=U cs/\K cs
def VB(a:AV)(K:Bool->Prop)(S:Prop):Prop:=(∃b,a= .v (.bool b)/\K b)\/(a= .v undef/\S)
def Gb(a:AV)(K:Bool->Prop):Prop:= ∃b,a= .v (.bool b)/\K b
def qV(a:AV)(K:Int->Prop):Prop:= ∃k n,a= .v (.int k n)/\K n
def wE(a:AV)(K:ByteArray->Prop):Prop:= ∃s,a= .v (.string s)/\K s
def sQ(g:Bool)(n:Nat)(cs:List AV)(K:AV->Prop):Prop:=
 match g with
 |true=>n<=cs.length/\K (.agg (cs.take n))
 |false=> ∃c,cs[0]?=U c/\K c
def qW(H:HF)(a:Nat)(K:iu->Prop):Prop:= ∃o,H a=U (U o)/\K o
inductive jy where
 |set (a:Nat) (o:Option iu)
 |push (o:Option iu)
def Ez(H:ic):jy->ic
 | .set a o=>H.set a o
 | .push o=>H++[o]
def rI:ic->List jy->ic
 |H,[]=>H
 |H,u::r=>rI (Ez H u) r
def iK(l:List AV)(j:Nat)(cs:List AV):List AV:=l.take j++cs++l.drop (j+cs.length)
def Ah(l:List AV)(env:Env):List (Nat×Nat×iY)->(List AV->Prop)->Prop
 | [],K=>K l
 | (O,n,x)::r,K=>jh env x λa=>BN a λcs=>cs.length=n/\O+n<=l.length/\Ah (iK l O cs) env r K
def s_(es:Nat)(l:List (List AV))(env:Env):List (Nat×iY)->(List (List AV)->Prop)->Prop
 | [],K=>K l
 | (i,x)::r,K=>jh env x λa=>BN a λcs=>cs.length=es/\i<l.length/\s_ es (l.set i cs) env r K
def EA(p:BinOp)(k:IntKind)(x y:Int)(K:Value->Prop):Prop:=
 match p with
 | .add=>K (.int k (k.wrap (x+y)))
 | .sub=>K (.int k (k.wrap (x-y)))
 | .mul=>K (.int k (k.wrap (x*y)))
 | .quo=>y≠0/\K (.int k (k.wrap (x.tdiv y)))
 | .rem=>y≠0/\K (.int k (x.tmod y))
 | .and=>K (.int k (bits .and k x y))
 | .or=>K (.int k (bits .or k x y))
 | .xor=>K (.int k (bits .xor k x y))
 | .andNot=>K (.int k (bits .andNot k x y))
 | .shl=>0<=y/\K (.int k (k.wrap (x*2^(min y.toNat k.bits))))
 | .shr=>0<=y/\K (.int k (x.fdiv (2^(min y.toNat k.bits))))
 | .eql=>K (.bool (x==y))
 | .neq=>K (.bool (x !=y))
 | .lss=>K (.bool (decide (x<y)))
 | .leq=>K (.bool (decide (x<=y)))
 | .gtr=>K (.bool (decide (x>y)))
 | .geq=>K (.bool (decide (x>=y)))
def BO(p:BinOp)(x y:ByteArray)(K:Value->Prop):Prop:=
 match p with
 | .add=>((x.size+y.size:Nat):Int)<=9223372036854775807/\K (.string (x++y))
 | .eql=>K (.bool (x.toList==y.toList))
 | .neq=>K (.bool (!(x.toList==y.toList)))
 | .lss=>K (.bool (Op.bytesLess x.toList y.toList))
 | .leq=>K (.bool (Op.bytesLess x.toList y.toList||x.toList==y.toList))
 | .gtr=>K (.bool (!(Op.bytesLess x.toList y.toList||x.toList==y.toList)))
 | .geq=>K (.bool (!Op.bytesLess x.toList y.toList))
 |_=>False
def qX(p:BinOp)(a b:AV)(K:Value->Prop):Prop:=
 match a,b with
 | .v (.int k x),.v (.int d y)=>(k=d\/p= .shl\/p= .shr)/\EA p k x y K
 | .v (.string x),.v (.string y)=>BO p x y K
 |_,_=>False
def pX:Nat->AV->AV->Option Bool
 |0,.v (.bool a),.v (.bool b)=>U (a==b)
 |1,.v (.int k a),.v (.int K b)=>if k=K then U (a==b)else zz
 |2,.v (.string a),.v (.string b)=>U (a.toList==b.toList)
 |_,_,_=>zz
def sd:List Nat->List AV->List AV->Option Bool
 | [],[],[]=>U zZ
 |k::K,a::as,b::B=>match pX k a b,sd K as B with
  |some x,U y=>U (x&&y)
  |_,_=>zz
 |_,_,_=>zz
inductive Coe:AV->AV->Prop
 |refl (a:AV):Coe a a
 |j_ (es:Nat):Coe .emp (.rd es [])
 |rd (es:Nat) (l l':List (List AV)) (hl:l.length=l'.length) (hz: ∀(i:Nat) (e e':List AV),l[i]?=U e->l'[i]?=U e'->e.length=e'.length)
  (h: ∀(i:Nat) (e e':List AV) (j:Nat) (x x':AV),l[i]?=U e->l'[i]?=U e'->e[j]?=U x->e'[j]?=U x'->Coe x x'):Coe (.rd es l) (.rd es l')
 |rp (cs nv:List AV) (hl:cs.length=nv.length) (h: ∀(j:Nat) (x x':AV),cs[j]?=U x->nv[j]?=U x'->Coe x x'):Coe (.rp cs) (.rp nv)
 |agg (cs nv:List AV) (hl:cs.length=nv.length) (h: ∀(j:Nat) (x x':AV),cs[j]?=U x->nv[j]?=U x'->Coe x x'):Coe (.agg cs) (.agg nv)
 |iZ (cs nv:List AV) (hl:cs.length=nv.length) (h: ∀(j:Nat) (x x':AV),cs[j]?=U x->nv[j]?=U x'->Coe x x'):Coe (.iZ cs) (.iZ nv)
 |clo (f:Nat) (cs nv:List AV) (hl:cs.length=nv.length) (h: ∀(j:Nat) (x x':AV),cs[j]?=U x->nv[j]?=U x'->Coe x x'):Coe (.clo f cs) (.clo f nv)
def jX(R:AV->AV->Prop):List AV->List AV->Prop
 | [],[]=>True
 |a::as,b::B=>R a b/\jX R as B
 |_,_=>False
def se(H:HF)(a b:AV):Prop:=
 a=b\/ ∃i O len o,a= .ref i O len/\H i=U (U o)/\O+len<=o.el.length/\b= .rd (wd o.es) ((o.el.drop O).take len)
def vQ(H:HF)(a b:AV):Prop:=
 se H a b\/ ∃cs ds,a= .agg cs/\b= .agg ds/\jX (se H) cs ds
inductive NR:AV->Prop
 |v (x:Value):NR (.v x)
 |u:NR .u
 |emp:NR .emp
 |rd (es:Nat) (l:List (List AV)) (h: ∀e∈l,∀x∈e,NR x):NR (.rd es l)
 |rp (cs:List AV) (h: ∀x∈cs,NR x):NR (.rp cs)
 |agg (cs:List AV) (h: ∀x∈cs,NR x):NR (.agg cs)
 |iZ (cs:List AV) (h: ∀x∈cs,NR x):NR (.iZ cs)
 |clo (f:Nat) (cs:List AV) (h: ∀x∈cs,NR x):NR (.clo f cs)
 |er:NR .er
inductive mY:AV->Prop
 |v (x:Value):mY (.v x)
 |iZ (l:List AV) (h: ∀a∈l,∃x,a= .v x):mY (.iZ l)
 |emp:mY .emp
 |lT (es:Nat):mY (.rd es [])
 |agg (l:List AV) (h: ∀a∈l,mY a):mY (.agg l)
 |NA (l:List AV) (h: ∀a∈l,mY a):mY (.iZ l)
inductive yp(H:HF):AV->AV->Prop
 |s (a:AV) (h:mY a):yp H a a
 |agg (cs ds:List AV) (hl:cs.length=ds.length) (h: ∀(j:Nat) (x y:AV),cs[j]?=U x->ds[j]?=U y->yp H x y):yp H (.agg cs) (.agg ds)
 |iZ (cs ds:List AV) (hl:cs.length=ds.length) (h: ∀(j:Nat) (x y:AV),cs[j]?=U x->ds[j]?=U y->yp H x y):yp H (.iZ cs) (.iZ ds)
 |ref (a off len:Nat) (o:iu) (l:List (List AV)) (ho:H a=U (U o)) (hle:off+len<=o.el.length) (hl:len=l.length)
  (hz: ∀(i:Nat) (e e':List AV),o.el[off+i]?=U e->l[i]?=U e'->e.length=e'.length)
  (h: ∀(i:Nat) (e e':List AV) (j:Nat) (x y:AV),o.el[off+i]?=U e->l[i]?=U e'->e[j]?=U x->e'[j]?=U y->yp H x y):yp H (.ref a off len) (.rd (wd o.es) l)
def yq(C:Ctx)(f:Nat)(args:List AV)(r:AV):Prop:= ∃r0 H,C.C f args [zz] r0 H/\yp (hf H) r0 r
def JY(c c':AV):Prop:=c'=c\/c'= .u
def VC(e e':List AV):Prop:=e.length=e'.length/\ ∀(j:Nat) (x X:AV),e[j]?=U x->e'[j]?=U X->JY x X
def Gc(c c':AV):Prop:=JY c c'\/ ∃es l l',c= .rd es l/\c'= .rd es l'/\l.length=l'.length/\ ∀(i:Nat) (e e':List AV),l[i]?=U e->l'[i]?=U e'->VC e e'
def NB(o o':iu):Prop:=o'.es=o.es/\o.el.length=o'.el.length/\ ∀(i:Nat) (e e':List AV),o.el[i]?=U e->o'.el[i]?=U e'->e.length=e'.length/\ ∀(j:Nat) (x X:AV),e[j]?=U x->e'[j]?=U X->Gc x X
def NC(H d:ic):Prop:=d.length=H.length/\ ∀a:Nat,d[a]?=H[a]?\/ ∃o O,H[a]?=U (U o)/\d[a]?=U (U O)/\NB o O
def Ai(C:Ctx)(f:Nat)(args:List AV)(H:ic)(K:AV->ic->Prop):Prop:=
 (C.pf f=zZ/\ ∃d A r,jX (vQ (hf H)) args d/\ (d=args\/mY r\/yq C f A r)/\jX Coe d A/\C.C f A [] r []/\K r H)\/
 (C.pf f=zj/\ ∃A g r H',jX Coe args A/\NC H g/\C.C f A g r H'/\H.length<=H'.length/\K r H')
def c_:Nat:=1073741824
def EB(os es:Nat)(s:AV)(l:List (List AV))(H:HF)(nid:Nat)(K:AV->List jy->Prop):Prop:=
 match s with
 | .ref a O len=>qW H a λo=>O=0/\len=o.el.length/\o.es=os/\o.el.length+l.length<=c_/\ (∀e∈l,e.length=es)/\
   K (.ref nid 0 (o.el.length+l.length)) [.set a zz,.push (U ⟨os,o.el++l⟩)]
 | .emp=>l.length<=c_/\ (∀e∈l,e.length=es)/\ (os=0->l≠ [])/\K (.ref nid 0 l.length) [.push (U ⟨os,l⟩)]
 |_=>False
abbrev mu(es:Nat)(s:AV)(l:List (List AV))(H:HF)(nid:Nat)(K:AV->List jy->Prop):Prop:=EB es es s l H nid K
def pY(env:Env)(o:Option iY)(d:Nat)(K:Nat->Prop):Prop:=
 match o with
 |none=>K d
 |some x=>jh env x λa=>qV a λn=>0<=n/\K n.toNat
def EC(mx:Bool)(k:IntKind):Int->List AV->Option AV
 |m,[]=>U (.v (.int k m))
 |m,.v (.int _ n)::r=>EC mx k (bif mx then max m n else min m n) r
 |_,_=>zz
def yr:AV->Bool
 | .v (.int _ n)=>decide (n=0)
 |_=>zj
def Aj(x y c:Int):Int×Int:=(((x.toNat+y.toNat+c.toNat) % 18446744073709551616:Nat),((x.toNat+y.toNat+c.toNat)/18446744073709551616:Nat))
def Ak(x y c:Int):Int×Int:=(((x.toNat+18446744073709551616-y.toNat-c.toNat) % 18446744073709551616:Nat),((if x.toNat<y.toNat+c.toNat then 1 else 0:Nat)))
def lG:Nz->List AV->Option AV
 | .mm mx,.v (.int k m)::r=>EC mx k m r
 | .Ey g,[.rd _ (_::_)]=>U (.v (.bool g))
 | .Ey g,[.v (.slice A _ _)]=>U (.v (.bool (bif g then !A.isNone else A.isNone)))
 | .isp g,[.v (.pointer p)]=>U (.v (.bool (bif g then !p.isNone else p.isNone)))
 | .isp g,[.ptr _ _ _]=>U (.v (.bool g))
 | .isi g,[.v .nilIface]=>U (.v (.bool (!g)))
 | .isi g,[.er]=>U (.v (.bool g))
 | .emz,[a,L,H,mx]=>if yr L=zZ/\yr H=zZ/\yr mx=zZ then match a with
   | .rd _ _| .emp| .v (.slice _ _ _)=>U .emp
   |_=>zz
   else zz
 | .sl3 es,[a,.v (.int _ i),.v (.int _ h),.v (.int _ m)]=>match a with
   | .rd E l=>if E=es/\0<=i/\i<=h/\h<=m/\m<=(l.length:Int)then U (.rd es ((l.take h.toNat).drop i.toNat))else zz
   | .emp=>if i=0/\h=0/\m=0 then U .emp else zz
   |_=>zz
 | .sbyt,[.v (.string s)]=>U (.rd 1 (s.toList.map λb=>[.v (.int .u8 b.toNat)]))
 | .add64,[.v (.int .u64 x),.v (.int .u64 y),.v (.int .u64 c)]=>if c.toNat<=1 then U (.iZ [.v (.int .u64 (Aj x y c).1),.v (.int .u64 (Aj x y c).2)])else zz
 | .sub64,[.v (.int .u64 x),.v (.int .u64 y),.v (.int .u64 c)]=>if c.toNat<=1 then U (.iZ [.v (.int .u64 (Ak x y c).1),.v (.int .u64 (Ak x y c).2)])else zz
 |_,_=>zz
def iM(s:ByteArray):List (List AV):=s.toList.map λb=>[.v (.int .u8 b.toNat)]
def JZ:List AV->Option UInt8
 | [.v (.int .u8 n)]=>U (UInt8.ofNat n.toNat)
 |_=>zz
def vR:List (List AV)->Option (List UInt8)
 | []=>U []
 |e::r=>match JZ e,vR r with
  |some b,U B=>U (b::B)
  |_,_=>zz
def jJ:List AV->Option (List (List AV))
 | []=>U []
 |a::r=>match cellsOf a,jJ r with
  |some cs,U l=>U (cs::l)
  |_,_=>zz
def pZ:AV->Option (List (List AV))
 | .rd _ l=>U l
 | .emp=>U []
 |_=>zz
def uG(es:Nat):AV->Bool
 | .rd E _=>im E es
 |_=>zZ
def pc(os es:Nat)(s:AV)(l:List (List AV))(H:HF)(nid:Nat):Option (iu×List jy):=
 bif l.all λe=>im e.length es then match s with
  | .emp=>bif iS l.length c_&& (js 0 os|| !l.isEmpty)then U (⟨os,l⟩,[])else zz
  | .ref a O len=>match H a with
    |some (U o)=>bif im O 0&&im len o.el.length&&im o.es os&&iS (o.el.length+l.length) c_ then U (⟨os,o.el++l⟩,[.set a zz])else zz
    |_=>zz
  |_=>zz
 else zz
def Gd(K:Bool):Value->Value->Option Bool
 | .int k a,.int d b=>bif K then zz else if k=d then U (a==b)else zz
 | .string a,.string b=>bif K then U (a==b)else zz
 |_,_=>zz
def mL(k:Bool):Value->Bool
 | .int _ _=> !k
 | .string _=>k
 |_=>zj
def nJ(K:Bool)(k:Value):List (List AV)->Nat->Option (Option (Nat×List AV))
 | [],_=>U zz
 | (_:: .v d::r)::es,i=>match Gd K k d with
   |some zZ=>U (U (i,r))
   |some zj=>nJ K k es (i+1)
   |none=>zz
 |_::_,_=>zz
def pe:Nat->List AV->Option AV
 |1,[a]=>U a
 |2,r=>U (.agg r)
 |_,_=>zz
def yu:Nat->AV->Option (List AV)
 |2,.agg cs=>U cs
 |1,.agg _=>zz
 |1,a=>match cellsOf a with
  |some [c]=>U [c]
  |_=>zz
 |_,_=>zz
def n_(ok:Bool)(v:AV)(is:Bool):AV:=bif ok then .iZ [v,.v (.bool is)]else v
def Al:AV->Option (List (List AV))
 | .rd _ el=>U el
 | .emp=>U []
 |_=>zz
def ka(o:iu):Option (Int×List (List AV)×List AV):=
 match o.el with
 | [.v (.int .i64 c)::R::T]=>match Al R with
   |some el=>bif im o.es 3||im o.es 4 then U (c,el,T)else zz
   |none=>zz
 |_=>zz
def yw:List AV->Option Int
 | .v (.int .i64 b)::_=>U b
 |_=>zz
def wF(n:Int):List (List AV)->Option (List AV)
 | []=>zz
 |e::r=>match yw e with
  |some b=>bif decide (b=n)then U e else wF n r
  |none=>zz
def tc(k:AV)(r:List AV):List AV->List AV
 |b::_=>b::k::r
 | []=>[]
def vS(o:iu):Option (Nat×Int×Int×List (List AV)):=
 match o.el with
 | [[.np m,.v (.int .i64 s),.v (.int .i64 t),S,_]]=>match Al S with
   |some B=>bif im o.es 5 then U (m,s,t,B)else zz
   |none=>zz
 |_=>zz
def xF(p:pa)(xs:List AV)(H:HF)(nid:Nat):Option (AV×List jy):=
 match p,xs with
 | .lit es,xs=>match jJ xs with
   |some (e::l)=>bif js 0 es&& ((e::l).all λe=>im e.length es)&&iS (e::l).length c_ then U (.ref nid 0 (e::l).length,[.push (U ⟨es,e::l⟩)])else zz
   |_=>zz
 | .appD es,[s,x]=>match pZ x with
   |some l=>bif uG es x&&js 0 es then match pc es es s l H nid with
    |some (o,us)=>U (.rd es o.el,us++[.push zz])
    |none=>zz
    else zz
   |none=>zz
 | .appDb,[s,x]=>match pZ x with
   |some l=>bif uG 1 x then match pc 0 1 s l H nid with
    |some (o,us)=>U (.rd 1 o.el,us++[.push zz])
    |none=>zz
    else zz
   |none=>zz
 | .appb,[s,x]=>match pZ x with
   |some l=>bif uG 1 x then match pc 0 1 s l H nid with
    |some (o,us)=>U (.ref nid 0 o.el.length,us++[.push (U o)])
    |none=>zz
    else zz
   |none=>zz
 | .litb,xs=>match jJ xs with
   |some (e::l)=>bif((e::l).all λe=>im e.length 1)&&iS (e::l).length c_ then U (.ref nid 0 (e::l).length,[.push (U ⟨0,e::l⟩)])else zz
   |_=>zz
 | .apps,[s,.v (.string x)]=>match pc 0 1 s (iM x) H nid with
   |some (o,us)=>U (.ref nid 0 o.el.length,us++[.push (U o)])
   |none=>zz
 | .bstr,[.emp]=>U (.v (.string (a_ #[])),[])
 | .bstr,[.rd es l]=>bif im es 1 then match vR l with
   |some b=>U (.v (.string ⟨b.toArray⟩),[])
   |none=>zz
   else zz
 | .bstr,[.ref a O len]=>match H a with
   |some (U o)=>bif im (wd o.es) 1&&im O 0&&iS len o.el.length then match vR (o.el.take len)with
    |some b=>U (.v (.string ⟨b.toArray⟩),[])
    |none=>zz
    else zz
   |_=>zz
 | .bld,[]=>U (.ptr nid 0 0,[.push (U ⟨2,[[.np nid,.v (.slice zz 0 0)]]⟩)])
 | .mkm d wd,[]=>bif im d 1||im d 2 then U (.np nid,[.push (U ⟨d+2,[.v (.int .i64 0):: .rd wd []::List.replicate d (.v (.bool zj))]⟩)])else zz
 | .mget K d ok,[.np a,.v k,z]=>match H a with
   |some (U o)=>match ka o with
    |some (_,el,_)=>bif im o.es (d+2)&&mL K k then match nJ K k el 0 with
     |some (U (_,r))=>match pe d r with
      |some v=>U (n_ ok v zZ,[])
      |none=>zz
     |some zz=>U (n_ ok z zj,[])
     |none=>zz
     else zz
    |none=>zz
   |_=>zz
 | .mput K d wd,[.np a,.v k,v]=>match H a with
   |some (U o)=>match ka o with
    |some (c,el,T)=>bif im o.es (d+2)&&mL K k then match yu d v with
     |some r=>match nJ K k el 0 with
      |some (U (i,_))=>U (.u,[.set a (U ⟨o.es,[.v (.int .i64 c):: .rd wd (el.modify i (tc (.v k) r))::T]⟩)])
      |some zz=>U (.u,[.set a (U ⟨o.es,[.v (.int .i64 (c+1)):: .rd wd (el++[.v (.int .i64 c):: .v k::r])::T]⟩)])
      |none=>zz
     |none=>zz
     else zz
    |none=>zz
   |_=>zz
 | .mdel K wd,[.np a,.v k]=>match H a with
   |some (U o)=>match ka o with
    |some (c,el,T)=>bif mL K k then match nJ K k el 0 with
     |some (U (i,_))=>U (.u,[.set a (U ⟨o.es,[.v (.int .i64 c):: .rd wd (el.eraseIdx i)::T]⟩)])
     |some zz=>U (.u,[.set a (U ⟨o.es,[.v (.int .i64 c):: .rd wd el::T]⟩)])
     |none=>zz
     else zz
    |none=>zz
   |_=>zz
 | .mlen,[.np a]=>match H a with
   |some (U o)=>match ka o with
    |some (_,el,_)=>U (.v (.int .i64 (el.length:Nat)),[])
    |none=>zz
   |_=>zz
 | .mrng,[.np a]=>match H a with
   |some (U o)=>match ka o with
    |some (c,_,_)=>U (.np nid,[.push (U ⟨5,[[.np a,.v (.int .i64 c),.v (.int .i64 c),.rd 1 [],.v (.bool zj)]]⟩)])
    |none=>zz
   |_=>zz
 | .ment,[.np I]=>match H I with
   |some (U g)=>match vS g with
    |some (m,_,t,B)=>match H m,B.getLast? with
     |some (U o),U [.v (.int .i64 n)]=>match ka o with
      |some (c,el,_)=>bif decide (t=c)then match wF n el with
       |some (_::k::r)=>match pe (o.es-2) r with
        |some v=>U (.iZ [k,v],[])
        |none=>zz
       |_=>zz
       else zz
      |none=>zz
     |_,_=>zz
    |none=>zz
   |_=>zz
 | .cpy es,[.ref a O len,x]=>match H a with
   |some (U o)=>match pZ x with
    |some l=>bif(uG es x&& (im O 0&&im len o.el.length))&& (im o.es es&& ((l.all λe=>im e.length es)&&js 0 es))then
     U (.v (.int .i64 ((min l.length len:Nat):Int)),[.set a (U ⟨o.es,l.take (min l.length len)++o.el.drop (min l.length len)⟩)])else zz
    |none=>zz
   |_=>zz
 | .ixa len,[.agg cs,.v (.int _ n)]=>bif decide (0<=n)&&js n.toNat len then match cs[n.toNat]? with
   |some c=>U (c,[])
   |none=>zz
   else zz
 |_,_=>zz
def kA(d:jA)(env:Env)(H:HF)(nid:Nat)(K:AV->List jy->Prop):Prop:=
 match d with
 | .pv d xs=> ∃r,lG d (xs.map (iC env))=U r/\K r []
 | .mv x=>jh env x λa=>K a []
 | .pick c a b=>jh env c λc=>Gb c λt=>jh env a λa=>jh env b λb=>Ag t (K a []) (K b [])
 | .box x=>jh env x λa=>BN a λcs=>0<cs.length/\cs.length<=c_/\K (.ptr nid 0 0) [.push (U ⟨cs.length,[cs]⟩)]
 | .alloc z=>K (.ptr nid 0 0) [.push (U ⟨z.length,[z.map zc]⟩)]
 | .build z P=>Ah (z.map zc) env P λcs=>K (.agg cs) []
 | .bsl es z n P=>s_ es (List.replicate n (z.map zc)) env P λl=>K (match l with| []=>.emp|_=>.rd es l) []
 | .load g n x=>jh env x λp=>match p with
   | .rp cs=>sQ g n cs λa=>K a []
   | .ptr a i j=>qW H a λo=> ∃e,o.el[i]?=U e/\sQ g n (e.drop j) λa=>K a []
   |_=>False
 | .loadR g n x=>jh env x λp=>match p with
   | .rp cs=>sQ g n cs λa=>K a []
   |_=>False
 | .store n x y=>jh env x λp=>jh env y λy=>match p with
   | .ptr a i j=>qW H a λo=> ∃e,o.el[i]?=U e/\BN y λcs=>cs.length=n/\j+n<=e.length/\K .u [.set a (U ⟨o.es,o.el.set i (iK e j cs)⟩)]
   |_=>False
 | .nilc x=>jh env x λp=>match p with
   | .rp cs=>K (.rp cs) []
   | .ptr a i j=>K (.ptr a i j) []
   | .clo f cs=>K (.clo f cs) []
   |_=>False
 | .bin d x y=>jh env x λa=>jh env y λb=>qX d a b λr=>K (.v r) []
 | .beq N x y=>jh env x λa=>jh env y λb=>Gb a λs=>Gb b λt=>K (.v (.bool (bif N then !(s==t)else s==t))) []
 | .eqa N A x y=>jh env x λa=>jh env y λb=> ∃cs ds r,a= .agg cs/\b= .agg ds/\sd A cs ds=U r/\K (.v (.bool (bif N then !r else r))) []
 | .not x=>jh env x λa=>Gb a λb=>K (.v (.bool !b)) []
 | .neg x=>jh env x λa=> ∃k n,a= .v (.int k n)/\K (.v (.int k (k.wrap (0-n)))) []
 | .conv k x=>jh env x λa=>qV a λn=>K (.v (.int k (k.wrap n))) []
 | .cvs x=>jh env x λa=>wE a λs=>K (.v (.string s)) []
 | .fad O x=>jh env x λp=>match p with
   | .rp cs=>K (.rp (cs.drop O)) []
   | .ptr a i j=>K (.ptr a i (j+O)) []
   |_=>False
 | .fld g O n x=>jh env x λa=> ∃cs,a= .agg cs/\O<=cs.length/\sQ g n (cs.drop O) λa=>K a []
 | .iad es x i=>jh env x λa=>jh env i λi=>qV i λn=>match a with
   | .rd E l=>E=es/\0<=n/\ ∃e,l[n.toNat]?=U e/\K (.rp e) []
   | .ref a O len=>qW H a λo=>wd o.es=es/\O+len<=o.el.length/\0<=n/\n<len/\K (.ptr a (O+n.toNat) 0) []
   |_=>False
 | .iada es len x i=>jh env x λp=>jh env i λi=>qV i λn=>0<=n/\n< (len:Int)/\match p with
   | .rp cs=>K (.rp (cs.drop (n.toNat*es))) []
   | .ptr a i j=>K (.ptr a i (j+n.toNat*es)) []
   |_=>False
 | .idx x i=>jh env x λa=>jh env i λi=>wE a λs=>qV i λn=>0<=n/\ ∃b,s[n.toNat]?=U b/\K (.v (.int .u8 b.toNat)) []
 | .slcS x L q=>jh env x λa=>wE a λs=>pY env L 0 λl=>pY env q s.size λh=>l<=h/\h<=s.size/\K (.v (.string (s.extract l h))) []
 | .slcR w x L q=>jh env x λa=>match a with
   | .rd es l=>es=w/\pY env L 0 λi=>pY env q l.length λh=>i<=h/\h<=l.length/\K (.rd es ((l.take h).drop i)) []
   | .ref a O len=>pY env L 0 λi=>pY env q len λh=>i=0/\h<=len/\K (.ref a O h) []
   | .emp=>pY env L 0 λi=>pY env q 0 λh=>i=0/\h=0/\K .emp []
   |_=>False
 | .ext x i=>jh env x λa=> ∃l,a= .iZ l/\ ∃b,l[i]?=U b/\K b []
 | .lenS x=>jh env x λa=>wE a λs=>K (.v (.int .i64 (s.size:Nat))) []
 | .len x=>jh env x λa=>match a with
   | .rd _ l=>K (.v (.int .i64 (l.length:Nat))) []
   | .ref _ _ len=>K (.v (.int .i64 (len:Nat))) []
   | .emp=>K (.v (.int .i64 0)) []
   |_=>False
 | .app es s x=>jh env s λs=>jh env x λx=>match x with
   | .rd E l=>E=es/\mu es s l H nid K
   | .emp=>mu es s [] H nid K
   |_=>False
 | .mksl es z n c=>jh env n λn=>jh env c λc=>qV n λn=>qV c λc=>0<=n/\n<=c/\c<=(c_:Nat)/\
   K (.ref nid 0 n.toNat) [.push (U ⟨es,List.replicate n.toNat (z.map zc)⟩)]
 | .call _ _=>False
 | .dyn _ _=>False
 | .dynP _ _=>False
 | .callN _ _ _=>False
 | .mkf f C=>K (.clo f (C.map (iC env))) []
 | .px d xs=> ∃v us,xF d (xs.map (iC env)) H nid=U (v,us)/\K v us
def Ge(C:Ctx)(f:Nat)(args:List AV)(o:iu)(len:Nat):Prop:=
 0<o.es/\ (∀a∈args,NR a)/\ (∀e∈o.el,∀x∈e,NR x)/\ ∀n,C.C f args (List.replicate n zz) (.ref n 0 len) (List.replicate n zz++[U o])
def J0(d:Bool)(o:iu)(nid len:Nat):AV:=
 match d with
 |true=>.rd (wd o.es) o.el
 |false=>.ref nid 0 len
def ED(d:Bool)(o:iu):Option iu:=
 match d with
 |true=>zz
 |false=>U o
def EE(o:iu):Prop:= ∀e∈o.el,∀x∈e,∃v,x=AV.v v
def mZ(C:Ctx)(p:jA)(env:Env)(H:ic)(K:AV->ic->Prop):Prop:=
 match p with
 | .call f args=>Ai C f (args.map (iC env)) H K
 | .dyn x args=>jh env x λa=> ∃f cs,a= .clo f cs/\Ai C f (args.map (iC env)++cs) H K
 | .dynP x args=>jh env x λa=> ∃f cs,a= .clo f cs/\C.pf f=zZ/\Ai C f (args.map (iC env)++cs) H K
 | .callN f args d=> ∃A g o len,jX (vQ (hf H)) (args.map (iC env)) A/\ (A=args.map (iC env)\/EE o)/\jX Coe A g/\Ge C f g o len/\ (d=zZ->len=o.el.length)/\K (J0 d o H.length len) (H++[ED d o])
 |p=>kA p env (hf H) H.length λv us=>K v (rI H us)
def put(env:Env)(d:Option Nat)(v:AV):Env:=
 match d with
 |some d=>(d,v)::env
 |none=>env
def jA.iG:jA->List iY
 | .load _ _ x| .store _ x _| .iad _ x _=>[x]
 | .app _ s _=>[s]
 | .call _ args=>args
 | .callN _ args _=>args
 | .dynP x args=>x::args
 | .px p xs=>xs.take p.look
 |_=>[]
def EF(a:Nat):AV->Prop
 | .ref b _ _=>a=b
 | .agg cs=> ∃O len,AV.ref a O len∈cs
 |_=>False
def J1(n0:Nat->Prop):AV->Prop
 | .ptr a _ _=> ¬n0 a
 | .np a=> ¬n0 a
 | .ref a _ _=> ¬n0 a
 | .clo _ cs=> ∀i c,c∈cs->EF i c-> ¬n0 i
 | .agg cs=> ∀i O len,AV.ref i O len∈cs-> ¬n0 i
 |_=>True
def Gf(n0:Nat->Prop):AV->Prop
 | .ref a _ _=>n0 a
 | .ptr a _ _=>n0 a
 | .np a=>n0 a
 | .clo _ _=>False
 | .agg _=>False
 |_=>True
def Am(n0:Nat->Prop)(env:Env):List iY->Prop
 | []=>True
 |x::r=>jh env x (J1 n0)/\Am n0 env r
def An(n0:Nat->Prop)(env:Env):jA->Prop
 | .app _ s _=>jh env s (Gf n0)
 | .store _ x _=>jh env x (Gf n0)
 | .px p xs=> ∀x∈xs.take p.look,jh env x (Gf n0)
 | .call _ _=>True
 |_=>False
def jA.mb:jA->Bool
 | .call _ _=>zZ
 |_=>zj
def yx(C:Ctx)(n0:Nat->Prop)(old w:Bool)(p:jA)(env:Env)(H:ic)(K:AV->ic->Prop):Prop:=
 (old=zZ->Am n0 env p.iG)/\ (w=zZ->An n0 env p)/\mZ C p env H λv H'=>(w=zZ->p.mb=zZ-> ∀a,¬n0 a->hf H' a=hf H a)/\K v H'
def p_(C:Ctx)(n0:Nat->Prop)(i:AI)(K:jI->Prop)(st:jI):Prop:=
 match i.guard with
 |none=>yx C n0 i.old i.nw i.op st.env st.heap λv H=>K ⟨put st.env i.dst v,H,st.base⟩
 |some (g,zZ)=>jh st.env (.t g) λa=>VB a (λb=>
  Ag b (yx C n0 i.old i.nw i.op ((g,.v (.bool zZ))::st.env) st.heap λv H=>K ⟨put ((g,.v (.bool zZ))::st.env) i.dst v,H,st.base⟩)
   (K ⟨put ((g,.v (.bool zj))::st.env) i.dst (.v undef),st.heap,st.base⟩)) (K ⟨put st.env i.dst (.v undef),st.heap,st.base⟩)
 |some (g,zj)=>jh st.env (.t g) λa=>VB a (λb=>
  Ag b (K ⟨put ((g,.v (.bool zZ))::st.env) i.dst (.v undef),st.heap,st.base⟩)
   (yx C n0 i.old i.nw i.op ((g,.v (.bool zj))::st.env) st.heap λv H=>K ⟨put ((g,.v (.bool zj))::st.env) i.dst v,H,st.base⟩)) (K ⟨put st.env i.dst (.v undef),st.heap,st.base⟩)
def qy(C:Ctx)(n0:Nat->Prop):List AI->(jI->Prop)->jI->Prop
 | [],K,st=>K st
 |i::r,K,st=>p_ C n0 i (λs=>qy C n0 r K s) st
inductive Ex where
 |kM
 |exit (id:Nat)
 |ret
theorem BP(C:Ctx)(n0:Nat->Prop)(p:jA)(env:Env)(H:ic)(K:AV->ic->Prop):yx C n0 zj zj p env H K=mZ C p env H K:=by simp[yx]
theorem YqU(C:Ctx)(n0:Nat->Prop)(d:Option Nat)(p:jA)(o w:Bool)(K:jI->Prop)(env:Env)(H:ic)(B:Nat):
  p_ C n0 ⟨d,p,zz,o,w⟩ K ⟨env,H,B⟩=yx C n0 o w p env H (λv H=>K ⟨put env d v,H,B⟩):=rfl
theorem YqV(A B:Prop):Ag zZ A B=A:=by simp[Ag]
theorem YqW(A B:Prop):Ag zj A B=B:=by simp[Ag]
end Go.Abs
namespace Go.Abs
open Go
def EG:Value->AV
 | .agg cs=>if cs.all (·.oneCell')then .agg (cs.toList.map zc)else .u
 | .tuple vs=>.iZ (vs.toList.map zc)
 | .slice zz 0 0=>.emp
 |v=>.v v
def EH:Operand->Bool
 | .const (.int _ n)=>decide (n=0)
 |_=>zj
def jK(fm:FM):Operand->iY
 | .tmp t=>.t t
 | .const v=>.c (EG v)
 | .global g=>.c (.v (.pointer (U ⟨g,0,zz⟩)))
 | .func f=>.c (.clo (fm f) [])
def kc(P:Program)(t:TypeId):Option Bool:=
 match P.underlying t with
 |some (.struct _)=>U zZ
 |some (.array _ _)=>U zZ
 |some _=>U zj
 |none=>zz
def jU(P:Program)(t:TypeId):Option Nat:=(P.info? t).map (·.size)
def nG(P:Program)(t:TypeId):Option (List Value):=
 match P.info? t with
 |some i=>match i.zero with
  |some z=>if z.cells.size=i.size/\0<i.size/\i.size<=1048576/\i.bytes<=1024/\z.cells.all (·.oneCell')then U z.cells.toList else zz
  |none=>zz
 |none=>zz
def kB(P:Program)(f:FuncId):Bool:=
 match P.funcs[f]? with
 |some F=>F.body.isSome&& !(F.name== "runtime.NumGoroutine")
 |none=>zj
def BQ(L:TypeId->Option (List Nat)):List Field->Nat->Option (List Nat)
 | [],_=>U []
 |f::r,e=>if f.name≠ "_" /\f.offset=e then
   match L f.type with
   |some l=>match BQ L r (e+l.length)with
    |some l'=>U (l++l')
    |none=>zz
   |none=>zz
  else zz
def uH(P:Program):Nat->TypeId->Option (List Nat)
 |0,_=>zz
 |d+1,t=>match P.underlying t with
  |some .bool=>U [0]
  |some (.int _)=>U [1]
  |some .string=>U [2]
  |some (.struct fs)=>if P.stoodInHeld t then zz else
   match BQ (uH P d) fs.toList 0 with
   |some l=>if jU P t=U l.length then U l else zz
   |none=>zz
  |_=>zz
def hint(l:List (String×Nat))(o:Oper):Bool:=match o.dst with
 |some d=>l.any λp=>p.1==o.pos&&im p.2 d
 |none=>zj
def mw(P:Program)(t:TypeId):Option (Bool×Nat×TypeId):=
 match P.underlying t with
 |some (.map k e)=>match P.underlying k with
  |some .string=>(kc P e).map λg=>(zZ,bif g then 2 else 1,e)
  |some (.int _)=>(kc P e).map λg=>(zj,bif g then 2 else 1,e)
  |_=>zz
 |_=>zz
def wG(fm:FM):Operand->Option (List Value)
 | .global g=>(fm.gs.find? λp=>im p.1 g).map (·.2)
 |_=>zz
def sf(P:Program)(t:TypeId)(l:List Value):Bool:=
 match P.underlying t with
 |some (.array n e)=>im n l.length&& (match jU P e,jU P t with|some k,U m=>im k 1&&im m n|_,_=>zj)&&l.all (·.oneCell')
 |_=>zj
def lU(P:Program)(fm:FM)(o:Oper):Option jA:=
 let x:=jK fm
 match o.op with
 | .move a=>U (.mv (x a))
 | .assign a=>U (.mv (x a))
 | .pick c a b=>U (.pick (x c) (x a) (x b))
 | .alloc e=>if e=fm.bt then(nG P e).bind λz=>match z with
   | [.pointer zz,.slice zz 0 0]=>U (.px .bld [])
   |_=>U (.alloc z)
   else(nG P e).map .alloc
 | .box _ a=>U (.box (x a))
 | .build t h=>match P.underlying t,nG P t with
   |some (.struct fs),U z=>
    (h.toList.mapM λ(p:Nat×Operand)=>(fs[p.1]?).bind λf=>(jU P f.type).map λs=>(f.offset,s,x p.2)).bind λA=>
     if(fs.toList.all λf=>(jU P f.type).isSome)then U (.build z A)else zz
   |some (.array _ e),U z=>(jU P e).map λs=>.build z (h.toList.map λp=>(p.1*s,s,x p.2))
   |_,_=>zz
 | .buildSlice t len h=>match P.underlying t with
   |some (.slice e)=>(nG P e).bind λz=>if hint fm.own o&& (h.toList.map (·.1)==List.range len)&&decide (0<len)&&decide (len*z.length<=2^24)then(if e=fm.bu then(if z.length=1 then U (.px .litb (h.toList.map λp=>x p.2))else zz)else U (.px (.lit z.length) (h.toList.map λp=>x p.2)))else if len*z.length<=2^24 then U (.bsl z.length z len (h.toList.map λp=>(p.1,x p.2)))else zz
   |_=>zz
 | .load t a=>match wG fm a with
   |some l=>bif sf P t l then U (.mv (.c (.agg (l.map AV.v))))else zz
   |none=>(kc P t).bind λg=>(jU P t).map λn=>.load g n (x a)
 | .store t a b=>(jU P t).map λn=>.store n (x a) (x b)
 | .nilCheck a=>U (.nilc (x a))
 | .binOp O t a b _=>match O with
   | .eql=>match P.underlying t with
     |some (.slice _)=>match b with
      | .const (.slice zz 0 0)=>U (.pv (.Ey zj) [x a])
      |_=>zz
     |some (.pointer _)=>match b with
      | .const (.pointer zz)=>U (.pv (.isp zj) [x a])
      |_=>zz
     |some (.interface _)=>match b with
      | .const .nilIface=>U (.pv (.isi zj) [x a])
      |_=>zz
     |some .bool=>U (.beq zj (x a) (x b))
     |some (.int _)=>U (.bin .eql (x a) (x b))
     |some .string=>U (.bin .eql (x a) (x b))
     |some (.struct _)=>if P.eqGuardType P.depth t then zz else(uH P 9 t).map λl=>.eqa zj l (x a) (x b)
     |_=>zz
   | .neq=>match P.underlying t with
     |some (.slice _)=>match b with
      | .const (.slice zz 0 0)=>U (.pv (.Ey zZ) [x a])
      |_=>zz
     |some (.pointer _)=>match b with
      | .const (.pointer zz)=>U (.pv (.isp zZ) [x a])
      |_=>zz
     |some (.interface _)=>match b with
      | .const .nilIface=>U (.pv (.isi zZ) [x a])
      |_=>zz
     |some .bool=>U (.beq zZ (x a) (x b))
     |some (.int _)=>U (.bin .neq (x a) (x b))
     |some .string=>U (.bin .neq (x a) (x b))
     |some (.struct _)=>if P.eqGuardType P.depth t then zz else(uH P 9 t).map λl=>.eqa zZ l (x a) (x b)
     |_=>zz
   |O=>U (.bin O (x a) (x b))
 | .unOp .not _ a=>U (.not (x a))
 | .unOp .neg _ a=>U (.neg (x a))
 | .convert s d a=>match P.underlying s,P.underlying d with
   |some (.int _),U (.int k)=>U (.conv k (x a))
   |some .string,U .string=>U (.cvs (x a))
   |some .string,U (.slice e)=>match P.underlying e with
    |some (.int .u8)=>U (.pv .sbyt [x a])
    |_=>zz
   |some (.slice e),U .string=>match P.underlying e with
    |some (.int .u8)=>U (.px .bstr [x a])
    |_=>zz
   |_,_=>zz
 | .fieldAddr s a f=>match P.underlying s with
   |some (.struct fs)=>(fs[f]?).bind λw=>(jU P w.type).bind λn=>if n=0 then zz else U (.fad w.offset (x a))
   |_=>zz
 | .field s a f=>match P.underlying s with
   |some (.struct fs)=>(fs[f]?).bind λw=>(kc P w.type).bind λg=>(jU P w.type).map λn=>.fld g w.offset n (x a)
   |_=>zz
 | .indexAddr t a i=>match wG fm a with
   |some l=>bif sf P t l then U (.iad 1 (.c (.rd 1 (l.map λv=>[AV.v v]))) (x i))else zz
   |none=>match P.underlying t with
   |some (.slice e)=>(jU P e).map λs=>.iad s (x a) (x i)
   |some (.array n e)=>(jU P e).map λs=>.iada s n (x a) (x i)
   |_=>zz
 | .index t a i=>match P.underlying t with
   |some .string=>U (.idx (x a) (x i))
   |some (.array n e)=>if jU P e=U 1/\kc P e=U zj then U (.px (.ixa n) [x a,x i])else zz
   |_=>zz
 | .slice t a L H zz=>match P.underlying t with
   |some .string=>U (.slcS (x a) (L.map x) (H.map x))
   |some (.slice e)=>(jU P e).map λn=>.slcR n (x a) (L.map x) (H.map x)
   |some (.array _ _)=>match wG fm a,L,H with
    |some l,zz,zz=>bif sf P t l then U (.mv (.c (.rd 1 (l.map λv=>[AV.v v]))))else zz
    |_,_,_=>zz
   |_=>zz
 | .slice t a (U L) (U H) (U mx)=>match P.underlying t with
   |some (.slice e)=>(jU P e).map λn=>.pv (bif EH L&&EH H&&EH mx then .emz else .sl3 n) [x a,x L,x H,x mx]
   |_=>zz
 | .extract a i=>U (.ext (x a) i)
 | .makeSlice t n c=>match P.underlying t with
   |some (.slice e)=>(nG P e).map λz=>.mksl z.length z (x n) (x c)
   |_=>zz
 | .makeMap t zz=>(mw P t).bind λm=>(jU P m.2.2).map λn=>.px (.mkm m.2.1 (n+2)) []
 | .lookup t m k ok=>(mw P t).bind λq=>((P.info? q.2.2).bind (·.zero)).map λz=>.px (.mget q.1 q.2.1 ok) [x m,x k,.c (EG z)]
 | .mapUpdate t m k v=>(mw P t).bind λq=>(jU P q.2.2).map λn=>.px (.mput q.1 q.2.1 (n+2)) [x m,x k,x v]
 | .insert t m k v=>(mw P t).bind λq=>(jU P q.2.2).map λn=>.px (.mput q.1 q.2.1 (n+2)) [x m,x k,x v]
 | .range t m=>(mw P t).map λ_=>.px .mrng [x m]
 | .next i zj=>U (.px .mnxt [x i])
 | .entry i=>U (.px .ment [x i])
 | .makeFunc (.func f) F C=>if F.isEmpty then U (.mkf (fm f) (C.toList.map x))else zz
 | .call c=>match c.callee with
   | .builtin .len=>match(c.argTypes[0]?).bind P.underlying,c.args.toList with
     |some .string,[a]=>U (.lenS (x a))
     |some (.slice _),[a]=>U (.len (x a))
     |some (.map _ _),[a]=>U (.px .mlen [x a])
     |_,_=>zz
   | .builtin .delete=>match(c.argTypes[0]?).bind (mw P),c.args.toList with
     |some q,[m,k]=>(jU P q.2.2).map λn=>.px (.mdel q.1 (n+2)) [x m,x k]
     |_,_=>zz
   | .builtin .copy=>match c.argTypes.toList,c.args.toList with
     | [t,t'],[d,s]=>match P.underlying t,P.underlying t' with
       |some (.slice e),U (.slice _)=>(jU P e).map λn=>.px (.cpy n) [x d,x s]
       |_,_=>zz
     |_,_=>zz
   | .builtin .append=>match c.argTypes.toList,c.args.toList with
     | [t,t'],[s,a]=>if t=t' then match P.underlying t with
       |some (.slice e)=>(nG P e).bind λz=>if e=fm.bu/\hint fm.own o=zj then(if z.length=1 then U (.px (if hint fm.qv o then .appDb else .appb) [x s,x a])else zz)else U (if hint fm.qv o then .px (.appD z.length) [x s,x a]else .app z.length (x s) (x a))
       |_=>zz
       else match P.underlying t,P.underlying t' with
        |some (.slice e),U .string=>match nG P e with
         |some [.int .u8 _]=>if e=fm.bu then U (.px .apps [x s,x a])else zz
         |_=>zz
        |_,_=>zz
     |_,_=>zz
   | .builtin .min=>if c.args.size=0 then zz else U (.pv (.mm zj) (c.args.toList.map x))
   | .builtin .max=>if c.args.size=0 then zz else U (.pv (.mm zZ) (c.args.toList.map x))
   | .value (.func f)=>if kB P f then U (.call (fm f) (c.args.toList.map x))else match P.funcs[f]? with
     |some y=>if y.body.isSome|| !(y.origin== "")then zz else if y.name= "math/bits.Add64" then U (.pv .add64 (c.args.toList.map x))else if y.name= "math/bits.Sub64" then U (.pv .sub64 (c.args.toList.map x))else zz
     |none=>zz
   | .value (.tmp t)=>U (.dyn (.t t) (c.args.toList.map x))
   |_=>zz
 |_=>zz
def nK(P:Program)(fm:FM)(n:Nat)(O:Array Oper)(o:Oper):Option AI:=
 match lU P fm o with
 |none=>zz
 |some p=>
  if(match o.dst with|some d=>decide (d<n)|none=>zZ)then
   match o.guard with
   |none=>U ⟨o.dst,p,zz,zj,zj⟩
   |some (j,w)=>match(O[j]?).bind (·.dst)with
    |some g=>if g<n then U ⟨o.dst,p,U (g,w),zj,zj⟩else zz
    |none=>zz
  else zz
def pg{α β:Type}(f:α->Option β):List α->Option (List β)
 | []=>U []
 |a::r=>match f a,pg f r with
  |some b,U B=>U (b::B)
  |_,_=>zz
def iY.tmps:iY->List Nat
 | .t n=>[n]
 | .c _=>[]
def jA.lh:jA->List Nat
 | .mv x| .box x| .load _ _ x| .loadR _ _ x| .nilc x| .not x| .neg x| .conv _ x| .cvs x| .fad _ x| .fld _ _ _ x| .ext x _| .len x| .lenS x=>x.tmps
 | .pick c a b=>c.tmps++a.tmps++b.tmps
 | .alloc _=>[]
 | .pv _ xs=>xs.flatMap iY.tmps
 | .build _ P=>P.flatMap λp=>p.2.2.tmps
 | .bsl _ _ _ P=>P.flatMap λp=>p.2.tmps
 | .store _ x y| .bin _ x y| .beq _ x y| .eqa _ _ x y| .iad _ x y| .iada _ _ x y| .idx x y| .app _ x y| .mksl _ _ x y=>x.tmps++y.tmps
 | .slcS x L h| .slcR _ x L h=>x.tmps++(match L with|some o=>o.tmps|none=>[])++(match h with|some o=>o.tmps|none=>[])
 | .call _ args=>args.flatMap iY.tmps
 | .dyn x args| .dynP x args=>x.tmps++args.flatMap iY.tmps
 | .callN _ args _=>args.flatMap iY.tmps
 | .mkf _ args=>args.flatMap iY.tmps
 | .px _ xs=>xs.flatMap iY.tmps
def AI.lh(i:AI):List Nat:=i.op.lh++(match i.guard with|some (g,_)=>[g]|none=>[])
def jA.kf:jA->Bool
 | .pv .. | .mv _| .pick .. | .build .. | .bsl .. | .bin .. | .beq .. | .eqa .. | .not _| .neg _| .conv .. | .cvs _| .fad .. | .fld .. | .idx .. | .slcS .. | .slcR .. | .ext .. | .mkf .. | .loadR .. | .box _| .alloc _| .mksl .. | .nilc _| .len _| .lenS _| .iada .. =>zj
 | .px p _=>js 0 p.look
 |_=>zZ
def jA.mK(pf:Nat->Bool):jA->Bool
 | .store .. | .app .. | .dyn .. =>zZ
 | .call f _=> !pf f
 | .px p _=>p.mK
 |_=>zj
def jA.news(pf:Nat->Bool):jA->Bool
 | .box _| .alloc _| .app .. | .mksl .. | .dyn .. | .callN .. =>zZ
 | .call f _=> !pf f
 | .px p _=>p.news
 |_=>zj
def jA.qa(pf:Nat->Bool):jA->Bool
 | .dyn .. =>zZ
 | .call f _=> !pf f
 |_=>zj
def jA.deep:jA->Bool
 | .px p _=>p.deep
 |_=>zj
def VD(x y:AI):Bool:=
 (match x.dst with|some d=> !(y.lh.contains d)&&y.dst !=U d|none=>zZ)&&
 (match y.dst with|some d=> !(x.lh.contains d)|none=>zZ)
def jA.isApp:jA->Bool
 | .app .. =>zZ
 |_=>zj
def VE(pf:Nat->Bool)(x y:AI):Bool:=
 (!(x.op.qa pf&& (y.op.kf||y.op.news pf))|| (x.nw&&y.old&& !(y.op.mK pf)&& !(y.op.news pf)))&&
 (!(y.op.qa pf&& (x.op.kf||x.op.news pf))|| (y.nw&&x.old&& !(x.op.mK pf)&& !(x.op.news pf)))&&
 (!(x.op.mK pf&&y.op.kf)|| (x.nw&&y.old))&& (!(y.op.mK pf&&x.op.kf)|| (y.nw&&x.old))&&
 (!(x.op.news pf&&y.op.kf)||y.old)&& (!(y.op.news pf&&x.op.kf)|| (x.old||x.op.isApp))
def vT(pf:Nat->Bool)(x y:AI):Bool:=(!x.op.deep&& !y.op.deep)&& (VD x y&&VE pf x y)
def ko:List Oper->List Nat->List Nat
 | [],A=>A
 |o::r,A=>ko r (A++[o.after.toList.foldl (λs e=>if Region.binds .any e then s|||2^e.on|||A.getD e.on 0 else s) 0])
def yy(pf:Nat->Bool)(an:List Nat)(is:List AI):Bool:=
 (List.range is.length).all λi=>(List.range i).all λj=>(an.getD i 0).testBit j||
  (match is[j]?,is[i]? with|some x,U y=>vT pf x y|_,_=>zj)
def EI(pf:Nat->Bool)(L:Bool)(x y:AI):Bool×Bool:=
 (x.op.kf&& (y.op.news pf&& (L|| !x.op.isApp)||y.op.mK pf),(match x.op with| .app .. =>zZ| .store .. =>zZ| .px p _=>p.mK|_=>zj)&&y.op.kf)
def sg(pf:Nat->Bool)(an:List Nat)(is:List AI):List AI:=
 is.zipIdx.map λ(x,i)=>
  is.zipIdx.foldl (λ(s:AI) (p:AI×Nat)=>
   if p.2=i then s
   else if(an.getD (max i p.2) 0).testBit (min i p.2)then s
   else let m:=EI pf (js p.2 i) x p.1;{s with old:=s.old||m.1,nw:=s.nw||m.2}) x
def EJ(pf:Nat->Bool)(an:List Nat)(is:List AI):List AI:=
 (sg pf an is).map λx=>{x with nw:=x.nw|| (match x.op with| .call f _=> !pf f|_=>zj)}
def jA.Gg:jA->Bool
 | .px p _=>match p with| .mput .. =>zZ|_=>zj
 |_=>zj
def readOnly(is:List AI):List AI:=
 is.map λi=>match i.op with| .load g n x=>{i with op:=.loadR g n x}|_=>i
def Gh(is:List AI):List AI:=
 is.map λi=>match i.op with| .dyn x as=>{i with op:=.dynP x as}|_=>i
def tZ(pf:Nat->Bool)(dd:Nat->Bool)(is:List AI):List AI:=
 is.map λi=>match i.op with| .call f as=>if pf f then i else{i with op:=.callN f as (match i.dst with|some d=>dd d|none=>zj)}|_=>i
def yz(pf:Nat->Bool)(mk:Bool)(dd:Nat->Bool)(an:List Nat)(is:List AI):Option (List AI):=
 if is.any (λi=>i.op.deep)then zz
 else if mk&&yy pf an (sg pf an (tZ pf dd is))then U (sg pf an (tZ pf dd is))
 else if yy pf an is then U is
 else if yy pf an (sg pf an is)then U (sg pf an is)
 else if((is.any λi=>i.op.Gg)||dd 1000000)&&yy pf an (EJ pf an is)then U (EJ pf an is)
 else if yy pf an (sg pf an (readOnly is))then U (sg pf an (readOnly is))
 else if yy pf an (sg pf an (Gh is))then U (sg pf an (Gh is))
 else if yy pf an (sg pf an (tZ pf dd is))then U (sg pf an (tZ pf dd is))
 else zz
def wH:List Oper->Nat->Bool
 | [],_=>zZ
 |o::r,i=>(o.after.toList.all λe=> !Region.binds .any e||decide (e.on<i))&&wH r (i+1)
def yA(fm:FM)(O:Array Oper):Bool:=O.toList.any λo=>fm.mks.contains o.pos
def uI(fm:FM)(O:Array Oper)(d:Nat):Bool:=(im d 1000000&&O.toList.any λo=>fm.own.contains (o.pos,1000000))||O.toList.any λo=>o.dst==U d&&fm.qv.contains (o.pos,d)
def ND(fm:FM)(O:Array Oper):Bool:=O.toList.any λo=>fm.own.contains (o.pos,1000001)
def VF(P:Program)(fm:FM)(pf:Nat->Bool)(n:Nat)(O:Array Oper)(d:Bool):Option (List AI):=
 match pg (nK P fm n O) O.toList with
 |none=>zz
 |some is=>if d then(if wH O.toList 0 then yz pf (yA fm O) (uI fm O) (ko O.toList []) is else zz)else if ND fm O then U (tZ pf (uI fm O) is)else U is
def BR:List Nat->List (List Nat)
 | []=>[[]]
 |a::r=>BR r++(BR r).map (a:: ·)
def wI(l:List Nat)(a:Nat):Bool:=l.any (im a)
def nL(an:List Nat)(f:Nat)(W S:List Nat)(i j:Nat):Bool:=
 (an.getD i 0).testBit j|| (im i f&&wI S j)|| (im j f&&wI W i&& !wI S i)
def VG(an:List Nat)(f:Nat)(W S:List Nat)(m:Nat):Nat->List Nat->List Nat
 |0,_=>[]
 |k+1,d=>match(List.range m).find? λi=> !wI d i&& (List.range m).all λj=>wI d j|| !nL an f W S i j with
  |some i=>i::VG an f W S m k (i::d)
  |none=>[]
def J2(pf:Nat->Bool)(an:List Nat)(f:Nat)(W S:List Nat):List (Nat×AI)->Bool
 | []=>zZ
 |p::r=>r.all (λq=>nL an f W S q.1 p.1||vT pf p.2 q.2)&&J2 pf an f W S r
def NF(pf:Nat->Bool)(an:List Nat)(f:Nat)(W S:List Nat)(l:List (Nat×AI)):List (Nat×AI):=
 l.zipIdx.map λ(x,i)=>(x.1,(λ(y:AI)=>{y with nw:=y.nw|| (match y.op with| .call f _=> !pf f|_=>zj)}) (l.zipIdx.foldl (λ(s:AI) (p:(Nat×AI)×Nat)=>
  if p.2=i then s
  else if(if js p.2 i then nL an f W S x.1 p.1.1 else nL an f W S p.1.1 x.1)then s
  else let m:=EI pf (js p.2 i) x.2 p.1.2;{s with old:=s.old||m.1,nw:=s.nw||m.2}) x.2))
def J3:List Nat->Bool
 | []=>zZ
 |a::r=> !wI r a&&J3 r
def NG(pf:Nat->Bool)(an:List Nat)(is:List AI)(f:Nat)(W S:List Nat):Option (List (Nat×AI)):=
 match NF pf an f W S ((VG an f W S is.length is.length []).map λi=>(i,is.getD i default))with
 |l=>if(J3 (l.map Prod.fst)&& (List.range is.length).all (wI (l.map Prod.fst)))&& (l.all λp=>js p.1 is.length)&&J2 pf an f W S l then U l else zz
def NH(an:List Nat)(f:Nat)(W S:List Nat):Bool:=
 W.any λb=> !wI S b&& (S.any (λa=>(an.getD a 0).testBit b)|| (an.getD f 0).testBit b)
def NI(an:List Nat)(f:Nat)(S:List Nat):Bool:=S.any λa=>(an.getD a 0).testBit f
def VH(fm:FM)(O:Array Oper):Option Nat:=O.toList.findIdx? λo=>match o.dst with|some d=>fm.own.contains (o.pos,2000000+d)|none=>zj
def t_(pf:Nat->Bool)(h:List Bool)(is:List AI):List Nat:=(List.range is.length).filter λi=>(is.getD i default).op.qa pf||h.getD i zj
def ua(fm:FM)(O:Array Oper):List Bool:=O.toList.map λo=>match o.dst with|some d=>fm.own.contains (o.pos,3000000+d)|none=>zj
def J4(P:Program)(fm:FM)(pf:Nat->Bool)(n:Nat)(O:Array Oper)(f:Nat):Option (List (List (Nat×AI))):=
 match pg (nK P fm n O) O.toList with
 |none=>zz
 |some is=>if wH O.toList 0&& !wI (t_ pf (ua fm O) is) f&&js f is.length then
  pg (NG pf (ko O.toList []) is f (t_ pf (ua fm O) is)) ((BR (t_ pf (ua fm O) is)).filter λS=> !NH (ko O.toList []) f (t_ pf (ua fm O) is) S&& !NI (ko O.toList []) f S)
  else zz
def tr(P:Program)(fm:FM)(pf:Nat->Bool)(n:Nat):Code->Option i_
 | .skip=>U .skip
 | .region _ O d=>match d,VH fm O with
   |true,U f=>match J4 P fm pf n O f with
    |some ls=>U (.pb (ls.map (·.map Prod.snd)))
    |none=>U .bad
   |_,_=>match VF P fm pf n O d with
   |some is=>U (.qx is)
   |none=>U .bad
 | .seq a b=>match tr P fm pf n a,tr P fm pf n b with
   |some x,U y=>U (.seq x y)
   |_,_=>zz
 | .cond c a b=>match tr P fm pf n a,tr P fm pf n b with
   |some x,U y=>U (.cond (jK fm c) x y)
   |_,_=>zz
 | .block I b=>(tr P fm pf n b).map (.lF I)
 | .loop b=>(tr P fm pf n b).map .loop
 | .exit I=>U (.exit I)
 | .ret=>U .ret
 |_=>U .bad
end Go.Abs
namespace Go.Abs
open Go
def ER(fm:FM)(w:World)(L:Nat->Loc)(a:Act)(env:Env):Prop:= ∀t,VR fm w L (a.tmps.getD t undef) (jk env t)
def iD(h:HF)(nid:Nat):jy->HF
 | .set a o=>λb=>if b=a then U o else h b
 | .push o=>λb=>if b=nid then U o else h b
def iB(h:HF)(nid:Nat):List jy->HF
 | []=>h
 |u::r=>iB (iD h nid u) nid r
def jb(fm:FM)(w:World)(L:Nat->Loc)(h:HF)(v:AV)(x:Value)(w':World):Prop:=
 ∃d,iv L w w'/\hY L d w.heap.size/\HR fm w' d h/\VR fm w' d x v
section
variable{fm:FM}{w:World}{L:Nat->Loc}
theorem jb.same{h:HF}(H:HR fm w L h){x:Value}{v:AV}(d:VR fm w L x v):jb fm w L h v x w:=
 ⟨L,iv.refl _ _,hY.refl _ _,H,d⟩
theorem kI{x y:Value}(h:VR fm w L x (.v y)):x=y:=by cases h;rfl
theorem J5(x:Value):VR fm w L x (zc x):=by
 unfold zc;split
 .exact .emp _
 .exact .v _
theorem VJ(x:Value):VR fm w L x (EG x):=by
 unfold EG;split
 .rename_i cs;split
  .rename_i g;have q: ∀j a,(cs.toList.map zc)[j]?=U a->a=zc (cs.getD j undef)/\j<cs.size:=by
    intro j a h;rw[jt]at h;cases k:cs.toList[j]? with
    |none=>simp[k]at h
    |some y=>
     rw[k]at h;obtain⟨d,p⟩:=iP.1 k;have H:j<cs.size:=by simpa using d
     refine⟨?_,H⟩;simp at h;rw[<-h];simp[Array.getD,H];rw[<-p];simp
   refine .agg cs _ (by simp) (λj a h=> ?_) (λj a h=> ?_)
   .obtain⟨_,d⟩:=q j a h;rw[Array.all_eq_true]at g;have:=g j d;simpa[Array.getD,d]using this
   .rw[(q j a h).1];exact J5 _
  .exact .u _
 .rename_i vs;refine .iZ vs _ (by simp) (λj a h=> ?_);rw[jt]at h;cases k:vs.toList[j]? with
  |none=>simp[k]at h
  |some y=>
   rw[k]at h;obtain⟨d,p⟩:=iP.1 k;have H:j<vs.size:=by simpa using d
   simp at h;rw[<-h];have:vs.getD j undef=y:=by simp[Array.getD,H];rw[<-p];simp
   rw[this];exact J5 _
 .exact .emp zz
 .exact .v x
theorem ky{a:Act}{env:Env}(H:ER fm w L a env)(x:Operand):VR fm w L (a.eval x) (iC env (jK fm x)):=by
 cases x with
 |tmp t=>exact H t
 |const v=>exact VJ v
 |global g=>exact .v _
 |func f=>exact .clo f #[] [] rfl (λj a h=>by simp at h)
def CR(fm:FM)(w:World)(L:Nat->Loc)(xs:Array Value)(cs:List AV):Prop:=
 xs.size=cs.length/\ ∀j c,cs[j]?=U c->(xs.getD j undef).oneCell'=zZ/\VR fm w L (xs.getD j undef) c
theorem si{x:Value}{c:AV}(h1:x.oneCell'=zZ)(h:VR fm w L x c):CR fm w L #[x] [c]:=by
 refine⟨rfl,λj d hd=> ?_⟩;cases j with
 |zero=>simp at hd;subst hd;exact⟨h1,h⟩
 |succ j=>simp at hd
theorem YqX{x:Value}(h:x.oneCell'=zZ):x.cells= #[x]:=by cases x<;>first|rfl|simp[Value.oneCell']at h
theorem J6{x:Value}{I:AV}(h:VR fm w L x I){cs:List AV}(H:cellsOf I=U cs):CR fm w L x.cells cs:=by
 cases h with
 |v x=>
  simp only[cellsOf]at H;split at H
  .rename_i h1;simp at H;subst H;rw[YqX h1];exact si h1 (.v x)
  .simp at H
 |u x=>simp[cellsOf]at H
 |emp A=>simp[cellsOf]at H;subst H;exact si rfl (.emp A)
 |lT A es c=>simp[cellsOf]at H;subst H;exact si rfl (.lT A es c)
 |rd b o c es l vals z B q D E d k h1 F=>
  simp[cellsOf]at H;subst H;exact si rfl (.rd b o c es l vals z B q D E d k h1 F)
 |rp b o C vals E d k h1 F=>simp[cellsOf]at H;subst H;exact si rfl (.rp b o C vals E d k h1 F)
 |jH g es cap a O len h G=>simp[cellsOf]at H;subst H;exact si rfl (.jH g es cap a O len h G)
 |jo A a b h K=>simp[cellsOf]at H;subst H;exact si rfl (.jo A a b h K)
 |ju A c a O len h G=>simp[cellsOf]at H;subst H;exact si rfl (.ju A c a O len h G)
 |lg g es cap a i j h=>simp[cellsOf]at H;subst H;exact si rfl (.lg g es cap a i j h)
 |jN M a i j h=>simp[cellsOf]at H;subst H;exact si rfl (.jN M a i j h)
 |qT g a v h N P=>simp[cellsOf]at H;subst H;rcases P with rfl|rfl<;>exact si rfl (.qT g a _ h N (by simp))
 |lL p a h=>simp[cellsOf]at H;subst H;exact si rfl (.lL p a h)
 |rX g a h=>simp[cellsOf]at H;subst H;exact si rfl (.rX g a h)
 |rY g a h=>simp[cellsOf]at H;subst H;exact si rfl (.rY g a h)
 |mJ p a h=>simp[cellsOf]at H;subst H;exact si rfl (.mJ p a h)
 |agg xs C y h1 h=>simp[cellsOf]at H;subst H;exact⟨y,λj c J=>⟨h1 j c J,h j c J⟩⟩
 |iZ xs C y h=>simp[cellsOf]at H
 |clo f xs C y h=>simp[cellsOf]at H;subst H;exact si rfl (.clo f xs C y h)
 |er t p=>simp[cellsOf]at H;subst H;exact si rfl (.er t p)
theorem CR.mono{w':World}{d:Nat->Loc}{xs:Array Value}{cs:List AV}(h:CR fm w L xs cs)(k:iv L w w')(g:hY L d w.heap.size):
  CR fm w' d xs cs:=⟨h.1,λj c H=>⟨(h.2 j c H).1,(h.2 j c H).2.mono k g⟩⟩
theorem CR.agg{xs:Array Value}{cs:List AV}(h:CR fm w L xs cs):VR fm w L (.agg xs) (.agg cs):=
 .agg xs cs h.1 (λj c H=>(h.2 j c H).1) (λj c H=>(h.2 j c H).2)
theorem VK(z:List Value)(h: ∀x∈z,x.oneCell'=zZ):CR fm w L z.toArray (z.map zc):=by
 refine⟨by simp,λj c d=> ?_⟩;rw[jt]at d;cases g:z[j]? with
 |none=>simp[g]at d
 |some y=>
  simp[g]at d;subst d;obtain⟨H,k⟩:=iP.1 g;have:z.toArray.getD j undef=y:=by simp[Array.getD,H,k]
  rw[this];exact⟨h y (k▸List.getElem_mem H),J5 y⟩
def RR(fm:FM)(w:World)(L:Nat->Loc)(es:Nat)(xs:Array Value)(l:List (List AV)):Prop:=
 ∀i e j c,l[i]?=U e->e[j]?=U c->(xs.getD (i*es+j) undef).oneCell'=zZ/\VR fm w L (xs.getD (i*es+j) undef) c
theorem NJ{os:Nat}{h:HF}{nid:Nat}(y:HR fm w L h)(hn:h nid=zz){w':World}{cur:Array Value}{ty:TypeId}{es cap:Nat}{el:List (List AV)}
  (D:w'.heap=w.heap.push (.cells cur ty (0,0))) (V:w'.os=w.os) (E:w'.tape=w.tape) (K:w'.output=w.output)
  (W:0<es) (X:el.length<=cap) (Y:cap<=maxLen) (Z: ∀e∈el,e.length=es) (a0:cur.size=cap*es) (M:RR fm w L es cur el) (a1:wd os=es) (a2:os=0->ty=fm.bu):
  iv L w w'/\hY L (λa=>if a=nid then .cells w.heap.size es cap else L a) w.heap.size/\
   HR fm w' (λa=>if a=nid then .cells w.heap.size es cap else L a) (iD h nid (.push (U ⟨os,el⟩))):=by
 have a3:L nid= .fresh:=(y.fresh nid).2 hn;have F:iv L w w':=⟨V,E,K,by rw[D];simp,λb p _=>by rw[D,yo,if_neg (by omega)],λb t h=>h.of (by rw[D,yo,if_neg (by have:=h.lt;omega)])⟩;have q: ∀b,kN (λa=>if a=nid then .cells w.heap.size es cap else L a) b->kN L b\/w.heap.size<=b:=λb p=>by
  rcases p with⟨a,e,c,H⟩| ⟨a,i,H⟩
  .dsimp only at H;by_cases e:a=nid
   .simp[e]at H;right;omega
   .simp[e]at H;exact .inl (.inl ⟨a,_,_,H⟩)
  .dsimp only at H;by_cases e:a=nid
   .simp[e]at H
   .simp[e]at H;exact .inl (.inr ⟨a,i,H⟩)
 have z:hY L (λa=>if a=nid then .cells w.heap.size es cap else L a) w.heap.size:=by
  refine⟨λa d=> ?_,λb p=> ?_,q⟩
  .by_cases e:a=nid
   .subst e;exact absurd a3 d
   .simp[e]
  .rcases p with p| ⟨a,d⟩
   .exact(q b p).imp .inl id
   .by_cases e:a=nid
    .simp[e]at d
    .simp[e]at d;exact .inl (.inr ⟨a,d⟩)
 refine⟨F,z,?_⟩;have G: ∀a g e c,L a= .cells g e c->g<w.heap.size:=by
  intro a g e c H;obtain⟨o,N⟩:=y.live a (.inl ⟨g,e,c,H⟩);have:=y.obj a o N;rw[H]at this;obtain⟨_,_,_,_,_,cur',T,O,_⟩:=this;exact(pV.1 O).1
 refine⟨λa o A=> ?_,λa d=> ?_,λa=> ?_,λa b g e c e' c' d p=> ?_,λa s d g O=>by
  by_cases e:a=nid
  .simp[e]at d
  .simp[e]at d;exact⟨mS (y.hid a s d g O).1 F.size,λhc=>(q g hc).elim (y.hid a s d g O).2 (λh=>by have:=(y.hid a s d g O).1;omega)⟩,λa o g I C h1 h2 B=> ?_,λa i g d=>by
  by_cases e:a=nid
  .simp[e]at d
  .simp only[e,if_false]at d;obtain⟨⟨o,N⟩,k⟩:=y.qU a i g d;refine⟨⟨o,by simp[iD,e,N]⟩,λb j p=> ?_⟩;by_cases J:b=nid
   .simp[J]at p
   .simp only[J,if_false]at p;exact k b j p,y.tab.mono F z.own⟩
 .by_cases e:a=nid
  .subst e;simp[iD]at A;subst A;simp only[if_true];refine⟨a1.symm,W,X,Y,Z,cur,ty,?_,a0,λi e' j x P Q=> ?_⟩
   .rw[D];simp
   .exact⟨(M i e' j x P Q).1,(M i e' j x P Q).2.mono F z⟩
  .simp[iD,e]at A;have R:=y.obj a o A;simp only[e,if_false];revert R;cases hL:L a with
   |fresh=>exact id
   |dead=>exact id
   |nil=>exact id
   |hid g=>exact id
   |cells g I C=>
    rintro⟨h0,h1,h2,B,h4,cur',T,h5,h6,h7⟩;refine⟨h0,h1,h2,B,h4,cur',T,?_,h6,λi e' j x P Q=>⟨(h7 i e' j x P Q).1,(h7 i e' j x P Q).2.mono F z⟩⟩;rw[D,yo,if_neg (by have:=G a g I C hL;omega)];exact h5
   |mp i g=>
    intro hm;exact xL hm F z (λob h1=>by rw[D,yo,if_neg (by have:=y.Af hL;omega)];exact h1)
 .by_cases e:a=nid
  .subst e;exact⟨⟨os,el⟩,by simp[iD]⟩
  .simp only[e,if_false]at d;obtain⟨o,N⟩:=y.live a d;exact⟨o,by simp[iD,e,N]⟩
 .by_cases e:a=nid
  .subst e;simp[iD]
  .simp only[e,if_false,iD];exact y.fresh a
 .by_cases S:a=nid<;>by_cases J:b=nid
  .rw[S,J]
  .simp only[S,if_true]at d;simp only[J,if_false]at p;have:=G b g _ _ p;injection d;omega
  .simp only[J,if_true]at p;simp only[S,if_false]at d;have:=G a g _ _ d;injection p;omega
  .simp only[S,if_false]at d;simp only[J,if_false]at p;exact y.inj a b g _ _ _ _ d p
 .by_cases e:a=nid
  .subst e;simp[iD]at h1;subst h1;simp only[if_true]at B;injection B with B _ _;subst B
   exact⟨cur,(0,0),by rw[D,<-a2 h2];simp⟩
  .simp[iD,e]at h1;simp only[e,if_false]at B;exact F.tY _ _ (y.qw a o g I C h1 h2 B)
theorem J7{h:HF}{nid:Nat}(B:HR fm w L h)(C:h nid=zz){w':World}{cur:Array Value}{ty:TypeId}{es cap:Nat}{el:List (List AV)}
  (D:w'.heap=w.heap.push (.cells cur ty (0,0))) (k:w'.os=w.os) (H:w'.tape=w.tape) (d:w'.output=w.output)
  (g:0<es) (p:el.length<=cap) (q:cap<=maxLen) (y: ∀e∈el,e.length=es) (z:cur.size=cap*es) (A:RR fm w L es cur el):
  iv L w w'/\hY L (λa=>if a=nid then .cells w.heap.size es cap else L a) w.heap.size/\
   HR fm w' (λa=>if a=nid then .cells w.heap.size es cap else L a) (iD h nid (.push (U ⟨es,el⟩))):=
 NJ B C D k H d g p q y z A (rW g) (λh=>absurd h (by omega))
end
end Go.Abs
namespace Go.Abs
open Go
section
variable{P:Program}{fm:FM}{w:World}{L:Nat->Loc}
theorem BS{t:TypeId}{g:Bool}(h:kc P t=U g)(w:World):(isAgg t).run P w= .ok g w:=by
 unfold kc at h;cases H:P.underlying t with
 |none=>simp_all
 |some d=>
  rw[H]at h;cases d<;>simp at h<;>subst h<;>simp[isAgg,run_underlying H]
theorem pj{t:TypeId}{n:Nat}(h:jU P t=U n)(w:World):(sizeOf t).run P w= .ok n w:=by
 unfold jU at h;cases H:P.info? t with
 |none=>simp_all
 |some i=>simp[H]at h;simp[sizeOf,typeInfo,H,h]
theorem vU(b o j:Nat):(⟨b,o,zz⟩:Addr).add j=⟨b,o+j,zz⟩:=by unfold Addr.add;simp
theorem J8{t:TypeId}{g:Bool}{n:Nat}(p:kc P t=U g)(q:jU P t=U n){b o:Nat}{cs:List AV}{vals:Nat->Value}
  (y: ∀j x,cs[j]?=U x->w.cell? ⟨b,o+j,zz⟩=U (vals j))
  (h1: ∀j x,cs[j]?=U x->(vals j).oneCell'=zZ)
  (z: ∀j x,cs[j]?=U x->VR fm w L (vals j) x) {K:AV->Prop} (h:sQ g n cs K):
  ∃x v,(loadVar t ⟨b,o,zz⟩).run P w= .ok x w/\K v/\VR fm w L x v:=by
 cases g with
 |true=>
  obtain⟨A,k⟩:=h;refine⟨.agg ((List.range n).map vals).toArray,_,?_,k,?_⟩
  .simp only[loadVar,Sem.run_bind,BS p,Result.andThen_ok,if_true,pj q];rw[run_loadCells w _ n vals (λj B=>by
    rw[vU];have C:j<cs.length:=by omega
    simp_all)]
   rfl
  .refine .agg _ _ (by simp_all) (λj a d=> ?_) (λj a d=> ?_)
   all_goals
    rw[oU]at d;split at d
    .rename_i B
     first
      |simp_all
      |simp_all
    .cases d
 |false=>
  obtain⟨c,H,k⟩:=h;refine⟨vals 0,c,?_,k,z 0 c H⟩;have:=y 0 c H;simp only[sZ]at this;simp[loadVar,BS p,this]
theorem VL: ∀(d:List Nat) {K:List Nat} {as B:List AV} {r:Bool},sd (d++K) as B=U r->
  ∃A p g q R w,as=A++p/\B=g++q/\A.length=d.length/\g.length=d.length/\sd d A g=U R/\sd K p q=U w/\r=(R&&w)
 | [],K,as,B,r,h=>⟨[],as,[],B,zZ,r,rfl,rfl,rfl,rfl,rfl,h,by simp⟩
 |k::d,K,as,B,r,h=>by
  cases as with
  |nil=>trivial
  |cons a as=>
   cases B with
   |nil=>trivial
   |cons b B=>
    simp only[rV,sd]at h;cases H:pX k a b with
    |none=>simp_all
    |some x=>
     cases z:sd (d++K) as B with
     |none=>simp_all
     |some y=>
      obtain⟨A,p,g,q,R,w,E,C,L,D,h1,h2,F⟩:=VL d z;exact⟨a::A,p,b::g,q,x&&R,w,by grind,by grind,by grind,by grind,by simp[sd,H,h1],h2,by grind⟩
theorem Gi: ∀{K:List Nat} {as B:List AV} {r:Bool},sd K as B=U r->as.length=K.length/\B.length=K.length
 | [],[],[],_,_=>⟨rfl,rfl⟩
 | [],a::as,_,_,h=>by trivial
 | [],[],b::B,_,h=>by trivial
 |k::K,[],_,_,h=>by trivial
 |k::K,a::as,[],_,h=>by trivial
 |k::K,a::as,b::B,r,h=>by
  simp only[sd]at h;cases d:pX k a b with
  |none=>simp_all
  |some x=>
   cases H:sd K as B with
   |none=>simp_all
   |some y=>
    have:=Gi H;simp_all
def Ao(fm:FM)(w:World)(L:Nat->Loc)(xs:Array Value)(o:Nat)(cs:List AV):Prop:=
 o+cs.length<=xs.size/\ ∀j c,cs[j]?=U c->VR fm w L (xs.getD (o+j) undef) c
theorem Ao.append{xs:Array Value}{o:Nat}{a b:List AV}(h:Ao fm w L xs o (a++b)):Ao fm w L xs o a/\Ao fm w L xs (o+a.length) b:=by
 obtain⟨h1,h2⟩:=h;simp at h1;refine⟨⟨by omega,λj c H=>h2 j c (by grind)⟩,by omega,λj c H=> ?_⟩;have:=h2 (a.length+j) c (by grind);grind
theorem BT{xs:Array Value}{j:Nat}(h:j<xs.size):xs[j]?=U (xs.getD j undef):=by
 simp_all
theorem NK{xs:Array Value}{o n j:Nat}(h:o+n<=xs.size)(H:j<n):(xs.extract o (o+n)).getD j undef=xs.getD (o+j) undef:=by
 rw[mI,mI,Array.getElem?_extract];simp_all
theorem J9{t:TypeId}{xs:Array Value}{o:Nat}(g:kc P t=U zj)(h:o<xs.size)(w:World):
  (part t xs o).run P w= .ok (xs.getD o undef) w:=by
 simp only[part,Sem.run_bind,BS g,Result.andThen_ok,Bool.false_eq_true,if_false];simp_all
theorem YqY(d k:Nat): ∀(t:TypeId) (K:List Nat),uH P d t=U K-> ∀(xs ys:Array Value) (o:Nat) (as B:List AV) (r:Bool),
  Ao fm w L xs o as->Ao fm w L ys o B->sd K as B=U r->
  ∃a b,(part t xs o).run P w= .ok a w/\ (part t ys o).run P w= .ok b w/\ (Op.equalIn (k+d) t a b).run P w= .ok r w:=by
 induction d with
 |zero=>intro t K h;trivial
 |succ d ih=>
  intro t K g xs ys o as B r X Y Z;unfold uH at g;have p: ∀(kd:Nat) (x y:AV),K=[kd]-> ∃a b,as=[a]/\B=[b]/\pX kd a b=U r:=by
   intro kd _ _ e;subst e;obtain⟨C,l2⟩:=Gi Z
   match as,B,C,l2 with
   | [a],[b],_,_=>
     simp only[sd]at Z;grind
  cases q:P.underlying t with
  |none=>simp_all
  |some a0=>
   rw[q]at g;have O:kc P t=U zj-> ∀a b,as=[a]->B=[b]->(part t xs o).run P w= .ok (xs.getD o undef) w/\ (part t ys o).run P w= .ok (ys.getD o undef) w/\
     VR fm w L (xs.getD o undef) a/\VR fm w L (ys.getD o undef) b:=by
    intro E a b ea eb;subst ea;subst eb;have G:=X.1;have I:=Y.1;simp at G I;refine⟨?_,?_,by simpa using X.2 0 a rfl,by simpa using Y.2 0 b rfl⟩
    .exact J9 E (by omega) w
    .exact J9 E (by omega) w
   cases a0 with
   |bool=>
    simp at g;obtain⟨a,b,ea,eb,H⟩:=p 0 .u .u g.symm;obtain⟨z,D,V,J⟩:=O (by simp[kc,q]) a b ea eb
    match a,b,H with
    | .v (.bool x),.v (.bool y),H=>
      simp[pX]at H;refine⟨_,_,z,D,?_⟩;rw[kI V,kI J,<-H];exact run_equalIn_bool' w (k+d) t x y q
   |int kk=>
    simp at g;obtain⟨a,b,ea,eb,H⟩:=p 1 .u .u g.symm;obtain⟨z,D,V,J⟩:=O (by simp[kc,q]) a b ea eb
    match a,b,H with
    | .v (.int k1 x),.v (.int k2 y),H=>
      simp[pX]at H;obtain⟨e,H⟩:=H;subst e;refine⟨_,_,z,D,?_⟩;rw[kI V,kI J,<-H];exact run_equalIn_int w (k+d) t k1 kk x y q
   |string=>
    simp at g;obtain⟨a,b,ea,eb,H⟩:=p 2 .u .u g.symm;obtain⟨z,D,V,J⟩:=O (by simp[kc,q]) a b ea eb
    match a,b,H with
    | .v (.string x),.v (.string y),H=>
      simp[pX]at H;refine⟨_,_,z,D,?_⟩;rw[kI V,kI J,<-H];exact run_equalIn_string w (k+d) t x y q
   |struct fs=>
    simp only at g;split at g
    .cases g
    .rename_i a7;cases M:BQ (uH P d) fs.toList 0 with
     |none=>simp_all
     |some l=>
      simp only[M]at g;split at g
      .rename_i N;simp at g;subst g;obtain⟨C,l2⟩:=Gi Z;have E:kc P t=U true:=by simp[kc,q]
       refine⟨.agg (xs.extract o (o+l.length)),.agg (ys.extract o (o+l.length)),?_,?_,?_⟩
       .simp[part,BS E,pj N]
       .simp[part,BS E,pj N]
       .have a1:P.fieldsOf t=fs:=by simp[Program.fieldsOf,q]
        have G:=X.1;have I:=Y.1;rw[show k+(d+1)=(k+d)+1 from rfl,run_equalIn_agg w (k+d) t _ _ (by simp_all) (by simp_all),a1];have a3: ∀(F:List Field) (e:Nat) (kl:List Nat) (Q R:List AV) (r2:Bool),BQ (uH P d) F e=U kl->sd kl Q R=U r2->
          Ao fm w L (xs.extract o (o+l.length)) e Q->Ao fm w L (ys.extract o (o+l.length)) e R->
          (Op.eqFields (k+d) (xs.extract o (o+l.length)) (ys.extract o (o+l.length)) F).run P w= .ok r2 w:=by
         intro F;induction F with
         |nil=>
          intro e kl Q R r2 h1 h2 _ _;simp[BQ]at h1;subst h1;obtain⟨m1,m2⟩:=Gi h2
          match Q,R,m1,m2 with
          | [],[],_,_=>simp[sd]at h2;subst h2;rfl
         |cons f F a8=>
          intro e kl Q R r2 h1 h2 c1 c2;simp only[BQ]at h1;split at h1
          .rename_i hf;obtain⟨A,S⟩:=hf;cases T:uH P d f.type with
           |none=>simp_all
           |some C=>
            cases a4:BQ (uH P d) F (e+C.length)with
            |none=>simp_all
            |some l2=>
             simp[T,a4]at h1;subst h1;obtain⟨z,D,q1,q2,r1,r3,e1,e2,n1,n2,g1,g2,e3⟩:=VL C h2;subst e1;subst e2;subst e3;obtain⟨a5,a9⟩:=c1.append;obtain⟨a6,aa⟩:=c2.append;obtain⟨va,vb,ra,rb,re⟩:=ih f.type C T _ _ e z q1 r1 a5 a6 g1;simp only[Op.eqFields,A,ne_eq,not_false_eq_true,if_true,Sem.run_bind,S,ra,rb,re,Result.andThen_ok,Sem.run_ite];cases r1 with
             |false=>simp
             |true=>
              grind
          trivial
        refine a3 fs.toList 0 l as B r M Z ?_ ?_
        .refine⟨by simp_all,λj c W=> ?_⟩;have hj:=(iP.1 W).1;rw[mD,NK (by omega) (by omega)];exact X.2 j c W
        .refine⟨by simp_all,λj c W=> ?_⟩;have hj:=(iP.1 W).1;rw[mD,NK (by omega) (by omega)];exact Y.2 j c W
      trivial
   |_=>trivial
end
end Go.Abs
namespace Go.Abs
open Go Go.RowKit
section
variable{P:Program}{fm:FM}{w:World}{L:Nat->Loc}
theorem HR.lF{h:HF}(H:HR fm w L h){a g e c:Nat}(d:L a= .cells g e c):g<w.heap.size:=by
 obtain⟨o,k⟩:=H.live a (.inl ⟨g,e,c,d⟩);have:=H.obj a o k;rw[d]at this;obtain⟨_,_,_,_,_,cur',T,p,_⟩:=this;grind
theorem Ap{h:HF}(q:HR fm w L h)(a:Nat)(n:Nat)(J: ∀g,L a≠ .hid g):
  hY L (λb=>if b=a then .dead else L b) n/\HR fm w (λb=>if b=a then .dead else L b) (λb=>if b=a then U zz else h b):=by
 have d: ∀b,kN (λb=>if b=a then .dead else L b) b->kN L b:=λb H=>by
  rcases H with⟨c,e,k,p⟩| ⟨c,i,p⟩
  .by_cases E:c=a
   .simp_all
   .simp[E]at p;exact .inl ⟨c,_,_,p⟩
  .by_cases E:c=a
   .simp_all
   .simp[E]at p;exact .inr ⟨c,i,p⟩
 have y: ∀n,hY L (λb=>if b=a then .dead else L b) n:=λn=>by
  refine⟨λb H=> ?_,λb H=> ?_,λb H=>.inl (d b H)⟩
  .grind
  .rcases H with H| ⟨c,p⟩
   .exact .inl (.inl (d b H))
   .by_cases E:c=a
    .simp_all
    .simp[E]at p;exact .inl (.inr ⟨c,p⟩)
 refine⟨y n,λb o' H=> ?_,λb H=> ?_,λb=> ?_,λb c g e k e' S h1 h2=> ?_,λb s H g D=>by
  by_cases e:b=a
  .simp_all
  .simp[e]at H;exact⟨(q.hid b s H g D).1,λp=>(q.hid b s H g D).2 (d g p)⟩,λb o' g z C h1 h2 B=>by
  by_cases e:b=a
  .simp_all
  .simp[e]at h1 B;exact q.qw b o' g z C h1 h2 B,λb i g H=>by
  by_cases e:b=a
  .simp_all
  .simp only[e,if_false]at H;obtain⟨⟨o,V⟩,k⟩:=q.qU b i g H;grind,q.tab.loc λb H h=>((y w.heap.size).own b h).resolve_right (by omega)⟩
 .by_cases e:b=a
  .simp_all
  .simp[e]at H;have A:=q.obj b o' H;simp only[e,if_false];revert A;cases W:L b with
   |fresh=>exact id
   |dead=>exact id
   |nil=>exact id
   |hid g=>exact id
   |cells g z C=>
    rintro⟨h0,h1,h2,B,K,cur',T,M,N,F⟩;exact⟨h0,h1,h2,B,K,cur',T,M,N,λi e' j x G I=>⟨(F i e' j x G I).1,(F i e' j x G I).2.mono (iv.refl _ _) (y _)⟩⟩
   |mp i g=>exact λO=>xL O (iv.refl _ _) (y _) (λ_ h=>h)
 .by_cases e:b=a
  .simp_all
  .simp only[e,if_false]at H;obtain⟨o',P⟩:=q.live b H;simp_all
 .by_cases e:b=a
  .simp[e]
  .simp only[e,if_false];exact q.fresh b
 .by_cases Q:b=a
  .simp_all
  .by_cases R:c=a
   .simp_all
   .simp only[Q,R,if_false]at h1 h2;exact q.inj b c g _ _ _ _ h1 h2
theorem J'{h:HF}(d:HR fm w L h){a nid:Nat}{o:iu}(I:h a=U (U o))(P:h nid=zz):
  hY L (λb=>if b=nid then L a else if b=a then .dead else L b) w.heap.size/\
   HR fm w (λb=>if b=nid then L a else if b=a then .dead else L b) (λb=>if b=nid then U (U o)else if b=a then U zz else h b):=by
 have Q:a≠nid:=λe=>by simp_all
 have R:L nid= .fresh:=(d.fresh nid).2 P;have S: ∀g,L a≠ .hid g:=λg e=>by have:=d.obj a o I;rw[e]at this;trivial
 have q: ∀b,kN (λb=>if b=nid then L a else if b=a then .dead else L b) b->kN L b:=λb H=>by
  rcases H with⟨c,e,k,p⟩| ⟨c,i,p⟩
  .by_cases E:c=nid
   .simp only[E,if_true]at p;exact .inl ⟨a,_,_,p⟩
   .by_cases F:c=a
    .simp_all
    .simp only[E,F,if_false]at p;exact .inl ⟨c,_,_,p⟩
  .by_cases E:c=nid
   .simp only[E,if_true]at p;exact .inr ⟨a,i,p⟩
   .by_cases F:c=a
    .simp_all
    .simp only[E,F,if_false]at p;exact .inr ⟨c,i,p⟩
 have z:hY L (λb=>if b=nid then L a else if b=a then .dead else L b) w.heap.size:=by
  refine⟨λb H=> ?_,λb H=> ?_,λb H=>.inl (q b H)⟩
  .grind
  .rcases H with H| ⟨c,p⟩
   .exact .inl (.inl (q b H))
   .by_cases E:c=nid
    .simp_all
    .by_cases F:c=a
     .simp_all
     .simp only[E,F,if_false]at p;exact .inl (.inr ⟨c,p⟩)
 have conv: ∀(A:Loc) (o':iu),pW fm w L A o'->pW fm w (λb=>if b=nid then L a else if b=a then .dead else L b) A o':=by
  intro A o';cases A with
  |fresh=>exact id
  |dead=>exact id
  |nil=>exact id
  |hid g=>exact id
  |cells g B C=>
   rintro⟨h0,h1,h2,D,V,cur',T,W,X,K⟩;exact⟨h0,h1,h2,D,V,cur',T,W,X,λi e' j x M N=>⟨(K i e' j x M N).1,(K i e' j x M N).2.mono (iv.refl _ _) z⟩⟩
  |mp i g=>exact λY=>xL Y (iv.refl _ _) z (λ_ h=>h)
 refine⟨z,λb o' H=> ?_,λb H=> ?_,λb=> ?_,λb c g e k e' k' h1 h2=> ?_,λb s H g O=>by
  by_cases E:b=nid
  .simp_all
  .by_cases e:b=a
   .simp_all
   .simp only[E,e,if_false]at H;exact⟨(d.hid b s H g O).1,λp=>(d.hid b s H g O).2 (q g p)⟩,λb o' g B C h1 h2 D=>by
  by_cases E:b=nid
  .simp only[E,if_true,Option.some.injEq]at h1 D;subst h1;exact d.qw a o g B C I h2 D
  .by_cases e:b=a
   .simp_all
   .simp only[E,e,if_false]at h1 D;exact d.qw b o' g B C h1 h2 D,λb i g H=>by
  by_cases E:b=nid
  .subst E;simp only[if_true]at H;refine⟨⟨o,by simp⟩,λc j p=> ?_⟩;by_cases G:c=b
   .omega
   .by_cases y:c=a
    .simp_all
    .simp only[G,y,if_false]at p;exact absurd ((d.qU a i g H).2 c j p).symm y
  .by_cases e:b=a
   .simp_all
   .simp only[E,e,if_false]at H;obtain⟨⟨o',J⟩,k⟩:=d.qU b i g H;grind,d.tab.loc λb H h=>(z.own b h).resolve_right (by omega)⟩
 .by_cases E:b=nid
  .simp only[E,if_true]at H;injection H with H;injection H with H;subst H
   simp only[E,if_true];exact conv _ _ (d.obj a o I)
  .by_cases e:b=a
   .simp_all
   .simp only[E,e,if_false]at H⊢;exact conv _ _ (d.obj b o' H)
 .by_cases E:b=nid
  .simp_all
  .by_cases e:b=a
   .simp_all
   .simp only[E,e,if_false]at H;obtain⟨o',J⟩:=d.live b H;simp_all
 .by_cases E:b=nid
  .simp only[E,if_true];constructor
   .intro Z;have:=d.obj a o I;rw[Z]at this;trivial
   simp
  .by_cases e:b=a
   .simp_all
   .simp only[E,e,if_false];exact d.fresh b
 .by_cases E:b=nid<;>by_cases G:c=nid
  .omega
  .simp only[E,if_true]at h1;by_cases y:c=a
   .simp_all
   .simp only[G,y,if_false]at h2;exact absurd (d.inj c a g _ _ _ _ h2 h1) y
  .simp only[G,if_true]at h2;by_cases y:b=a
   .simp_all
   .simp only[E,y,if_false]at h1;exact absurd (d.inj b a g _ _ _ _ h1 h2) y
  .by_cases y:b=a
   .simp_all
   .by_cases e4:c=a
    .simp_all
    .simp only[E,G,y,e4,if_false]at h1 h2;exact d.inj b c g _ _ _ _ h1 h2
theorem YqZ{g:Nat}{cur cur':Array Value}{ty:TypeId}{fr:Nat×Nat}(H:w.heap[g]?=U (.cells cur ty fr)){b:Nat}{t:TypeId}(h:nZ w b t):nZ (w.setRow g cur') b t:=by
 by_cases e:b=g
 .subst e;obtain⟨c,f,h⟩:=h;rw[H]at h;injection h with h;injection h with _ h2 h3;subst h2
  refine⟨cur',fr,?_⟩;simp[World.setRow,Array.getElem?_modify,H]
 .exact h.of (setRow_other w g b cur' e)
theorem EK{h:HF}(H:HR fm w L h){a g es cap:Nat}{o:iu}(V:h a=U (U o))(I:L a= .cells g es cap){cur cur':Array Value}{ty:TypeId}
  (J:w.heap[g]?=U (.cells cur ty (0,0))) (M:cur'.size=cap*es) {el:List (List AV)} (N:el.length<=cap) (O: ∀e∈el,e.length=es)
  (y:RR fm w L es cur' el):
  iv L w (w.setRow g cur')/\HR fm (w.setRow g cur') L (λb=>if b=a then U (U ⟨o.es,el⟩)else h b):=by
 have q:iv L w (w.setRow g cur'):=⟨rfl,rfl,rfl,by simp,λb d Y=>setRow_other w g b cur' (λe=>Y (e▸ .inl ⟨a,es,cap,I⟩)),λb t Z=>YqZ J Z⟩;have p:=H.obj a o V;rw[I]at p;obtain⟨P,Q,_,R,_⟩:=p;refine⟨q,λb o' d=> ?_,λb d=> ?_,λb=> ?_,H.inj,λb s d g J=>by simpa using H.hid b s d g J,λb o' G E C h1 h2 K=>q.tY _ _ (by
  by_cases e:b=a
  .subst e;simp at h1;subst h1;exact H.qw b o G E C V h2 K
  .simp[e]at h1;exact H.qw b o' G E C h1 h2 K),λb i G d=>by
  obtain⟨⟨o',S⟩,k⟩:=H.qU b i G d;grind,H.tab.mono q λ_ h=>.inl h⟩
 .by_cases e:b=a
  .subst e;simp at d;subst d;rw[I];exact⟨P,Q,N,R,O,cur',ty,setRow_heap w g cur cur' ty _ J,M,λi e' j x z A=>⟨(y i e' j x z A).1,(y i e' j x z A).2.mono q (hY.refl _ _)⟩⟩
  .simp[e]at d;have B:=H.obj b o' d;revert B;cases D:L b with
   |fresh=>exact id
   |dead=>exact id
   |nil=>exact id
   |hid g=>exact id
   |cells G E C=>
    rintro⟨h0,h1,h2,K,h4,F,T,h5,h6,W⟩;refine⟨h0,h1,h2,K,h4,F,T,?_,h6,λi e' j x z A=>⟨(W i e' j x z A).1,(W i e' j x z A).2.mono q (hY.refl _ _)⟩⟩;rw[setRow_other w g G cur' (λX=>e (H.inj b a g _ _ _ _ (by rw[<-X];exact D) I))];exact h5
   |mp i G=>
    intro hm;obtain⟨_,a0,a1⟩:=H.Ew D;exact xL hm q (hY.refl _ _) (λob h1=>by
     rw[setRow_other w g G cur' (λX=>by grind)];exact h1)
 .by_cases e:b=a
  .simp_all
  .obtain⟨o',S⟩:=H.live b d;simp_all
 .by_cases e:b=a
  .simp_all
  .simp only[e,if_false];exact H.fresh b
theorem BU{h:HF}{nid:Nat}(y:HR fm w L h)(N:h nid=zz){es:Nat}(n:Nat)(B:Bool)(O:es=0->B=zZ):
  hY L (λa=>if a=nid then .nil B else L a) n/\HR fm w (λa=>if a=nid then .nil B else L a) (iD h nid (.push (U ⟨es,[]⟩))):=by
 have P:L nid= .fresh:=(y.fresh nid).2 N;have d: ∀b,kN (λa=>if a=nid then .nil B else L a) b->kN L b:=λb p=>by
  rcases p with⟨a,e,c,q⟩| ⟨a,i,q⟩
  .by_cases e:a=nid
   .simp_all
   .simp[e]at q;exact .inl ⟨a,_,_,q⟩
  .by_cases e:a=nid
   .simp_all
   .simp[e]at q;exact .inr ⟨a,i,q⟩
 have z: ∀n,hY L (λa=>if a=nid then .nil B else L a) n:=λn=>by
  refine⟨λa H=> ?_,λb p=> ?_,λb p=>.inl (d b p)⟩
  .grind
  .rcases p with p| ⟨a,H⟩
   .exact .inl (.inl (d b p))
   .by_cases e:a=nid
    .simp_all
    .simp[e]at H;exact .inl (.inr ⟨a,H⟩)
 refine⟨z n,λa o A=> ?_,λa H=> ?_,λa=> ?_,λa b g e c e' c' H p=> ?_,λa s H g I=>by
  by_cases e:a=nid
  .simp_all
  .simp[e]at H;exact⟨(y.hid a s H g I).1,λQ=>(y.hid a s H g I).2 (d g Q)⟩,λb o' g E C h1 h2 F=>by
  by_cases e:b=nid
  .simp_all
  .simp[iD,e]at h1 F;exact y.qw b o' g E C h1 h2 F,λa i g H=>by
  by_cases e:a=nid
  .simp_all
  .simp only[e,if_false]at H;obtain⟨⟨o,G⟩,k⟩:=y.qU a i g H;refine⟨⟨o,by simp[iD,e,G]⟩,λb j p=> ?_⟩;grind,y.tab.loc λb p h=>((z w.heap.size).own b h).resolve_right (by omega)⟩
 .by_cases e:a=nid
  .subst e;simp[iD]at A;subst A;simp only[if_true];trivial
  .simp[iD,e]at A;have D:=y.obj a o A;simp only[e,if_false];revert D;cases Z:L a with
   |fresh=>exact id
   |dead=>exact id
   |nil=>exact id
   |hid g=>exact id
   |cells g E C=>
    rintro⟨h0,h1,h2,F,R,cur',T,S,V,J⟩;exact⟨h0,h1,h2,F,R,cur',T,S,V,λi e' j x K M=>⟨(J i e' j x K M).1,(J i e' j x K M).2.mono (iv.refl _ _) (z _)⟩⟩
   |mp i g=>exact λW=>xL W (iv.refl _ _) (z _) (λ_ h=>h)
 .by_cases e:a=nid
  .subst e;exact⟨⟨es,[]⟩,by simp[iD]⟩
  .simp only[e,if_false]at H;obtain⟨o,G⟩:=y.live a H;exact⟨o,by simp[iD,e,G]⟩
 .by_cases e:a=nid
  .subst e;simp[iD]
  .simp only[e,if_false,iD];exact y.fresh a
 .by_cases X:a=nid
  .simp_all
  .by_cases Y:b=nid
   .simp_all
   .simp only[X,Y,if_false]at H p;exact y.inj a b g _ _ _ _ H p
theorem NL(w:World)(L:Nat->Loc)(o:Obj):iv L w (w.alloc o):=
 ⟨rfl,rfl,rfl,by simp,λb H _=>Below.heap_alloc w o b H,λb t h=>h.of (Below.heap_alloc w o b h.lt)⟩
theorem Yq0{h:HF}(H:HR fm w L h)(o:Obj):HR fm (w.alloc o) L h:=
 H.mono (NL w L o) (λb d _=>Below.heap_alloc w o b d)
end
end Go.Abs
namespace Go.Abs
open Go Go.RowKit
section
variable{P:Program}{fm:FM}{w:World}{L:Nat->Loc}
theorem NM(O:Nat): ∀(vs:List Value) (k:Nat) (R:Array Value),
  ((vs.zipIdx k).foldl (λcs p=>cs.setIfInBounds (O+p.2) p.1) R).size=R.size/\
  ∀j,j<R.size->((vs.zipIdx k).foldl (λcs p=>cs.setIfInBounds (O+p.2) p.1) R).getD j undef=
   if O+k<=j/\j<O+k+vs.length then vs.getD (j-O-k) undef else R.getD j undef
 | [],k,R=>⟨rfl,λj h=>by simp;omega⟩
 |v::vs,k,R=>by
  obtain⟨h1,h2⟩:=NM O vs (k+1) (R.setIfInBounds (O+k) v);simp only[List.zipIdx_cons,List.foldl_cons];refine⟨by simp_all,λj h=> ?_⟩;rw[h2 j (by simp_all)];by_cases H:O+(k+1)<=j/\j<O+(k+1)+vs.length
  .grind
  .rw[if_neg H];by_cases d:j=O+k
   .simp_all
   .rw[if_neg (by grind)];have:(R.setIfInBounds (O+k) v)[j]?=R[j]?:=by grind
    simp_all
theorem Yq1(O:Nat)(v:Value)(R:Array Value):v.cells.zipIdx.foldl (λcs (p:Value×Nat)=>cs.setIfInBounds (O+p.2) p.1) R=
  (v.cells.toList.zipIdx 0).foldl (λcs p=>cs.setIfInBounds (O+p.2) p.1) R:=by
 rw[<-Array.foldl_toList,Array.toList_zipIdx]
theorem VM(P:Nat->Option (Nat×Nat))(R:Array Value)(i:Nat)(v:Value)(d:List (Nat×Value)){O n:Nat}(h:P i=U (O,n))
  (H:v.cells.size=n) (g:O+n<=R.size):
  Instr.fill P R ((i,v)::d)=Instr.fill P ((v.cells.toList.zipIdx 0).foldl (λcs p=>cs.setIfInBounds (O+p.2) p.1) R) d:=by
 rw[<-Yq1];simp only[Instr.fill,h];grind
theorem VN(xs:Array Value)(j:Nat):xs.toList.getD j undef=xs.getD j undef:=by
 simp
theorem Yq2{R:Array Value}{l cs:List AV}{v:Value}{O:Nat}(H:CR fm w L R l)(g:CR fm w L v.cells cs)(A:O+cs.length<=l.length):
  CR fm w L ((v.cells.toList.zipIdx 0).foldl (λcs p=>cs.setIfInBounds (O+p.2) p.1) R) (iK l O cs):=by
 obtain⟨h1,h2⟩:=NM O v.cells.toList 0 R;have k:(iK l O cs).length=l.length:=by simp[iK];omega
 refine⟨by rw[h1,k,H.1],λj c h=> ?_⟩;have q:j<l.length:=by grind
 rw[h2 j (by rw[H.1];omega)];have y:v.cells.toList.length=cs.length:=by simpa using g.1
 simp only[iK]at h;by_cases z:O<=j/\j<O+cs.length
 .rw[if_pos (by omega)];rw[show j-O-0=j-O by omega,VN];rw[qS,nF (by grind),ld (by grind)]at h;have:j-(List.take O l).length=j-O:=by grind
  rw[this]at h;exact g.2 _ c h
 .rw[if_neg (by omega)];by_cases d:j<O
  .rw[qS,ld (by grind),oU,if_pos d]at h;exact H.2 j c h
  .rw[nF (by grind),rU]at h;have:O+cs.length+(j-(List.take O l++cs).length)=j:=by grind
   rw[this]at h;exact H.2 j c h
theorem VO{a:Act}{env:Env}(C:ER fm w L a env)(P:Nat->Option (Nat×Nat)): ∀(d:List (Nat×Operand)) (A:List (Nat×Nat×iY)) (R:Array Value) (l:List AV)
  (K:List AV->Prop),d.length=A.length->(∀(k:Nat) (p:Nat×Operand) (q:Nat×Nat×iY),d[k]?=U p->A[k]?=U q->P p.1=U (q.1,q.2.1)/\q.2.2=jK fm p.2)->
  CR fm w L R l->Ah l env A K->
  ∃D cs,Instr.fill P R (d.map λp=>(p.1,a.eval p.2))=U D/\CR fm w L D cs/\K cs
 | [],[],R,l,K,_,_,y,g=>⟨R,l,rfl,y,g⟩
 | [],_::_,_,_,_,h,_,_,_=>by grind
 |_::_,[],_,_,_,h,_,_,_=>by grind
 |p::d,(O,n,x)::A,R,l,K,E,H,y,g=>by
  obtain⟨G,I⟩:=H 0 p (O,n,x) rfl rfl;subst I;obtain⟨cs,z,J,M,g⟩:=g;have F:=J6 (ky C p.2) z;have B:(a.eval p.2).cells.size=n:=by rw[F.1,J]
  simp only[kn];rw[VM P R p.1 (a.eval p.2) _ G B (by rw[y.1];exact M)];exact VO C P d A _ _ K (by simp_all) (λk p q h1 h2=>H (k+1) p q (by trivial) (by trivial))
   (Yq2 y F (by omega)) g
def Gj(fm:FM)(w:World)(L:Nat->Loc)(es:Nat)(R:Array Value)(l:List (List AV)):Prop:=
 R.size=l.length*es/\ (∀e∈l,e.length=es)/\RR fm w L es R l
theorem Yq3{es:Nat}{R:Array Value}{l:List (List AV)}{cs:List AV}{v:Value}{i:Nat}(C:Gj fm w L es R l)(B:CR fm w L v.cells cs)
  (D:cs.length=es) (E:i<l.length):
  Gj fm w L es ((v.cells.toList.zipIdx 0).foldl (λcs p=>cs.setIfInBounds (i*es+p.2) p.1) R) (l.set i cs):=by
 obtain⟨h1,h2⟩:=NM (i*es) v.cells.toList 0 R;obtain⟨K,F,q⟩:=C;have G:v.cells.toList.length=es:=by rw[<-D];simpa using B.1
 refine⟨by simp_all,λe M=> ?_,λk e j c d y=> ?_⟩
 .grind
 .have g:k<l.length:=by grind
  have I:=(iP.1 y).1;have J:e.length=es:=by
   grind
  have z:(k+1)*es<=l.length*es:=lD es g;have A:(i+1)*es<=l.length*es:=lD es E;rw[nY]at z A;rw[h2 (k*es+j) (by omega)];by_cases H:k=i
  .subst H;rw[if_pos (by omega),VN,show k*es+j-k*es-0=j by omega];rw[o_ g]at d;injection d with d
   subst d;exact B.2 j c y
  .rw[if_neg]
   .rw[mR (λe=>H e.symm)]at d;exact q k e j c d y
   .rcases Nat.lt_or_gt_of_ne H with h|h
    .have:(k+1)*es<=i*es:=lD es h;grind
    .have:(i+1)*es<=k*es:=lD es h;grind
theorem VP{es:Nat}{env:Env}: ∀(A:List (Nat×iY)) (l:List (List AV)) (K:List (List AV)->Prop),s_ es l env A K->
  s_ es l env A λl'=>K l'/\l'.length=l.length
 | [],l,K,h=>⟨h,rfl⟩
 | (i,x)::A,l,K,h=>by
   obtain⟨cs,H,d,g,k⟩:=h;refine⟨cs,H,d,g,?_⟩;have:=VP A (l.set i cs) K k;simp_all
theorem NN{a:Act}{env:Env}(k:ER fm w L a env){es:Nat}: ∀(P:List (Nat×Operand)) (R:Array Value) (l:List (List AV))
  (K:List (List AV)->Prop),Gj fm w L es R l->s_ es l env (P.map λp=>(p.1,jK fm p.2)) K->
  ∃q l',Instr.fill (λi=>U (i*es,es)) R (P.map λp=>(p.1,a.eval p.2))=U q/\Gj fm w L es q l'/\K l'
 | [],R,l,K,H,h=>⟨R,l,rfl,H,h⟩
 |p::P,R,l,K,H,h=>by
  obtain⟨cs,d,y,A,h⟩:=h;have B:=J6 (ky k p.2) d;have z:(a.eval p.2).cells.size=es:=by rw[B.1,y]
  have g:(p.1+1)*es<=l.length*es:=lD es A;rw[nY]at g;simp only[kn];rw[VM _ R p.1 (a.eval p.2) _ rfl z (by rw[H.1];omega)];exact NN k P _ _ K (Yq3 H B y A) h
theorem NO(z:Array Value)(n:Nat)(h1: ∀x∈z.toList,x.oneCell'=zZ):
  Gj fm w L z.size ((Array.range (n*z.size)).map (z[· % z.size]!)) (List.replicate n (z.toList.map zc)):=by
 refine⟨by simp,λe C=> ?_,λi e j c h k=> ?_⟩
 .simp_all
 .rw[vN]at h;split at h
  .rename_i d;injection h with h
   subst h;cases p:z.toList[j]? with
   |none=>simp_all
   |some y=>
    simp[p]at k;subst k;obtain⟨g,A⟩:=iP.1 p;have H:j<z.size:=by trivial
    have D:(i+1)*z.size<=n*z.size:=lD _ d;have B:((Array.range (n*z.size)).map (z[· % z.size]!)).getD (i*z.size+j) undef=y:=by
     have q:i*z.size+j< ((Array.range (n*z.size)).map (z[· % z.size]!)).size:=by grind
     have E:(i*z.size+j) % z.size=j:=by rw[Nat.mul_comm,Nat.mul_add_mod];exact Nat.mod_eq_of_lt H
     simp_all
    rw[B];exact⟨h1 y (A▸List.getElem_mem g),J5 y⟩
  trivial
end
end Go.Abs
namespace Go.Abs
open Go Go.RowKit
section
variable{P:Program}{fm:FM}{w:World}{L:Nat->Loc}
theorem vV{t:TypeId}{z:List Value}(h:nG P t=U z):
  ∃i Z,P.info? t=U i/\i.zero=U Z/\Z.cells.toList=z/\Z.cells.size=i.size/\i.size=z.length/\0<z.length/\z.length<=1048576/\i.bytes<=1024/\ ∀x∈z,x.oneCell'=true:=by
 unfold nG at h;cases d:P.info? t with
 |none=>simp_all
 |some i=>
  cases H:i.zero with
  |none=>simp_all
  |some Z=>
   simp only[d,H]at h;split at h
   .rename_i g;obtain⟨h1,h2,q,k,w⟩:=g;injection h with h
    subst h;refine⟨i,Z,rfl,H,rfl,h1,by grind,by simp_all,by simp_all,k,λx p=> ?_⟩;obtain⟨j,y,e⟩:=List.getElem_of_mem p;grind
   trivial
theorem Gk{a b:List Value}{k:Nat}(h:k<a.length):(a++b).toArray.getD k undef=a.getD k undef:=by
 rw[mI];grind
theorem J_{a b:List Value}{k:Nat}:(a++b).toArray.getD (a.length+k) undef=b.getD k undef:=by
 rw[mI];grind
theorem lj{a b:List Value}{n k:Nat}(h:a.length=n):(a++b).toArray.getD (n+k) undef=b.getD k undef:=by
 subst h;exact J_
theorem VQ{es:Nat}{cur A:Array Value}{el l:List (List AV)}(H: ∀e∈el,e.length=es)(h0:RR fm w L es cur el)
  (d: ∀k,k<el.length*es->A.getD k undef=cur.getD k undef)
  (q: ∀i e j c,l[i]?=U e->e[j]?=U c->(A.getD ((el.length+i)*es+j) undef).oneCell'=zZ/\VR fm w L (A.getD ((el.length+i)*es+j) undef) c):
  RR fm w L es A (el++l):=by
 intro i e j c g p;by_cases h:i<el.length
 .rw[ld h]at g;have B:=H e (jc g);have y:=(iP.1 p).1;have z:(i+1)*es<=el.length*es:=lD _ h;rw[nY]at z;rw[d _ (by omega)];exact h0 i e j c g p
 grind
def flat(es m:Nat)(vals:Nat->Nat->Value):List Value:=(List.range (m*es)).map λk=>vals (k/es) (k % es)
theorem NP{es m:Nat}{vals:Nat->Nat->Value}{i j:Nat}(d:i<m)(H:j<es):(flat es m vals).getD (i*es+j) undef=vals i j:=by
 have g:(i+1)*es<=m*es:=lD _ d;rw[nY]at g;have h:i*es+j<m*es:=by omega
 have h1:(i*es+j)/es=i:=by rw[Nat.mul_comm,Nat.mul_add_div (by omega),Nat.div_eq_of_lt H];omega
 have h2:(i*es+j) % es=j:=by rw[Nat.mul_comm,Nat.mul_add_mod,Nat.mod_eq_of_lt H]
 simp[flat,List.getD,jt,pO h,h1,h2]
theorem VT{x:Value}{es:Nat}{l:List (List AV)}(h:VR fm w L x (.rd es l))(g:l≠ []):
  ∃(b o c:Nat) (vals:Nat->Nat->Value),x= .slice (U ⟨b,o,zz⟩) l.length c/\0<es/\ (∀e∈l,e.length=es)/\
   (∀i j,i<l.length->j<es->w.cell? ⟨b,o+i*es+j,zz⟩=U (vals i j)/\ (vals i j).oneCell'=zZ)/\
   (∀i e j y,l[i]?=U e->e[j]?=U y->VR fm w L (vals i j) y):=by
 cases h with
 |lT A es c=>trivial
 |rd b o c es l vals g H d k C p D h1 q=>
  refine⟨b,o,c,vals,rfl,d,H,λi j z E=> ?_,q⟩;have F:=H _ (List.getElem_mem z);have B:=je (show j< (l[i]).length by omega);simp_all
theorem NQ{b o es m:Nat}{vals:Nat->Nat->Value}(H:0<es)
  (h: ∀i j,i<m->j<es->w.cell? ⟨b,o+i*es+j,zz⟩=U (vals i j)/\ (vals i j).oneCell'=zZ):
  (flat es m vals).length=m*es/\ (∀j u,(flat es m vals)[j]?=U u->w.cell? ((⟨b,o,zz⟩:Addr).add j)=U u)/\ ∀u∈flat es m vals,u.oneCell'=true:=by
 have y: ∀k,k<m*es->k/es<m/\k % es<es/\k/es*es+k % es=k:=λk p=>
  ⟨(Nat.div_lt_iff_lt_mul H).2 p,Nat.mod_lt _ H,by rw[Nat.mul_comm];exact Nat.div_add_mod k es⟩
 refine⟨by simp[flat],λj u d=> ?_,λu d=> ?_⟩
 .have g:j<m*es:=by have:=(iP.1 d).1;simpa[flat]using this
  simp[flat,jt,pO g]at d;obtain⟨K,q,z⟩:=y j g;have:=(h _ _ K q).1;rw[Nat.add_assoc,z]at this;rw[vU,this,d]
 .simp only[flat,mH,tX]at d;grind
theorem VU{os:Nat}{h:HF}{nid:Nat}(P:HR fm w L h)(Q:h nid=zz){e:TypeId}{es need old:Nat}{olds news:List Value}{z:Value}{el l:List (List AV)}
  (g:wd os=es) (y:os=0->e=fm.bu) (p:0<es) (R:z.cells.size=es) (q:olds.length=el.length*es) (A:news.length=l.length*es) (B:need=el.length+l.length) (S:need<=c_)
  (d: ∀e∈el,e.length=es) (M: ∀e∈l,e.length=es) (h0:RR fm w L es olds.toArray el)
  (h2: ∀i e j c,l[i]?=U e->e[j]?=U c->(news.getD (i*es+j) undef).oneCell'=zZ/\VR fm w L (news.getD (i*es+j) undef) c):
  ∃C,iv L w (w.drew.alloc (.cells (olds.toArray++news.toArray++Builtin.zeroCells z.cells (grownCap w need old e-need)) e))/\
   hY L C w.heap.size/\
   HR fm (w.drew.alloc (.cells (olds.toArray++news.toArray++Builtin.zeroCells z.cells (grownCap w need old e-need)) e)) C (iD h nid (.push (U ⟨os,el++l⟩)))/\
   VR fm (w.drew.alloc (.cells (olds.toArray++news.toArray++Builtin.zeroCells z.cells (grownCap w need old e-need)) e)) C
    (.slice (U ⟨w.heap.size,0,zz⟩) need (grownCap w need old e)) (.ref nid 0 need):=by
 have T:=grownCap_ge w need old e;have D:need<=maxLen:=by simp only[c_,maxLen]at S⊢;omega
 have E:=grownCap_le_maxLen w need old e D;have F:(olds.toArray++news.toArray++Builtin.zeroCells z.cells (grownCap w need old e-need)).size=grownCap w need old e*es:=by
  simp only[Array.size_append,List.size_toArray,size_zeroCells,R,q,A,<-nY];simp_all
 have H: ∀k,(olds.toArray++news.toArray++Builtin.zeroCells z.cells (grownCap w need old e-need)).getD k undef=
   (olds++(news++(Builtin.zeroCells z.cells (grownCap w need old e-need)).toList)).toArray.getD k undef:=by
  intro k;congr 1;simp
 obtain⟨N,G,I⟩:=NJ (os:=os) (w':=w.drew.alloc (.cells (olds.toArray++news.toArray++Builtin.zeroCells z.cells (grownCap w need old e-need)) e)) P Q
  (cap:=grownCap w need old e) (el:=el++l) rfl rfl rfl rfl p (by simp_all) E
  (λe' J=>(uE.1 J).elim (d e') (M e')) F
  (VQ (cur:=olds.toArray) d h0 (λk N=>by
   rw[H,Gk (by omega)];simp)
   (λi e' j c O V=>by
    have K:=(iP.1 O).1;have W:=(iP.1 V).1;have X:=M e' (jc O);have Y:(i+1)*es<=l.length*es:=lD _ K;rw[nY]at Y;have Z:(el.length+i)*es+j=olds.length+(i*es+j):=by grind
    rw[H,Z,J_];grind)) g y
 refine⟨_,N,G,I,?_⟩;have:=VR.jH (fm:=fm) (w:=w.drew.alloc (.cells (olds.toArray++news.toArray++Builtin.zeroCells z.cells (grownCap w need old e-need)) e))
  (L:=λa=>if a=nid then .cells w.heap.size es (grownCap w need old e)else L a) w.heap.size es (grownCap w need old e) nid 0 need (by simp) (by omega)
 simp_all
structure pk(P:Program)(w:World)(t2:TypeId)(sz:Nat)(vx:Value)(n:Nat)(news:List Value):Prop where
 ut:(∃e,P.underlying t2=U (.slice e))\/P.underlying t2=U .string
 len: ∀W:World,(Builtin.lenOf vx).run P W= .ok n W
 cells: ∀W:World,W.heap=w.heap->(Builtin.firstCells sz n vx).run P W= .ok news.toArray W
 nl:news.length=n*sz
 one: ∀u∈news,u.oneCell'=zZ
section
variable{t t2 ty e:TypeId}{i:TypeInfo}{vx:Value}{n:Nat}{news:List Value}
theorem Yq4(S:pk P w t2 i.size vx n news)(q:P.underlying t=U (.slice e))(y:P.info? e=U i)(B:TypeId)
  (g sLen p:Nat) (cur:Array Value) (z:w.heap[g]?=U (.cells cur B (0,0)))
  (h:sLen+n<=p) (d:sLen*i.size+news.length<=cur.size):
  (Builtin.append_ #[t,t2] ty #[.slice (U ⟨g,0,zz⟩) sLen p,vx]).run P w=
   .ok (.slice (U ⟨g,0,zz⟩) (sLen+n) p) (w.setRow g (cur.toList.take (sLen*i.size)++news++cur.toList.drop (sLen*i.size+news.length)).toArray):=by
 have A:=S.cells w rfl;have H:=run_storeCells_at P g (sLen*i.size) B news 0 cur w z (by trivial) S.one;simp only[sZ]at H;rcases S.ut with⟨E,k⟩|k<;>simp[Builtin.append_,run_underlying q,run_underlying k,sizeOf,typeInfo,y,S.len,h,A,Addr.add_lit,H]
theorem VV(S:pk P w t2 i.size vx 0 news)(H:P.underlying t=U (.slice e))(d:P.info? e=U i)
  (A:Option Addr) (sLen p:Nat) (g:sLen<=p):
  (Builtin.append_ #[t,t2] ty #[.slice A sLen p,vx]).run P w= .ok (.slice A sLen p) w:=by
 have k:=S.cells w rfl;have q:news=[]:=mC.1 (by rw[S.nl];simp);subst q;rcases S.ut with⟨E,h⟩|h<;>cases A<;>simp[Builtin.append_,run_underlying H,run_underlying h,sizeOf,typeInfo,d,S.len,g,k,storeCells]
theorem Yq5(S:pk P w t2 i.size vx n news)(z:Value)(g:P.underlying t=U (.slice e))(k:P.info? e=U i)(p:i.zero=U z)
  (h0:0<n) (q:(n:Int)<=9223372036854775807) (y:n*i.bytes<=281474976710656):
  (Builtin.append_ #[t,t2] ty #[.slice zz 0 0,vx]).run P w=
   .ok (.slice (U ⟨w.heap.size,0,zz⟩) n (grownCap w n 0 e)) (w.drew.alloc (.cells (news.toArray++Builtin.zeroCells z.cells (grownCap w n 0 e-n)) e)):=by
 have A:n≠0:=by omega
 have h: ¬ (9223372036854775807< (n:Int)):=by omega
 have H: ¬ (281474976710656<Builtin.nextslicecap n 0*i.bytes):=by rw[nextslicecap_zero h0];omega
 have B:=S.cells w.drew rfl;rcases S.ut with⟨E,d⟩|d<;>simp[Builtin.append_,run_underlying g,run_underlying d,sizeOf,typeInfo,zeroValue,k,p,S.len,A,h,H,Question.forced,run_firstCells_none,B,newRow,grownCap]
theorem VW(S:pk P w t2 i.size vx n news)(z:Value)(A:P.underlying t=U (.slice e))(B:P.info? e=U i)(C:i.zero=U z)
  (b:Addr) (sLen p:Nat) (olds:List Value) (d:olds.length=sLen*i.size) (g: ∀j v,olds[j]?=U v->w.cell? (b.add j)=U v)
  (G:p<sLen+n) (D:((sLen+n:Nat):Int)<=9223372036854775807) (q:Builtin.nextslicecap (sLen+n) p*i.bytes<=281474976710656):
  (Builtin.append_ #[t,t2] ty #[.slice (U b) sLen p,vx]).run P w=
   .ok (.slice (U ⟨w.heap.size,0,zz⟩) (sLen+n) (grownCap w (sLen+n) p e))
    (w.drew.alloc (.cells (olds.toArray++news.toArray++Builtin.zeroCells z.cells (grownCap w (sLen+n) p e-(sLen+n))) e)):=by
 have E: ¬ (sLen+n<=p):=by omega
 have h: ¬ (9223372036854775807< ((sLen:Int)+(n:Int))):=by omega
 have H: ¬ (281474976710656<Builtin.nextslicecap (sLen+n) p*i.bytes):=by omega
 have F:=S.cells w.drew rfl;have k:=run_firstCells_some (P:=P) w.drew i.size sLen b sLen p olds d (by trivial);rcases S.ut with⟨I,y⟩|y<;>
 .simp[Builtin.append_,run_underlying A,run_underlying y,sizeOf,typeInfo,zeroValue,B,C,S.len,E,h,H,Question.forced,F,k,newRow,grownCap];congr 2;apply Array.ext';simp[qS]
end
theorem NS{os:Nat}{t t2 ty e:TypeId}{z:List Value}(a2:wd os=z.length)(ac:os=0->e=fm.bu)(ht:P.underlying t=U (.slice e))(ak:nG P e=U z)
  {h:HF} {nid:Nat} (S:HR fm w L h) (hn:h nid=zz) {vs vx:Value} {s:AV} {l:List (List AV)} {news:List Value}
  (hs:VR fm w L vs s) (T:pk P w t2 z.length vx l.length news)
  (hx: ∀i e j c,l[i]?=U e->e[j]?=U c->(news.getD (i*z.length+j) undef).oneCell'=zZ/\VR fm w L (news.getD (i*z.length+j) undef) c)
  {K:AV->List jy->Prop} (Q:EB os z.length s l h nid K):
  ∃x v us w',(Builtin.append_ #[t,t2] ty #[vs,vx]).run P w= .ok x w'/\K v us/\jb fm w L (iB h nid us) v x w':=by
 obtain⟨i,Z,G,hz,az,al,J,am,aA,ad,aB⟩:=vV ak;have V:Z.cells.size=z.length:=by rw[al,J]
 have f1:=T.nl;rw[J.symm]at T;have ae:0<z.length:=am;have emp:l.length<=c_->(∀e∈l,e.length=z.length)-> ∀(h':HF) (L0:Nat->Loc),HR fm w L0 h'->hY L L0 w.heap.size->h' nid=zz-> ∀A,(l=[]->os=0->A=zz)->
   ∃x w',(Builtin.append_ #[t,t2] ty #[.slice A 0 0,vx]).run P w= .ok x w'/\jb fm w L (iD h' nid (.push (U ⟨os,l⟩))) (.ref nid 0 l.length) x w':=by
  intro H B h' L0 af E ag A an;by_cases M:l=[]
  .subst M;obtain⟨F,N⟩:=BU af ag w.heap.size (decide (os=0)) (λh=>by simpa using h);exact⟨_,w,VV T ht G A 0 0 (jG _),_,iv.refl _ _,E.trans F,N,.jo A nid (decide (os=0)) (by simp) (λh=>an rfl (by simpa using h))⟩
  .have ah:0<l.length:=by cases l with|nil=>exact absurd rfl M|cons a b=>simp
   have a3:l.length*i.bytes<=140737488355328:=by
    have:=Nat.mul_le_mul H ad;simp only[c_]at this;omega
   have q:(Builtin.append_ #[t,t2] ty #[.slice A 0 0,vx]).run P w=
     .ok (.slice (U ⟨w.heap.size,0,zz⟩) l.length (grownCap w l.length 0 e))
      (w.drew.alloc (.cells ((([]:List Value)).toArray++news.toArray++Builtin.zeroCells Z.cells (grownCap w l.length 0 e-l.length)) e)):=by
    cases A with
    |none=>
     rw[Yq5 T Z ht G hz ah (by simp only[c_]at H;omega) (by omega)];simp
    |some A=>
     have:=VW (ty:=ty) T Z ht G hz A 0 0 [] (by simp) (by simp) (by omega)
      (by simp only[c_]at H;omega) (growslice_fits (by omega) (by simpa using a3))
     simpa using this
   obtain⟨L',F,N,k3,k4⟩:=VU (os:=os) (old:=0) (need:=l.length) (e:=e) (olds:=[]) (el:=[]) (z:=Z) af ag a2 ac ae V (by simp) f1 (by simp) H (by simp) B
    (λi e j c G=>by simp at G) (λi e' j c G hj=>⟨(hx i e' j c G hj).1,(hx i e' j c G hj).2.mono (iv.refl _ _) E⟩)
   have kk:iv L w (w.drew.alloc (.cells ((([]:List Value)).toArray++news.toArray++Builtin.zeroCells Z.cells (grownCap w l.length 0 e-l.length)) e)):=
    (iv.refl L w).trans E F
   exact⟨_,_,q,L',kk,E.trans N,by simpa using k3,k4⟩
 unfold EB at Q;cases s with
 |emp=>
  obtain⟨H,B,a7,hk⟩:=Q;cases hs with
  |emp A=>
   obtain⟨x,w',h1,h2⟩:=emp H B h L S (hY.refl _ _) hn A (λh1 h2=>absurd h1 (a7 h2));exact⟨x,_,_,w',h1,hk,h2⟩
 |ref a ai len=>
  obtain⟨o,ha,a8,W,C,H,B,hk⟩:=Q;have a4:a≠nid:=λe=>by rw[e,hn]at ha;cases ha
  have a9:iB h nid [.set a zz,.push (U ⟨os,o.el++l⟩)]=λb=>if b=nid then U (U ⟨os,o.el++l⟩)else if b=a then U zz else h b:=by
   funext b;simp[iB,iD]
  have ao: ∃x w',(Builtin.append_ #[t,t2] ty #[vs,vx]).run P w= .ok x w'/\jb fm w L (iB h nid [.set a zz,.push (U ⟨os,o.el++l⟩)]) (.ref nid 0 (o.el.length+l.length)) x w':=by
   rw[a9];subst a8;have d:=S.obj a o ha;cases hs with
   |ju A c a ai len hd hl=>rw[hd]at d;exact d.elim
   |jo A a b aa hA=>
    rw[aa]at d;have X:o.el=[]:=d.1;rw[X]at H;obtain⟨F,N⟩:=Ap S a w.heap.size (λg e=>by have:=S.obj a o ha;rw[e]at this;exact this);obtain⟨x,w',h1,h2⟩:=emp (by simpa using H) B _ _ N F (by simp[hn,Ne.symm a4]) A (λ_ h0=>hA (d.2 (C.trans h0)));refine⟨x,w',h1,?_⟩;simpa[X,iD]using h2
   |jH g es cap a ai len hL hl=>
    rw[hL]at d;obtain⟨Y,ax,ap,aC,R,cur,bt,hg,a5,a6⟩:=d;rw[C,a2]at Y;subst Y;simp only[Nat.zero_mul,Nat.sub_zero]at*
    by_cases M:l=[]
    ·
     subst M;obtain⟨F,N⟩:=J' S ha hn;refine⟨_,w,VV T ht G _ len cap (by omega),_,iv.refl _ _,F,?_,?_⟩
     .have:(⟨os,o.el++[]⟩:iu)=o:=by cases o;simp at C⊢;exact C.symm
      rw[this];exact N
     .have:=VR.jH (fm:=fm) (w:=w) (L:=λb=>if b=nid then L a else if b=a then .dead else L b) g z.length cap nid 0 len (by simp[hL]) (by omega);subst W;simpa using this
    .have ah:0<l.length:=by cases l with|nil=>exact absurd rfl M|cons a b=>simp
     have a3:(o.el.length+l.length)*i.bytes<=140737488355328:=by
      have:=Nat.mul_le_mul H ad;simp only[c_]at this;omega
     subst W;by_cases D:o.el.length+l.length<=cap
     ·
      have ab:o.el.length*z.length+news.length<=cur.size:=by
       rw[f1,a5,<-nY];exact lD _ D
      have q:=Yq4 (ty:=ty) T ht G bt g o.el.length cap cur hg D (by rw[J];exact ab);rw[J]at q;have a0: ∀k,k<o.el.length*z.length->
        ((cur.toList.take (o.el.length*z.length)++news++cur.toList.drop (o.el.length*z.length+news.length)).toArray).getD k undef=cur.getD k undef:=by
       intro k aj;rw[qS,Gk (by simp;omega)];simp only[List.getD,oU,if_pos aj];rw[mI];simp
      have a1: ∀k,k<l.length*z.length->
        ((cur.toList.take (o.el.length*z.length)++news++cur.toList.drop (o.el.length*z.length+news.length)).toArray).getD (o.el.length*z.length+k) undef=news.getD k undef:=by
       intro k aj;have e1:(cur.toList.take (o.el.length*z.length)).length=o.el.length*z.length:=by simp;omega
       rw[qS];rw[lj e1];simp only[List.getD];rw[ld (by omega)]
      obtain⟨s1,s2⟩:=EK (cur':=(cur.toList.take (o.el.length*z.length)++news++cur.toList.drop (o.el.length*z.length+news.length)).toArray)
       (el:=o.el++l) S ha hL hg (by simp;rw[a5]at*;omega) (by simpa using D) (λe' aq=>(uE.1 aq).elim (R e') (B e'))
       (VQ R a6 a0 (λI e' j c' p y=>by
        have O:=(iP.1 p).1;have ar:=(iP.1 y).1;have au:=B e' (jc p);have hb:(I+1)*z.length<=l.length*z.length:=lD _ O;rw[nY]at hb;rw[show(o.el.length+I)*z.length+j=o.el.length*z.length+(I*z.length+j) by rw[nY];omega,a1 _ (by omega)];exact hx I e' j c' p y))
      rw[C]at s2;obtain⟨F,N⟩:=J' (a:=a) (nid:=nid) (o:=⟨os,o.el++l⟩) s2 (by simp) (by simp[Ne.symm a4,hn]);refine⟨_,_,q,_,s1,by simpa using F,?_,?_⟩
      .have e1:(λb=>if b=nid then U (U (⟨os,o.el++l⟩:iu))else if b=a then U zz else if b=a then U (U ⟨os,o.el++l⟩)else h b)=
         λb=>if b=nid then U (U ⟨os,o.el++l⟩)else if b=a then U zz else h b:=by
        funext b;by_cases e1:b=nid<;>by_cases e2:b=a<;>simp[e1,e2]
       rw[<-e1];exact N
      .have:=VR.jH (fm:=fm) (w:=w.setRow g (cur.toList.take (o.el.length*z.length)++news++cur.toList.drop (o.el.length*z.length+news.length)).toArray)
        (L:=λb=>if b=nid then L a else if b=a then .dead else L b) g z.length cap nid 0 (o.el.length+l.length) (by simp[hL]) (by omega)
       simpa using this
     ·
      have ay:o.el.length*z.length<=cur.size:=by rw[a5];exact lD _ ap
      have q:=VW (ty:=ty) T Z ht G hz ⟨g,0,zz⟩ o.el.length cap (cur.toList.take (o.el.length*z.length)) (by simp[J];omega)
       (λj u hu=>by
        rw[vU];rw[oU]at hu;split at hu
        .rw[cell_of_row w g _ cur bt (0,0) hg];simpa using hu
        .cases hu)
       (by omega) (by simp only[c_]at H;omega) (growslice_fits (by omega) a3)
      obtain⟨F,N⟩:=Ap S a w.heap.size (λg e=>by have:=S.obj a o ha;rw[e]at this;exact this);obtain⟨L',g1,g2,g3,g4⟩:=VU (os:=os) (old:=cap) (need:=o.el.length+l.length) (e:=e) (z:=Z) (olds:=cur.toList.take (o.el.length*z.length)) (el:=o.el) (news:=news) (l:=l)
       N (nid:=nid) (by simp[Ne.symm a4,hn]) a2 ac ae V (by simp;omega) f1 rfl H R B
       (λI e' j c' p y=>by
        have O:=(iP.1 p).1;have ar:=(iP.1 y).1;have au:=R e' (jc p);have hb:(I+1)*z.length<=o.el.length*z.length:=lD _ O;rw[nY]at hb;have:((cur.toList.take (o.el.length*z.length)).toArray).getD (I*z.length+j) undef=cur.getD (I*z.length+j) undef:=by
         rw[mI,mI];simp only[List.getElem?_toArray,oU];rw[if_pos (by omega)];simp
        rw[this];exact⟨(a6 I e' j c' p y).1,(a6 I e' j c' p y).2.mono (iv.refl _ _) F⟩)
       (λI e' j c' p y=>by
        exact⟨(hx I e' j c' p y).1,(hx I e' j c' p y).2.mono (iv.refl _ _) F⟩)
      exact⟨_,_,q,L',(iv.refl L w).trans F g1,F.trans g2,by simpa[iD]using g3,g4⟩
  obtain⟨x,w',av,aw⟩:=ao;exact⟨x,_,_,w',av,hk,aw⟩
 |_=>exact Q.elim
theorem VX{t e:TypeId}(y:P.underlying t=U (.slice e)){es:Nat}{vx:Value}{l:List (List AV)}(z:VR fm w L vx (.rd es l))(h0:0<es):
  ∃news,pk P w t es vx l.length news/\ ∀i e j c,l[i]?=U e->e[j]?=U c->(news.getD (i*es+j) undef).oneCell'=zZ/\VR fm w L (news.getD (i*es+j) undef) c:=by
 by_cases H:l=[]
 .subst H;obtain⟨X,c,rfl⟩: ∃X c,vx= .slice X 0 c:=by
   cases z with
   |lT A es c=>simp
   |rd b o c es l vals B=>trivial
  refine⟨[],⟨.inl ⟨_,y⟩,λW=>by rfl,λW _=> ?_,by simp,λu C=>by cases C⟩,λi e j c g=>by trivial⟩;cases X<;>simp[Builtin.firstCells,loadCells,loadCellsFrom]
 .obtain⟨b,o,c,vals,rfl,k,p,h,D⟩:=VT z H;obtain⟨F,E,G⟩:=NQ k h;refine⟨flat es l.length vals,⟨.inl ⟨_,y⟩,λW=>by rfl,λW I=> ?_,F,G⟩,λi e' j c' g q=> ?_⟩
  .refine run_firstCells_some (P:=P) W es l.length ⟨b,o,zz⟩ l.length c _ F (λj v q=> ?_);have:=E j v q;simpa[World.cell?,I]using this
  .have d:=(iP.1 g).1;have J:=(iP.1 q).1;have K:=p e' (jc g);rw[NP d (by omega)];simp_all
theorem NT{t ty e:TypeId}{z:List Value}(g:P.underlying t=U (.slice e))(H:nG P e=U z)
  {h:HF} {nid:Nat} (k:HR fm w L h) (p:h nid=zz) {vs vx:Value} {s:AV} {l:List (List AV)}
  (q:VR fm w L vs s) (y:VR fm w L vx (.rd z.length l)) {K:AV->List jy->Prop} (d:mu z.length s l h nid K):
  ∃x v us w',(Builtin.append_ #[t,t] ty #[vs,vx]).run P w= .ok x w'/\K v us/\jb fm w L (iB h nid us) v x w':=by
 have h0:0<z.length:=by obtain⟨i,Z,I,J,A,B,C,D,E,F,G⟩:=vV H;omega
 obtain⟨news,h1,h2⟩:=VX g y h0;exact NS (rW h0) (λh=>absurd h (by omega)) g H k p q h1 h2 d
theorem Ka(s:ByteArray):(iM s).length=s.size:=by
 simp[iM,ByteArray.toList_eq]
theorem Yq6{t2:TypeId}(g:P.underlying t2=U .string)(s:ByteArray):
  pk P w t2 1 (.string s) (iM s).length (Lib.strCells s)/\ ∀i e j c,(iM s)[i]?=U e->e[j]?=U c->((Lib.strCells s).getD (i*1+j) undef).oneCell'=zZ/\VR fm w L ((Lib.strCells s).getD (i*1+j) undef) c:=by
 rw[Ka];refine⟨⟨.inr g,λW=>by rfl,λW _=>Lib.run_firstCells_string W 1 s,by simp[Lib.strCells_length],Lib.strCells_oneCell s⟩,λi e j c h H=> ?_⟩;unfold iM at h;rw[jt,lS]at h;obtain⟨b,d,rfl⟩:=h;cases j with
 |succ j=>trivial
 |zero=>
  simp at H;subst H;have:(Lib.strCells s).getD (i*1+0) undef= .int .u8 b.toNat:=by
   rw[ByteArray.toList_eq]at d;simp[Lib.strCells,List.getD,d]
  rw[this];exact⟨rfl,.v _⟩
end
end Go.Abs
namespace Go.Abs
open Go Go.RowKit
section
variable{P:Program}{fm:FM}{w:World}{L:Nat->Loc}
def Gl(P:Program)(o:Oper)(a:Act)(w:World)(x:Value)(w':World):Prop:=
 (execOp a.eval o).run P w= .ok (.value x) w'\/((execOp a.eval o).run P w= .ok .skip w'/\x=undef)
def Shown(P:Program)(fm:FM)(o:Oper)(a:Act)(w:World)(L:Nat->Loc)(h:HF)(nid:Nat)(K:AV->List jy->Prop):Prop:=
 ∃x v us w',Gl P o a w x w'/\K v us/\jb fm w L (iB h nid us) v x w'
theorem Shown.pure{o:Oper}{a:Act}{h:HF}{nid:Nat}{K:AV->List jy->Prop}(H:HR fm w L h){x:Value}{v:AV}
  (h1:(execOp a.eval o).run P w= .ok (.value x) w) (h2:K v []) (d:VR fm w L x v):Shown P fm o a w L h nid K:=
 ⟨x,v,[],w,.inl h1,h2,jb.same H d⟩
theorem VY{h:HF}{nid:Nat}(g:HR fm w L h)(k:h nid=zz)(e:TypeId){xs:Array Value}{cs:List AV}(H:CR fm w L xs cs)(h0:0<cs.length)(p:cs.length<=c_):
  jb fm w L (iB h nid [.push (U ⟨cs.length,[cs]⟩)]) (.ptr nid 0 0) (.pointer (U ⟨w.heap.size,0,zz⟩)) (w.alloc (.cells xs e)):=by
 obtain⟨K,q,y⟩:=J7 (w':=w.alloc (.cells xs e)) (cap:=1) (es:=cs.length) (el:=[cs]) (cur:=xs) (ty:=e) g k rfl rfl rfl rfl h0 (by simp) (by trivial) (by simp) (by simp[H.1])
  (λi e j c d z=>by
   cases i with
   |zero=>
    simp at d;subst d;simpa using H.2 j c z
   |succ i=>trivial)
 refine⟨_,K,q,y,?_⟩;have:=VR.lg (fm:=fm) (w:=w.alloc (.cells xs e)) (L:=λa=>if a=nid then .cells w.heap.size cs.length 1 else L a) w.heap.size cs.length 1 nid 0 0 (by simp);simp_all
theorem Yq7{t:TypeId}{g:Bool}{n O:Nat}(p:kc P t=U g)(q:jU P t=U n){xs:Array Value}{cs:List AV}(H:CR fm w L xs cs)(y:O<=cs.length)
  {K:AV->Prop} (h:sQ g n (cs.drop O) K): ∃x v,(part t xs O).run P w= .ok x w/\K v/\VR fm w L x v:=by
 cases g with
 |true=>
  obtain⟨h1,h2⟩:=h;simp at h1;refine⟨.agg (xs.extract O (O+n)),_,?_,h2,?_⟩
  .simp[part,BS p,pj q]
  .have A:=H.1;refine CR.agg ⟨by grind,λj c d=> ?_⟩;rw[oU]at d;split at d
   .rename_i k;rw[rU]at d;rw[NK (by omega) k];exact H.2 _ c d
   trivial
 |false=>
  obtain⟨c,h1,h2⟩:=h;rw[rU]at h1;have z:=(iP.1 h1).1;exact⟨_,c,J9 p (by rw[H.1];omega) w,h2,(H.2 O c h1).2⟩
theorem wJ{x:Value}{cs:List AV}(h:VR fm w L x (.agg cs)): ∃xs,x= .agg xs/\CR fm w L xs cs:=by
 cases h with
 |agg xs cs d h1 h=>exact⟨xs,rfl,d,λj c H=>⟨h1 j c H,h j c H⟩⟩
theorem EL{x:Value}{cs:List AV}(h:VR fm w L x (.iZ cs)): ∃xs,x= .tuple xs/\xs.size=cs.length/\ ∀j a,cs[j]?=U a->VR fm w L (xs.getD j undef) a:=by
 cases h with
 |iZ xs cs H h=>simp_all
theorem BV{x:Value}{cs:List AV}(h:VR fm w L x (.rp cs)): ∃(b o:Nat) (vals:Nat->Value),x= .pointer (U ⟨b,o,zz⟩)/\ ¬ma L b/\b<w.heap.size/\
  (∀(j:Nat) (x:AV),cs[j]?=U x->w.cell? ⟨b,o+j,zz⟩=U (vals j))/\ (∀(j:Nat) (x:AV),cs[j]?=U x->(vals j).oneCell'=zZ)/\ (∀j x,cs[j]?=U x->VR fm w L (vals j) x):=by
 cases h with
 |rp b o cs vals d H g h1 k=>exact⟨b,o,vals,rfl,d,H,g,h1,k⟩
theorem VZ{h:HF}(y:HR fm w L h){a:Nat}{o:iu}(z:h a=U (U o))(A: ∀i g,L a≠ .mp i g){i:Nat}{e:List AV}(k:o.el[i]?=U e):
  ∃g cap cur ty,L a= .cells g (wd o.es) cap/\0< (wd o.es)/\e.length=(wd o.es)/\w.heap[g]?=U (.cells cur ty (0,0))/\cur.size=cap*(wd o.es)/\o.el.length<=cap/\ (∀e∈o.el,e.length=(wd o.es))/\RR fm w L (wd o.es) cur o.el/\
   (i+1)*(wd o.es)<=cur.size:=by
 have H:=y.obj a o z;cases d:L a with
 |fresh=>rw[d]at H;trivial
 |dead=>rw[d]at H;trivial
 |nil=>rw[d]at H;rw[show o.el=[]from H.1]at k;trivial
 |hid g=>rw[d]at H;trivial
 |cells g es cap=>
  rw[d]at H;obtain⟨h0,h1,h2,E,p,cur,ty,B,q,C⟩:=H;subst h0;have D:=(iP.1 k).1;exact⟨g,cap,cur,ty,rfl,h1,p e (jc k),B,q,h2,p,C,by rw[q];exact lD _ (by omega)⟩
 |mp i g=>simp_all
theorem Yq8{p:BinOp}{t:TypeId}{V g:Value}{ea eb:Operand}{K:Value->Prop}
  (H:qX p (.v V) (.v g) K):
  ∃r,(do eqGuard p t ea eb V g;binOp p t V g:Sem Value).run P w= .ok r w/\K r:=by
 have B: ∀(s:Sem Value),((∃k x z y,V= .int k x/\g= .int z y)\/ ∃x y,V= .string x/\g= .string y)->(do eqGuard p t ea eb V g;s:Sem Value).run P w=s.run P w:=by
  intro s C;have:eqGuard p t ea eb V g=pure ():=by
   rcases C with⟨k,x,z,y,rfl,rfl⟩| ⟨x,y,rfl,rfl⟩<;>cases p<;>rfl
  simp_all
 unfold qX at H;split at H
 .rename_i k x z y E q;injection E with E;injection q with q
  subst E;subst q;rw[B _ (.inl ⟨k,x,z,y,rfl,rfl⟩)];obtain⟨d,H⟩:=H;cases p<;>simp only[EA]at H
  case shl=>
   obtain⟨h0,d⟩:=H;refine⟨_,?_,d⟩;have: ¬y<0:=by omega
   simp[binOp,Op.shift,this]
  case shr=>
   obtain⟨h0,d⟩:=H;refine⟨_,?_,d⟩;have: ¬y<0:=by omega
   simp[binOp,Op.shift,this]
  all_goals
   have A:k=z:=by rcases d with h|h|h<;>first|exact h|cases h
   subst A
  case quo=>obtain⟨h0,d⟩:=H;exact⟨_,by simp[binOp,Op.intDiv,h0],d⟩
  case rem=>obtain⟨h0,d⟩:=H;exact⟨_,by simp[binOp,Op.intDiv,h0],d⟩
  all_goals
   refine⟨_,?_,H⟩
   first
    | (simp[binOp,Op.intArith];done)
    | (simp[binOp,intBits_and,intBits_or,intBits_xor,intBits_andNot];done)
    | (simp[binOp,Op.intCmp];done)
 .rename_i x y E q;injection E with E;injection q with q
  subst E;subst q;rw[B _ (.inr ⟨x,y,rfl,rfl⟩)];cases p<;>simp only[BO]at H
  case add=>
   obtain⟨h0,d⟩:=H;refine⟨_,?_,d⟩;have:(x.size:Int)+(y.size:Int)<=9223372036854775807:=by omega
   simp[binOp,Op.stringOp,this]
  all_goals first|exact H.elim|exact⟨_,by rfl,H⟩
 trivial
theorem Gm{x:Value}{f:Nat}{cs:List AV}(h:VR fm w L x (.clo f cs)): ∃g xs,x= .func (.func g) #[] xs/\fm g=f/\xs.size=cs.length/\ ∀j a,cs[j]?=U a->VR fm w L (xs.getD j undef) a:=by
 cases h with
 |clo g xs cs H h=>grind
theorem Gn{x:Value}{es:Nat}{l:List (List AV)}(h:VR fm w L x (.rd es l)): ∃A c,x= .slice A l.length c/\l.length<=c:=by
 cases h with
 |lT A es c=>simp
 |rd b o c es l vals d g H k=>grind
theorem Kb{h:HF}(d:HR fm w L h){x:Value}{a i j:Nat}{o:iu}(k:h a=U (U o))(p:VR fm w L x (.ptr a i j)):
  ∃g es cap,L a= .cells g es cap/\es=(wd o.es)/\x= .pointer (U ⟨g,i*es+j,zz⟩):=by
 have H:=d.obj a o k;cases p with
 |lg g es cap a i j h=>rw[h]at H;exact⟨g,es,cap,h,H.1,rfl⟩
 |jN A a i j h=>rw[h]at H;trivial
theorem td{h:HF}(k:HR fm w L h){x:Value}{a O len:Nat}{o:iu}(p:h a=U (U o))(q:VR fm w L x (.ref a O len)):
  (∃g es cap,L a= .cells g es cap/\es=(wd o.es)/\O+len<=cap/\x= .slice (U ⟨g,O*es,zz⟩) len (cap-O))\/(∃A b,L a= .nil b/\ (b=zZ->A=zz)/\O=0/\len=0/\x= .slice A 0 0):=by
 have H:=k.obj a o p;cases q with
 |jH g es cap a O len h d=>rw[h]at H;exact .inl ⟨g,es,cap,h,H.1,d,rfl⟩
 |jo A a b h y=>simp_all
 |ju A c a O len h d=>rw[h]at H;trivial
theorem Kc{h:HF}(d:HR fm w L h){x:Value}{a:Nat}{o:iu}(k:h a=U (U o))(q:VR fm w L x (.np a)):
  (∃g,L a= .cells g 2 1/\nZ w g fm.bt/\ (x= .pointer zz\/x= .pointer (U ⟨g,0,zz⟩)))\/(∃g,L a= .mp zj g/\x= .map (U g))\/ ∃g,L a= .mp zZ g/\x= .pointer (U ⟨g,0,zz⟩):=by
 have H:=d.obj a o k;cases q with
 |qT g a v h y z=>simp_all
 |lL p a h=>rw[h]at H;trivial
 |rX g a h=>simp_all
 |rY g a h=>simp_all
 |mJ p a h=>rw[h]at H;trivial
theorem Yq9{p:BinOp}{a b:AV}{K:Value->Prop}(h:qX p a b K): ∃x y,a= .v x/\b= .v y:=by
 unfold qX at h;grind
theorem uJ{x:Value}(h:VR fm w L x .emp): ∃A,x= .slice A 0 0:=by
 cases h with
 |emp A=>simp
theorem wK{x:Value}{es:Nat}{l:List (List AV)}(h:VR fm w L x (.rd es l)):(l=[]/\ ∃A c,x= .slice A 0 c)\/
  ∃(b o c:Nat) (vals:Nat->Nat->Value),x= .slice (U ⟨b,o,zz⟩) l.length c/\l≠ []/\ (∀e∈l,e.length=es)/\0<es/\l.length<=c/\ ¬ma L b/\b<w.heap.size/\
   (∀i e j x,l[i]?=U e->e[j]?=U x->w.cell? ⟨b,o+i*es+j,zz⟩=U (vals i j))/\
   (∀i e j x,l[i]?=U e->e[j]?=U x->(vals i j).oneCell'=zZ)/\
   (∀i e j x,l[i]?=U e->e[j]?=U x->VR fm w L (vals i j) x):=by
 cases h with
 |lT A es c=>simp
 |rd b o c es l vals d g H k q p y h1 z=>exact .inr ⟨b,o,c,vals,rfl,d,g,H,k,q,p,y,h1,z⟩
theorem NU{x:Value}{a i j:Nat}(h:VR fm w L x (.ptr a i j)): ∃d,x= .pointer (U d):=by
 cases h with
 |lg g es cap a i j h=>simp
 |jN d a i j h=>simp
theorem V0{d:Addr}{a i j:Nat}(n:Nat)(h:VR fm w L (.pointer (U d)) (.ptr a i j)):VR fm w L (.pointer (U (d.add n))) (.ptr a i (j+n)):=by
 cases h with
 |lg g es cap a i j h=>
  rw[vU,Nat.add_assoc];exact .lg g es cap a i (j+n) h
 |jN d a i j h=>exact .jN _ a i (j+n) h
theorem V2{x:Value}{a O len:Nat}(h:VR fm w L x (.ref a O len)): ∃A c,x= .slice A len c/\len<=c:=by
 cases h with
 |jH g es cap a O len h H=>grind
 |jo A a b h d=>simp
 |ju A c a O len h H=>grind
theorem Yra{A:Option Addr}{c a O len n:Nat}(k:n<=len)(h:VR fm w L (.slice A len c) (.ref a O len)):VR fm w L (.slice A n c) (.ref a O n):=by
 cases h with
 |jH g es cap a O len h H=>exact .jH g es cap a O n h (by omega)
 |jo A a b h d=>
  have:n=0:=by omega
  subst this;exact .jo A a b h d
 |ju A c a O len h H=>exact .ju A c a O n h (by omega)
theorem V3{t:TypeId}{g:Bool}{n:Nat}(M:kc P t=U g)(N:jU P t=U n){h:HF}(D:HR fm w L h){x:Value}{a i j:Nat}{o:iu}(E:h a=U (U o))
  (O:VR fm w L x (.ptr a i j)) {e:List AV} (z:o.el[i]?=U e) {K:AV->Prop} (A:sQ g n (e.drop j) K):
  ∃F y v,x= .pointer (U F)/\ (loadVar t F).run P w= .ok y w/\K v/\VR fm w L y v:=by
 obtain⟨G,es,cap,Q,B,rfl⟩:=Kb D E O;subst B;obtain⟨W,I,cur,ty,H,J,R,C,S,T,_,d,V⟩:=VZ D E (λi g e=>by simp_all) z;rw[Q]at H;injection H with e1 e2 e3
 subst e1;subst e3;have p: ∀k x,(e.drop j)[k]?=U x->e[j+k]?=U x/\i*(wd o.es)+j+k<cur.size:=by
  grind
 obtain⟨y,v,h1,h2,X⟩:=J8 (P:=P) M N (b:=G) (o:=i*(wd o.es)+j) (cs:=e.drop j) (vals:=λk=>cur.getD (i*(wd o.es)+j+k) undef)
  (λk x q=>by
   rw[cell_of_row w G _ cur ty (0,0) C];simp_all)
  (λk x q=>by
   have:=d i e (j+k) x z (p k x q).1;grind)
  (λk x q=>by
   have:=d i e (j+k) x z (p k x q).1;rw[<-Nat.add_assoc]at this;exact this.2) A
 grind
theorem NV{t:TypeId}{x:Operand}{a:Act}{d:Addr}{y:Value}{dst:Option Tmp}{ty:TypeId}{pos:String}{after:Array Edge}{guard:Option (Nat×Bool)}
  (h:a.eval x= .pointer (U d)) (H:(loadVar t d).run P w= .ok y w):
  (execOp a.eval {dst,op:=.load t x,type:=ty,pos,after,guard}).run P w= .ok (.value y) w:=by
 simp[execOp,Instr.loadAt,Instr.sureAddr,h,H]
theorem Yrb{l cs:List AV}{j:Nat}(h:j+cs.length<=l.length):(iK l j cs).length=l.length:=by simp[iK];omega
theorem Yrc{l cs:List AV}{j k:Nat}{c:AV}(h:j+cs.length<=l.length)(d:(iK l j cs)[k]?=U c):
  (j<=k/\k<j+cs.length/\cs[k-j]?=U c)\/(¬ (j<=k/\k<j+cs.length)/\l[k]?=U c):=by
 simp only[iK]at d;by_cases H:j<=k/\k<j+cs.length
 .grind
 .right;refine⟨H,?_⟩;by_cases g:k<j
  .grind
  .rw[nF (by grind),rU]at d;grind
theorem Yrd{t:TypeId}{n:Nat}(hn:jU P t=U n){h:HF}(G:HR fm w L h){x y:Value}{a i j:Nat}{o:iu}(K:h a=U (U o))
  (hx:VR fm w L x (.ptr a i j)) {e cs:List AV} (M:o.el[i]?=U e) (N:CR fm w L y.cells cs) (O:cs.length=n) (a5:j+n<=e.length):
  ∃ad w',x= .pointer (U ad)/\ (storeVar t ad y).run P w= .ok () w'/\iv L w w'/\HR fm w' L (λb=>if b=a then U (U ⟨o.es,o.el.set i (iK e j cs)⟩)else h b):=by
 obtain⟨gb,es,cap,hL,Q,rfl⟩:=Kb G K hx;subst Q;obtain⟨g',a2,cur,ty,z,a3,a6,A,a7,a8,B,C,R⟩:=VZ G K (λi g e=>by simp_all) M;rw[hL]at z;injection z with e1 e2 e3
 subst e1;subst e3;rw[nY]at R;have S:y.cells.toList.length=n:=by rw[<-O];simpa using N.1
 have T:=(iP.1 M).1;have D:=run_storeCells_at P gb (i*(wd o.es)+j) ty y.cells.toList 0 cur w A (by omega) (λv hv=>by
  obtain⟨k,V,e⟩:=List.getElem_of_mem hv;have a9:k<y.cells.size:=by trivial
  have:=(N.2 k _ (je (by omega))).1;simp_all)
 simp only[sZ]at D;have aa:(iK e j cs).length=e.length:=Yrb (by omega);obtain⟨k1,k2⟩:=EK G K hL A (cur':=(cur.toList.take (i*(wd o.es)+j)++y.cells.toList++cur.toList.drop (i*(wd o.es)+j+y.cells.toList.length)).toArray)
  (by grind) (el:=o.el.set i (iK e j cs)) (by simp_all)
  (λe' ab=>by
   grind)
  (λI e' J c H d=>by
   have W: ∀k,k<i*(wd o.es)+j->((cur.toList.take (i*(wd o.es)+j)++y.cells.toList++cur.toList.drop (i*(wd o.es)+j+y.cells.toList.length)).toArray).getD k undef=cur.getD k undef:=by
    intro k V;rw[qS,Gk (by grind)];simp_all
   have p: ∀k,k<n->((cur.toList.take (i*(wd o.es)+j)++y.cells.toList++cur.toList.drop (i*(wd o.es)+j+y.cells.toList.length)).toArray).getD (i*(wd o.es)+j+k) undef=y.cells.getD k undef:=by
    intro k V;rw[qS,lj (by grind)];simp only[List.getD];rw[ld (by omega),mI];simp
   have X: ∀k,i*(wd o.es)+j+n<=k->((cur.toList.take (i*(wd o.es)+j)++y.cells.toList++cur.toList.drop (i*(wd o.es)+j+y.cells.toList.length)).toArray).getD k undef=cur.getD k undef:=by
    intro k V;have E:(cur.toList.take (i*(wd o.es)+j)++y.cells.toList).length=i*(wd o.es)+j+n:=by grind
    obtain⟨m,rfl⟩: ∃m,k=i*(wd o.es)+j+n+m:=⟨k-(i*(wd o.es)+j+n),by omega⟩;rw[lj E,S];simp
   by_cases q:I=i
   .subst q;rw[o_ T]at H;injection H with H
    subst H;rcases Yrc (by omega) d with⟨p1,p2,F⟩| ⟨p1,F⟩
    .rw[show I*(wd o.es)+J=I*(wd o.es)+j+(J-j) by omega,p _ (by omega)];exact N.2 _ c F
    .have Y:=(iP.1 F).1;have:((cur.toList.take (I*(wd o.es)+j)++y.cells.toList++cur.toList.drop (I*(wd o.es)+j+y.cells.toList.length)).toArray).getD (I*(wd o.es)+J) undef=cur.getD (I*(wd o.es)+J) undef:=by
      grind
     rw[this];exact C I e J c M F
   .rw[mR (λe=>q e.symm)]at H;have Y:=(iP.1 d).1;have a4:=B e' (jc H);have:((cur.toList.take (i*(wd o.es)+j)++y.cells.toList++cur.toList.drop (i*(wd o.es)+j+y.cells.toList.length)).toArray).getD (I*(wd o.es)+J) undef=cur.getD (I*(wd o.es)+J) undef:=by
     rcases Nat.lt_or_gt_of_ne q with Z|a0
     .have hb:(I+1)*(wd o.es)<=i*(wd o.es):=lD _ Z;grind
     .have hb:(i+1)*(wd o.es)<=I*(wd o.es):=lD _ a0;grind
    rw[this];exact C I e' J c H d)
 refine⟨_,_,rfl,?_,k1,k2⟩;have a1:y.cells.size=n:=by trivial
 simp only[storeVar,Sem.run_bind,pj hn,Result.andThen_ok,Sem.run_ite,a1,ne_eq,not_true,if_false];trivial
end
end Go.Abs
namespace Go.Abs
open Go Go.RowKit
section
variable{P:Program}{fm:FM}{w:World}{L:Nat->Loc}
theorem ix{α:Type}{b:Bool}{x:Option α}{y:α}(h:(bif b then x else zz)=U y):b=zZ/\x=U y:=by
 grind
theorem V4{h:HF}(q:HR fm w L h){a:Nat}{o:iu}(M:h a=U (U o)){x:Value}{len:Nat}(Z:len<=o.el.length)(P:VR fm w L x (.ref a 0 len)):
  VR fm w (λb=>if b=a then .dead else L b) x (.rd (wd o.es) (o.el.take len)):=by
 have d:=q.obj a o M;obtain⟨F,_⟩:=Ap q a w.heap.size (λg e=>by rw[e]at d;exact d);rcases td q M P with⟨g,es,cap,D,E,e2,rfl⟩| ⟨A,_,D,_,_,rfl,rfl⟩
 .subst E;by_cases G:len=0
  .subst G;exact .lT _ _ _
  .rw[D]at d;obtain⟨_,I,Q,R,p,cur,ty,N,S,z⟩:=d;have J:=(pV.1 N).1;have H: ∀(i:Nat) (e:List AV),(o.el.take len)[i]?=U e->o.el[i]?=U e:=λi e y=>by
    grind
   have O:(o.el.take len).length=len:=by simp_all
   have:=VR.rd (fm:=fm) (w:=w) (L:=λb=>if b=a then .dead else L b) g 0 cap (wd o.es) (o.el.take len) (λi j=>cur.getD (i*(wd o.es)+j) undef)
    (λe=>by simp_all) (λe T=>p e (List.mem_of_mem_take T)) I (by omega)
    (λV=>by
     rcases V with(⟨b,e,c,k⟩| ⟨b,i,k⟩)| ⟨b,s,k,K⟩
     .by_cases E:b=a
      .simp_all
      .simp[E]at k;exact E (q.inj b a g _ _ _ _ k D)
     .by_cases E:b=a
      .simp_all
      .simp[E]at k;obtain⟨_,hm,hn⟩:=q.Ew k;grind
     .by_cases E:b=a
      .simp_all
      .simp[E]at k;exact(q.hid b s k _ K).2 (.inl ⟨a,_,_,D⟩)) J
    (λi e j c y B=>by
     have C:=H i e y;rw[cell_of_row _ _ _ cur ty (0,0) N,mD];refine BT ?_;have W:=(iP.1 C).1;have X:=(iP.1 B).1;have Y:=p e (jc C);have k:(i+1)*(wd o.es)<=cap*(wd o.es):=lD _ (by omega);grind)
    (λi e j c y B=>(z i e j c (H i e y) B).1)
    (λi e j c y B=>(z i e j c (H i e y) B).2.mono (iv.refl _ _) F)
   simp_all
 .exact .lT _ _ _
theorem V5{os es:Nat}{s:AV}{l:List (List AV)}{h:HF}{nid:Nat}{o:iu}{us:List jy}(H:pc os es s l h nid=U (o,us)):
  o.es=os/\EB os es s l h nid (λv k=>v= .ref nid 0 o.el.length/\k=us++[.push (U o)]):=by
 obtain⟨h1,d⟩:=ix H;clear H;have H:=d;clear d;have g: ∀e∈l,e.length=es:=λe q=>jr (ly.1 h1 e q);cases s<;>(try simp only at H)<;>try trivial
 case emp=>
  obtain⟨h2,H⟩:=ix H;injection H with H;injection H with e1 e2;subst e1;subst e2
  simp at h2;exact⟨rfl,h2.1,g,λh0 w=>by simp_all,rfl,rfl⟩
 case ref a O len=>
  cases p:h a with
  |none=>simp_all
  |some x=>
   cases x with
   |none=>simp_all
   |some o'=>
    rw[p]at H;obtain⟨h2,H⟩:=ix H;simp at h2;injection H with H;injection H with e1 e2;subst e1;subst e2
    refine⟨rfl,o',p,h2.1.1.1,h2.1.1.2,h2.1.2,h2.2,g,?_,rfl⟩;simp
theorem NW(h:HF)(nid:Nat): ∀(us vs:List jy),iB h nid (us++vs)=iB (iB h nid us) nid vs
 | [],_=>rfl
 |u::us,vs=>by exact NW (iD h nid u) nid us vs
theorem V6{w':World}{h:HF}{nid:Nat}{us:List jy}{o:iu}{x:Value}(p:jb fm w L (iB h nid (us++[.push (U o)])) (.ref nid 0 o.el.length) x w'):
  jb fm w L (iB h nid (us++[.push zz])) (.rd (wd o.es) o.el) x w':=by
 obtain⟨y,h1,h2,d,q⟩:=p;rw[NW]at d;have k:iB (iB h nid us) nid [.push (U o)] nid=U (U o):=by show(if nid=nid then _ else _)=_;simp
 have H:=d.obj nid o k;obtain⟨K,z⟩:=Ap d nid w.heap.size (λg e=>by rw[e]at H;exact H);refine⟨_,h1,h2.trans K,?_,?_⟩
 .rw[NW];have:iB (iB h nid us) nid [.push zz]=λb=>if b=nid then U zz else iB (iB h nid us) nid [.push (U o)] b:=by
   funext b;show(if b=nid then _ else _)=(if b=nid then _ else(if b=nid then _ else _));simp_all
  simp_all
 .have:=V4 d k (jG _) q;simp_all
theorem V7{es:Nat}{vx:Value}{x:AV}{l:List (List AV)}(d:VR fm w L vx x)(h:pZ x=U l)(H:uG es x=zZ):VR fm w L vx (.rd es l):=by
 cases x<;>simp only[pZ]at h<;>try trivial
 .injection h with h;subst h;obtain⟨A,rfl⟩:=uJ d;exact .lT A _ 0
 .injection h with h;subst h;simp only[uG]at H;simp_all
theorem V8{os:Nat}{t ty e:TypeId}{z:List Value}(d:wd os=z.length)(H:os=0->e=fm.bu)(q:P.underlying t=U (.slice e))(g:nG P e=U z)
  {h:HF} {nid:Nat} (A:HR fm w L h) (B:h nid=zz) {vs vx:Value} {s x:AV} {l:List (List AV)} {o:iu} {us:List jy}
  (C:VR fm w L vs s) (D:VR fm w L vx x) (E:pZ x=U l) (k:uG z.length x=zZ) (p:pc os z.length s l h nid=U (o,us)):
  ∃y w',(Builtin.append_ #[t,t] ty #[vs,vx]).run P w= .ok y w'/\o.es=os/\jb fm w L (iB h nid (us++[.push (U o)])) (.ref nid 0 o.el.length) y w':=by
 obtain⟨h1,h2⟩:=V5 p;have h0:0<z.length:=by rw[<-d];exact VA os
 obtain⟨news,G,F⟩:=VX q (V7 D E k) h0;obtain⟨y,v,I,w',K,⟨rfl,rfl⟩,J⟩:=NS (ty:=ty) d H q g A B C G F h2;grind
theorem V9{os:Nat}{t ty e:TypeId}{z:List Value}(d:wd os=z.length)(H:os=0->e=fm.bu)(q:P.underlying t=U (.slice e))(g:nG P e=U z)
  {h:HF} {nid:Nat} (A:HR fm w L h) (B:h nid=zz) {vs vx:Value} {s x:AV} {l:List (List AV)} {o:iu} {us:List jy}
  (C:VR fm w L vs s) (D:VR fm w L vx x) (E:pZ x=U l) (k:uG z.length x=zZ) (p:pc os z.length s l h nid=U (o,us)):
  ∃y w',(Builtin.append_ #[t,t] ty #[vs,vx]).run P w= .ok y w'/\jb fm w L (iB h nid (us++[.push zz])) (.rd z.length o.el) y w':=by
 obtain⟨y,w',K,h1,F⟩:=V8 (ty:=ty) d H q g A B C D E k p;refine⟨y,w',K,?_⟩;rw[<-d,<-h1];exact V6 F
theorem Yre{t t2 ty e:TypeId}{z:List Value}(A:P.underlying t=U (.slice e))(d:P.underlying t2=U .string)(g:nG P e=U z)(H:z.length=1)(k:e=fm.bu)
  {h:HF} {nid:Nat} (B:HR fm w L h) (C:h nid=zz) {vs:Value} {s:AV} {x:ByteArray} {o:iu} {us:List jy}
  (D:VR fm w L vs s) (p:pc 0 1 s (iM x) h nid=U (o,us)):
  ∃y w',(Builtin.append_ #[t,t2] ty #[vs,.string x]).run P w= .ok y w'/\jb fm w L (iB h nid (us++[.push (U o)])) (.ref nid 0 o.el.length) y w':=by
 obtain⟨h1,h2⟩:=V5 p;obtain⟨G,q⟩:=Yq6 (P:=P) (fm:=fm) (w:=w) (L:=L) d x;rw[<-H]at h2 G q;obtain⟨y,v,E,w',K,⟨rfl,rfl⟩,F⟩:=NS (os:=0) (ty:=ty) (by rw[H];rfl) (λ_=>k) A g B C D G q h2;grind
theorem V': ∀{l:List (List AV)} {b:List UInt8},vR l=U b->b.length=l.length/\ ∀(i:Nat) (e:List AV),l[i]?=U e-> ∃n,e=[.v (.int .u8 n)]/\b[i]?=U (UInt8.ofNat n.toNat)
 | [],b,h=>by simp only[vR]at h;simp_all
 |e::r,b,h=>by
  simp only[vR]at h;split at h
  .rename_i x xs g H;injection h with h;subst h
   obtain⟨h1,h2⟩:=V' H;refine⟨by grind,λi e' d=> ?_⟩;cases i with
   |zero=>
    simp at d;subst d;unfold JZ at g;grind
   |succ i=>simp_all
  trivial
theorem V_: ∀(l:List Int) (r:ByteArray),l.foldl (λr n=>r.push (UInt8.ofNat n.toNat)) r=⟨r.data++(l.map λn=>UInt8.ofNat n.toNat).toArray⟩
 | [],r=>by simp
 |b::l,r=>by
  simp;rw[V_ l];simp
theorem Wa{src d e:TypeId}(F:P.underlying src=U (.slice e))(G:P.underlying e=U (.int .u8))(hd:P.underlying d=U .string){x:Value}{l:List (List AV)}(Q:VR fm w L x (.rd 1 l)){b:List UInt8}(R:vR l=U b):
  (convert src d x).run P w= .ok (.string ⟨b.toArray⟩) w:=by
 obtain⟨h1,h2⟩:=V' R;rcases wK Q with⟨rfl,A,c,rfl⟩| ⟨g,o,c,vals,rfl,S,T,I,V,W,X,B,J,C⟩
 .have D:b=[]:=mC.1 h1;subst D;rw[run_convert_bytes_string w src d e A 0 c F G hd];cases A with
  |none=>rfl
  |some A=>
   rfl
 .rw[run_convert_bytes_string w src d e _ l.length c F G hd];have K: ∀i e',l[i]?=U e'-> ∃n,vals i 0= .int .u8 n/\b[i]?=U (UInt8.ofNat n.toNat):=λi e' H=>by
   obtain⟨n,rfl,p⟩:=h2 i e' H;exact⟨n,kI (C i _ 0 _ H rfl),p⟩
  have E: ∃N:List Int,N.length=l.length/\ (∀i n,N[i]?=U n->vals i 0= .int .u8 n)/\N.map (λn=>UInt8.ofNat n.toNat)=b:=by
   refine⟨(List.range l.length).map λi=>(match vals i 0 with| .int _ n=>n|_=>0),by simp,λi n H=> ?_,?_⟩
   .rw[jt,lS]at H;obtain⟨k,M,rfl⟩:=H;have q:=(iP.1 M).1;have y:=(iP.1 M).2;simp at q y;subst y;obtain⟨n,p,_⟩:=K i _ (je q);grind
   .apply pT;intro i;by_cases H:i<l.length
    .obtain⟨n,p,Y⟩:=K i _ (je H);simp_all
    simp_all
  obtain⟨N,Z,k2,k3⟩:=E;have h:=run_loadCells_list (P:=P) w ⟨g,o,zz⟩ (N.map (Value.int .u8)) (λj v O=>by
   rw[jt,lS]at O;obtain⟨n,p,rfl⟩:=O;have z:j<l.length:=by grind
   obtain⟨n',a0,a1⟩:=h2 j _ (je z);have:=B j _ 0 (.v (.int .u8 n')) (je z) (by simp_all);rw[Addr.add_lit,<-k2 j n p];simp_all)
  simp only[pQ,Z]at h;rw[run_bytesToString w _ l.length c N h,V_,k3];simp
theorem Yrf{src D e:TypeId}(A:P.underlying src=U .string)(hd:P.underlying D=U (.slice e))(B:P.underlying e=U (.int .u8)){h:HF}(k:HR fm w L h)(s:ByteArray):
  ∃x w',(convert src D (.string s)).run P w= .ok x w'/\iv L w w'/\HR fm w' L h/\VR fm w' L x (.rd 1 (iM s)):=by
 refine⟨_,_,run_bytes_of_string w src D e s A hd B,?_⟩;have z:iv L w (w.drew.alloc (.cells (bytesRow s (grownCap w s.size 0 e)) e ((bytesRow s (grownCap w s.size 0 e)).size,(bytesRow s (grownCap w s.size 0 e)).size+1))):=
  (show iv L w w.drew from⟨rfl,rfl,rfl,jG _,λ_ _ _=>rfl,λ_ _ h=>h⟩).trans (hY.refl L _) (NL w.drew L _)
 refine⟨z,k.mono z (λb H _=>Below.heap_alloc w.drew _ b H),?_⟩;have E:=grownCap_ge w s.size 0 e;by_cases h0:iM s=[]
 .have:s.size=0:=by rw[<-Ka,h0];rfl
  rw[h0,this];exact .lT _ _ _
 .have H: ∀(i:Nat) (e':List AV),(iM s)[i]?=U e'-> ∃(d:i<s.data.size),e'=[.v (.int .u8 (s.data[i].toNat:Int))]:=λi e' d=>by
   unfold iM at d;rw[jt,lS,ByteArray.toList_eq]at d;grind
  have:=VR.rd (fm:=fm) (w:=w.drew.alloc (.cells (bytesRow s (grownCap w s.size 0 e)) e ((bytesRow s (grownCap w s.size 0 e)).size,(bytesRow s (grownCap w s.size 0 e)).size+1))) (L:=L) w.heap.size 0 (grownCap w s.size 0 e) 1 (iM s)
   (λi j=>match s.data[i]? with|some b=>.int .u8 (b.toNat:Int)|none=>undef) h0 (λe' q=>by
    obtain⟨i,d,rfl⟩:=List.mem_iff_getElem.1 q;obtain⟨_,h2⟩:=H i _ (je d);simp_all) (by decide) (by rw[Ka];omega)
   (λF=>F.elim (λh=>h.elim (λ⟨b,G,C,H⟩=>by have:=k.lF H;omega) (λ⟨b,i,H⟩=>by have:=k.Af H;omega)) (λ⟨b,s,H,y⟩=>by have:=(k.hid b s H _ y).1;omega)) (by simp)
   (λi e' j c d p=>by
    obtain⟨h1,rfl⟩:=H i e' d;have g:j=0:=by
     grind
    subst g;have:=World.cell?_alloc_mark w.drew (bytesRow s (grownCap w s.size 0 e)) e ((bytesRow s (grownCap w s.size 0 e)).size,(bytesRow s (grownCap w s.size 0 e)).size+1) i;rw[bytesRow_at s _ i h1]at this;simp;rw[rH h1];trivial)
   (λi e' j c d p=>by obtain⟨h1,rfl⟩:=H i e' d;rw[rH h1];rfl)
   (λi e' j c d p=>by
    obtain⟨h1,rfl⟩:=H i e' d;have g:j=0:=by
     grind
    subst g;simp at p;subst p;rw[rH h1];exact .v _)
  rw[Ka]at this;trivial
theorem Yrg{h:HF}{nid:Nat}(z:HR fm w L h)(A:h nid=zz):
  jb fm w L (iB h nid [.push (U ⟨2,[[.np nid,.v (.slice zz 0 0)]]⟩)]) (.ptr nid 0 0) (.pointer (U ⟨w.heap.size,0,zz⟩)) (w.alloc (.cells #[.pointer zz,.slice zz 0 0] fm.bt)):=by
 obtain⟨B,D,K⟩:=J7 (w':=w.alloc (.cells #[.pointer zz,.slice zz 0 0] fm.bt)) (cap:=1) (es:=2) (el:=[[.u,.v (.slice zz 0 0)]]) (cur:= #[.pointer zz,.slice zz 0 0]) (ty:=fm.bt) z A rfl rfl rfl rfl (by decide) (by simp) (by trivial) (by simp) (by simp)
  (λi e j c d H=>by
   match i,d with
   |0,d=>
    simp at d;subst d
    match j,H with
    |0,H=>simp at H;subst H;exact⟨rfl,.u _⟩
    |1,H=>simp at H;subst H;exact⟨rfl,.v _⟩
    |j+2,H=>trivial
   |i+1,d=>trivial)
 refine⟨_,B,D,⟨λb o p=> ?_,λb p=> ?_,λb=> ?_,K.inj,K.hid,λb o g E C h1 h2 F=> ?_,λb i g p=>by
  obtain⟨⟨o,q⟩,k⟩:=K.qU b i g p;refine⟨?_,k⟩;by_cases e:b=nid
  .simp_all
  .exact⟨o,by simpa[iB,iD,e]using q⟩,K.tab⟩,?_⟩
 .by_cases e:b=nid
  .subst e;simp[iB,iD]at p;subst p;have y:(w.alloc (.cells #[.pointer zz,.slice zz 0 0] fm.bt)).heap[w.heap.size]?=U (.cells #[.pointer zz,.slice zz 0 0] fm.bt (0,0)):=heap_alloc_new w _;simp only[if_true];refine⟨rfl,by decide,by simp,by trivial,by simp,_,_,y,rfl,λi e j c d H=> ?_⟩
   match i,d with
   |0,d=>
    simp at d;subst d
    match j,H with
    |0,H=>simp at H;subst H;exact⟨rfl,.qT w.heap.size b _ (by simp) ⟨_,_,y⟩ (.inl rfl)⟩
    |1,H=>simp at H;subst H;exact⟨rfl,.v _⟩
    |j+2,H=>trivial
   |i+1,d=>trivial
  .exact K.obj b o (by simpa[iB,iD,e]using p)
 .obtain⟨o,q⟩:=K.live b p;by_cases e:b=nid
  .exact⟨_,by simp[iB,iD,e];rfl⟩
  .exact⟨o,by simpa[iB,iD,e]using q⟩
 .have:=K.fresh b;by_cases e:b=nid
  .simp[iB,iD,e]
  .simpa[iB,iD,e]using this
 .by_cases e:b=nid
  .subst e;simp[iB,iD]at h1;grind
  .exact K.qw b o g E C (by simpa[iB,iD,e]using h1) h2 F
 .have:=VR.lg (fm:=fm) (w:=w.alloc (.cells #[.pointer zz,.slice zz 0 0] fm.bt)) (L:=λa=>if a=nid then .cells w.heap.size 2 1 else L a) w.heap.size 2 1 nid 0 0 (by simp);trivial
theorem Wb: ∀{xs:List AV} {l:List (List AV)},jJ xs=U l->l.length=xs.length
 | [],l,h=>by simp only[jJ]at h;simp_all
 |a::r,l,h=>by
  simp only[jJ]at h;split at h
  .rename_i H;injection h with h;subst h;simp[Wb H]
  trivial
theorem Wc{env:Env}{es:Nat}: ∀(xs:List iY) (l cur:List (List AV)) (n:Nat) (K:List (List AV)->Prop),jJ (xs.map (iC env))=U l->(∀e∈l,e.length=es)->n+xs.length<=cur.length->K (cur.take n++l++cur.drop (n+xs.length))->
  s_ es cur env (xs.zipIdx n|>.map λp=>(p.2,p.1)) K
 | [],l,cur,n,K,h,_,_,k=>by
   injection h with h;subst h
   simpa[s_]using k
 |x::xs,l,cur,n,K,h,H,g,k=>by
  simp only[kn,jJ]at h;split at h
  .rename_i cs l' d q;injection h with h;subst h
   simp at g;refine⟨cs,d,H cs (by simp),by omega,?_⟩;refine Wc xs l' (cur.set n cs) (n+1) K q (λe w=>H e (wD _ w)) (by grind) ?_;have E:(cur.set n cs).take (n+1)=cur.take n++[cs]:=by
    rw[List.take_set,List.take_succ_eq_append_getElem (by omega)];rw[List.set_append_right _ _ (by grind)];have:min n cur.length=n:=by omega
    simp_all
   have y:(cur.set n cs).drop (n+1+xs.length)=cur.drop (n+(xs.length+1)):=by
    rw[List.drop_set_of_lt (by omega)];grind
   simp_all
  trivial
theorem Wd{F:Func}{n:String}(H:F.name=n)(d:F.origin= "")(h:(Extern.allNextRows.lookup n,Extern.allNextRows.lookup "")=(zz,zz)):Extern.findNext F=none:=by
 injection h with h1 h2
 unfold Extern.findNext;grind
theorem We{F:Func}{n:String}{g:Array Value->Sem Value}(h:F.name=n)(h1:Extern.allGenericRows.lookup n=zz)(h2:Extern.allTypedRows.lookup n=zz)(H:Extern.allRows.lookup n=U g):Extern.find F=U g:=by
 unfold Extern.find;grind
def Wf:Array Value->Sem Value:=λargs=>do
 let(x,y,c)<-Extern.MathBitsCarry.three "Add64" args
 pure (Extern.MathBitsCarry.pair ((x+y+c) % Extern.MathBitsCarry.m64) ((x+y+c)/Extern.MathBitsCarry.m64))
def Wg:Array Value->Sem Value:=λargs=>do
 let(x,y,b)<-Extern.MathBitsCarry.three "Sub64" args
 pure (Extern.MathBitsCarry.pair ((x+Extern.MathBitsCarry.m64-y-b) % Extern.MathBitsCarry.m64) (if x<y+b then 1 else 0))
theorem Yrh(x y c:Int)(h:c.toNat<=1)(w:World):(Wf #[.int .u64 x,.int .u64 y,.int .u64 c]).run P w= .ok (.tuple #[.int .u64 (Aj x y c).1,.int .u64 (Aj x y c).2]) w:=by
 match c,h with
 | .ofNat 0,_=>rfl
 | .ofNat 1,_=>rfl
 | .ofNat (n+2),h=>trivial
 | .negSucc m,_=>rfl
theorem Yri(x y c:Int)(h:c.toNat<=1)(w:World):(Wg #[.int .u64 x,.int .u64 y,.int .u64 c]).run P w= .ok (.tuple #[.int .u64 (Ak x y c).1,.int .u64 (Ak x y c).2]) w:=by
 match c,h with
 | .ofNat 0,_=>rfl
 | .ofNat 1,_=>rfl
 | .ofNat (n+2),h=>trivial
 | .negSucc m,_=>rfl
theorem Wh{xs:List AV}{vs:List Value}{a b c:Value}(H:xs=[.v a,.v b,.v c])(d:vs.length=xs.length)(h: ∀(j:Nat) (c:AV) (y:Value),xs[j]?=U c->vs[j]?=U y->VR fm w L y c):vs=[a,b,c]:=by
 subst H
 match vs,d with
 | [p,q,r],_=>rw[kI (h 0 _ p rfl rfl),kI (h 1 _ q rfl rfl),kI (h 2 _ r rfl rfl)]
theorem Wi(k:IntKind)(x y:Int):VR fm w L (.tuple #[.int k x,.int k y]) (.iZ [.v (.int k x),.v (.int k y)]):=by
 refine .iZ _ _ rfl (λj a h=> ?_)
 match j,h with
 |0,h=>simp at h;subst h;exact .v _
 |1,h=>simp at h;subst h;exact .v _
 |j+2,h=>trivial
theorem Yrj(xs:List AV)(vs:List Value)(r:AV)(h:lG .add64 xs=U r)(g:vs.length=xs.length)(k: ∀(j:Nat) (c:AV) (y:Value),xs[j]?=U c->vs[j]?=U y->VR fm w L y c): ∃y,(Wf vs.toArray).run P w= .ok y w/\VR fm w L y r:=by
 unfold lG at h;split at h<;>try(rename_i H;cases H;done)
 case _ x y c _ _=>
  split at h
  .rename_i H;injection h with h;subst h
   have d:=Wh rfl g k;subst d;refine⟨_,?_,Wi _ _ _⟩;exact Yrh _ _ _ H w
  trivial
 trivial
theorem Yrk(xs:List AV)(vs:List Value)(r:AV)(h:lG .sub64 xs=U r)(g:vs.length=xs.length)(k: ∀(j:Nat) (c:AV) (y:Value),xs[j]?=U c->vs[j]?=U y->VR fm w L y c): ∃y,(Wg vs.toArray).run P w= .ok y w/\VR fm w L y r:=by
 unfold lG at h;split at h<;>try(rename_i H;cases H;done)
 case _ x y c _ _=>
  split at h
  .rename_i H;injection h with h;subst h
   have d:=Wh rfl g k;subst d;refine⟨_,?_,Wi _ _ _⟩;exact Yri _ _ _ H w
  trivial
 trivial
end
end Go.Abs
namespace Go.Abs
open Go Go.RowKit
section
variable{P:Program}{fm:FM}{w:World}{L:Nat->Loc}
theorem Gp{h:HF}(d:HR fm w L h){a g:Nat}{i:Bool}{o o':iu}(ha:h a=U (U o))(B:L a= .mp i g){ob:Obj}(R: ∀c t f,ob≠ .cells c t f){w':World}
  (hw:w'.heap=w.heap.setIfInBounds g ob) (C:w'.os=w.os) (q:w'.tape=w.tape) (y:w'.output=w.output) (h0:o'.es≠0)
  (K:iv L w w'->w'.heap[g]?=U ob->pW fm w' L (.mp i g) o'):
  iv L w w'/\HR fm w' L (λb=>if b=a then U (U o')else h b):=by
 obtain⟨S,V,W⟩:=d.Ew B;have X:=d.Af B;have H: ∀b,b≠g->w'.heap[b]?=w.heap[b]?:=λb p=>by grind
 have z:iv L w w':=by
  refine⟨C,q,y,by simp_all,λb p D=>H b (λe=>D (e▸ .inr ⟨a,i,B⟩)),λb t E=>E.of (H b (λe=> ?_))⟩;obtain⟨c,f,E⟩:=E;simp_all
 have F:w'.heap[g]?=U ob:=by simp_all
 refine⟨z,λb O p=> ?_,λb p=> ?_,λb=> ?_,d.inj,λb G p=> ?_,λb O G es cap h1 h2 I=> ?_,λb j G p=> ?_,d.tab.mono z λ_ h=>.inl h⟩
 .by_cases e:b=a
  .simp_all
  .simp[e]at p;have A:=d.obj b O p;revert A;cases J:L b with
   |fresh=>exact id
   |dead=>exact id
   |nil=>exact id
   |hid g=>exact id
   |cells G Y M=>
    rintro⟨h0,h1,h2,I,Z,cur',T,h5,h6,N⟩;refine⟨h0,h1,h2,I,Z,cur',T,?_,h6,λi e' j x P Q=>⟨(N i e' j x P Q).1,(N i e' j x P Q).2.mono z (hY.refl _ _)⟩⟩;grind
   |mp j G=>
    intro hm;exact xL hm z (hY.refl _ _) (λa0 h1=>by
     rw[H G (λe'=>e ((d.qU b j G J).2 a i (by simp_all)))];exact h1)
 .by_cases e:b=a
  .simp_all
  .obtain⟨O,D⟩:=d.live b p;simp_all
 .by_cases e:b=a
  .simp_all
  .simp only[e,if_false];exact d.fresh b
 .have:=d.hid b G p;simp_all
 .by_cases e:b=a
  .simp_all
  .simp[e]at h1;exact z.tY _ _ (d.qw b O G es cap h1 h2 I)
 .obtain⟨⟨O,D⟩,k⟩:=d.qU b j G p;grind
theorem Wj{h:HF}{nid:Nat}(y:HR fm w L h)(W:h nid=zz){i:Bool}{o:iu}{ob:Obj}(X: ∀c t f,ob≠ .cells c t f){w':World}
  (hw:w'.heap=w.heap.push ob) (O:w'.os=w.os) (B:w'.tape=w.tape) (G:w'.output=w.output) (h0:o.es≠0)
  (Q: ∀D,iv L w w'->hY L D w.heap.size->D nid= .mp i w.heap.size->w'.heap[w.heap.size]?=U ob->pW fm w' D (.mp i w.heap.size) o):
  ∃D,D nid= .mp i w.heap.size/\iv L w w'/\hY L D w.heap.size/\HR fm w' D (iD h nid (.push (U o))):=by
 have Y:L nid= .fresh:=(y.fresh nid).2 W;have z: ∀b,b<w.heap.size->w'.heap[b]?=w.heap[b]?:=λb p=>by grind
 have F:iv L w w':=⟨O,B,G,by simp_all,λb p _=>z b p,λb t h=>h.of (z b h.lt)⟩;have q: ∀b,kN (λa=>if a=nid then .mp i w.heap.size else L a) b->kN L b\/w.heap.size<=b:=λb p=>by
  rcases p with⟨a,e,c,d⟩| ⟨a,j,d⟩
  .dsimp only at d;by_cases e:a=nid
   .simp_all
   .simp[e]at d;exact .inl (.inl ⟨a,_,_,d⟩)
  .dsimp only at d;by_cases e:a=nid
   .simp_all
   .simp[e]at d;exact .inl (.inr ⟨a,j,d⟩)
 have A:hY L (λa=>if a=nid then .mp i w.heap.size else L a) w.heap.size:=by
  refine⟨λa H=> ?_,λb p=> ?_,q⟩
  .grind
  .rcases p with p| ⟨a,H⟩
   .exact(q b p).imp .inl id
   .by_cases e:a=nid
    .simp_all
    .simp[e]at H;exact .inl (.inr ⟨a,H⟩)
 have Z: ∀a g e c,L a= .cells g e c->g<w.heap.size:=λa g e c d=>y.lF d;refine⟨_,if_pos rfl,F,A,λa o' E=> ?_,λa H=> ?_,λa=> ?_,λa b g e c e' c' H p=> ?_,λa s H g I=> ?_,λa o' g J C h1 h2 N=> ?_,λa j g H=> ?_,y.tab.mono F A.own⟩
 .by_cases e:a=nid
  .subst e;simp[iD]at E;simp_all
  .simp[iD,e]at E;have K:=y.obj a o' E;simp only[e,if_false];revert K;cases hL:L a with
   |fresh=>exact id
   |dead=>exact id
   |nil=>exact id
   |hid g=>exact id
   |cells g J C=>
    rintro⟨h0,h1,h2,N,h4,cur',T,h5,h6,R⟩;refine⟨h0,h1,h2,N,h4,cur',T,?_,h6,λi e' j x S V=>⟨(R i e' j x S V).1,(R i e' j x S V).2.mono F A⟩⟩;grind
   |mp j g=>
    intro hm;exact xL hm F A (λob h1=>by grind)
 .by_cases e:a=nid
  .simp_all
  .simp only[e,if_false]at H;obtain⟨o',P⟩:=y.live a H;exact⟨o',by simp[iD,e,P]⟩
 .by_cases e:a=nid
  .subst e;simp[iD]
  .simp only[e,if_false,iD];exact y.fresh a
 .by_cases e1:a=nid
  .simp_all
  .by_cases M:b=nid
   .simp_all
   .simp only[e1,if_false]at H;simp only[M,if_false]at p;exact y.inj a b g _ _ _ _ H p
 .by_cases e:a=nid
  .simp_all
  .simp[e]at H;exact⟨mS (y.hid a s H g I).1 F.size,λhc=>(q g hc).elim (y.hid a s H g I).2 (λh=>by have:=(y.hid a s H g I).1;omega)⟩
 .by_cases e:a=nid
  .simp_all
  .simp[iD,e]at h1;simp only[e,if_false]at N;exact F.tY _ _ (y.qw a o' g J C h1 h2 N)
 .by_cases e:a=nid
  .subst e;simp only[if_true]at H;injection H with _ I
   refine⟨⟨o,by simp[iD]⟩,λb j' p=> ?_⟩;by_cases M:b=a
   .omega
   .simp only[M,if_false]at p;have:=y.Af p;omega
  .simp only[e,if_false]at H;obtain⟨⟨o',P⟩,k⟩:=y.qU a j g H;refine⟨⟨o',by simp[iD,e,P]⟩,λb j' p=> ?_⟩;by_cases M:b=nid
   .simp only[M,if_true]at p;injection p with _ I
    have:=y.Af H;omega
   grind
theorem Yrl{o:iu}{c:Int}{el:List (List AV)}{T:List AV}(h:ka o=U (c,el,T)): ∃(R:AV),o.el=[.v (.int .i64 c)::R::T]/\Al R=U el/\ (o.es=3\/o.es=4):=by
 unfold ka at h;split at h
 .rename_i c' R d H;split at h
  .rename_i el' g;obtain⟨h1,h2⟩:=ix h;simp_all
  trivial
 trivial
theorem EM{h:HF}(q:HR fm w L h){a:Nat}{o:iu}{c:Int}{el:List (List AV)}{T:List AV}(y:h a=U (U o))(B:ka o=U (c,el,T)){x:Value}(D:VR fm w L x (.np a)):
  ∃g es n,x= .map (U g)/\c=((n:Nat):Int)/\L a= .mp zj g/\w.heap[g]?=U (.map es n)/\MR fm w L (o.es-2) es el/\vO es n/\ (o.es=3\/o.es=4)/\ ∀t∈T,VR fm w L (.bool zj) t:=by
 obtain⟨R,E,z,k⟩:=Yrl B;have H:=q.obj a o y;rcases Kc q y D with⟨g,d,_,_⟩| ⟨g,d,rfl⟩| ⟨g,d,rfl⟩
 .rw[d]at H;obtain⟨h0,_⟩:=H;rcases k with e|e<;>rw[e]at h0<;>cases h0
 .rw[d]at H;obtain⟨h0,es,C,c0,G,p,h1,h2,F,I,J,A⟩:=H;rw[E]at h2;injection h2 with h2 _
  injection h2 with h2 h7
  injection h7 with h7 h8
  subst h2;subst h7;subst h8;have:=kI F;injection this with _ this
  subst this;rcases A with rfl| ⟨W,el',rfl,A⟩
  .cases z
  .simp only[Al]at z;grind
 .rw[d]at H;have:=H.1;omega
theorem Wl{h:HF}(H:HR fm w L h){a g:Nat}{o:iu}{c:Int}{el:List (List AV)}{T:List AV}(d:h a=U (U o))(k:ka o=U (c,el,T))(p:VR fm w L (.map (U g)) (.np a)):
  ∃es n,c=((n:Nat):Int)/\L a= .mp zj g/\w.heap[g]?=U (.map es n)/\MR fm w L (o.es-2) es el/\vO es n:=by
 obtain⟨G,es,n,e,h0,h1,h2,q,y,_⟩:=EM H d k p;grind
theorem Yrm{K:Bool}{d:TypeDesc}{k g:Value}{r:Bool}(hd:(K=zZ/\d= .string)\/(K=zj/\ ∃q,d= .int q))(h:Gd K k g=U r):Instr.sameNow d k g=U r/\ (r=zZ->k=g):=by
 unfold Gd at h;split at h
 .rename_i p a w b;rcases hd with⟨rfl,rfl⟩| ⟨rfl,q,rfl⟩
  .cases h
  .refine⟨h,λH=> ?_⟩;simp_all
 .rename_i a b;rcases hd with⟨rfl,rfl⟩| ⟨rfl,q,rfl⟩
  .refine⟨h,λH=> ?_⟩;injection h with h
   rw[H]at h;rw[(MapKept.bytes_beq a b).1 h]
  trivial
 trivial
theorem Wm{g:Bool}{d:TypeDesc}{k:Value}(hd:(g=zZ/\d= .string)\/(g=zj/\ ∃q,d= .int q)): ∀(el:List (List AV)) (E:List MapEntry) (i:Nat),E.length=el.length->
  (∀(j:Nat) (e:List AV),el[j]?=U e-> ∃(m:MapEntry) (b K:AV) (r:List AV),E[j]?=U m/\e=b::K::r/\VR fm w L m.key K)->
  (nJ g k el i=U zz->Instr.findNow d k E i=U zz)/\
  (∀p r,nJ g k el i=U (U (p,r))-> ∃n m b K,p=i+n/\el[n]?=U (b::K::r)/\E[n]?=U m/\m.key=k/\Instr.findNow d k E i=U (U (p,m.val)))
 | [],[],i,_,_=>⟨λ_=>rfl,λp r h=>by simp[nJ]at h⟩
 | [],_::_,i,h,_=>by grind
 |_::_,[],i,h,_=>by grind
 |e::el,M::E,i,F,H=>by
  obtain⟨m,b,K,r0,h1,rfl,z⟩:=H 0 e rfl;simp at h1;subst h1;have I:=Wm (k:=k) hd el E (i+1) (by simp_all) (λj e J=>by simpa using H (j+1) e (by trivial));cases K with
  |v A=>
   have y:=kI z;simp only[nJ,Instr.findNow];rw[y];cases B:Gd g k A with
   |none=>simp
   |some t=>
    obtain⟨G,N⟩:=Yrm hd B;rw[G];cases t with
    |true=>
     simp_all
    |false=>
     refine⟨λh=>I.1 h,λp r h=> ?_⟩;obtain⟨n,m,C,K,O,P,R,Q,D⟩:=I.2 p r h;exact⟨n+1,m,C,K,by omega,by trivial,by trivial,Q,D⟩
  |_=>exact⟨λh=>by trivial,λp r h=>by trivial⟩
theorem MR.find{y:Nat}{es:Array MapEntry}{el:List (List AV)}(h:MR fm w L y es el){K:Bool}{d:TypeDesc}{k:Value}(hd:(K=zZ/\d= .string)\/(K=zj/\ ∃q,d= .int q)):
  (nJ K k el 0=U zz->Instr.findNow d k es.toList 0=U zz)/\
  (∀p r,nJ K k el 0=U (U (p,r))-> ∃m b g,el[p]?=U (b::g::r)/\es[p]?=U m/\m.key=k/\Instr.findNow d k es.toList 0=U (U (p,m.val))/\MV fm w L y m.val r):=by
 obtain⟨h1,h2⟩:=Wm (fm:=fm) (w:=w) (L:=L) (k:=k) hd el es.toList 0 (by simpa using h.len) (λj e H=>by
  obtain⟨m,b,g,r,z,A,B,C,_⟩:=h.row j e H;grind)
 refine⟨h1,λp r D=> ?_⟩;obtain⟨n,m,b,g,F,Q,G,I,J⟩:=h2 p r D;have:p=n:=by omega
 subst this;obtain⟨M,N,E,R,z,A,B,C,O⟩:=h.row p _ Q;grind
theorem Kd{g:TypeId}{K:Bool}{d:TypeDesc}{k:Value}(hd:(K=zZ/\d= .string)\/(K=zj/\ ∃q,d= .int q))(h:P.underlying g=U d)(H:mL K k=zZ)(e:Bool)(n:Nat)(w:World):
  (Instr.checkKey e (n+1) g k).run P w= .ok () w:=by
 unfold Instr.checkKey;simp only[Sem.run_bind,run_underlying h,Result.andThen];rcases hd with⟨rfl,rfl⟩| ⟨rfl,q,rfl⟩<;>cases k<;>simp_all[mL]
theorem Yrn{K:Bool}{k:Value}(h:mL K k=zZ)(w:World):(Instr.keyThatStays k k).run P w= .ok k w:=by
 have:Instr.sameBits 10000 k k=true:=by
  cases k<;>simp[mL]at h<;>simp[Instr.sameBits,MapKept.bytes_beq]
 simp[Instr.keyThatStays,this]
theorem Ke{t:TypeId}{q:Bool×Nat×TypeId}(h:mw P t=U q): ∃k d g,P.underlying t=U (.map k q.2.2)/\P.underlying k=U d/\ ((q.1=zZ/\d= .string)\/(q.1=zj/\ ∃q,d= .int q))/\kc P q.2.2=U g/\q.2.1=(bif g then 2 else 1):=by
 unfold mw at h;split at h
 .rename_i k e w;split at h
  .rename_i H;cases p:kc P e with
   |none=>simp_all
   |some g=>
    grind
  .rename_i Q H;cases p:kc P e with
   |none=>simp_all
   |some g=>
    grind
  trivial
 trivial
theorem Wn{k:Nat}{r:List AV}{v:AV}{x:Value}(h:pe k r=U v)(H:MV fm w L k x r):VR fm w L x v:=by
 rcases H with⟨rfl,a,rfl,h1,h2⟩| ⟨rfl,xs,rfl,h2⟩
 .simp only[pe]at h;simp_all
 .simp only[pe]at h;simp_all
theorem Yro{k:Nat}{r:List AV}{v:AV}{x:Value}(h:yu k v=U r)(H:VR fm w L x v):MV fm w L k x r:=by
 unfold yu at h;split at h
 .injection h with h;subst h
  obtain⟨xs,rfl,_⟩:=wJ H;exact .inr ⟨rfl,xs,rfl,H⟩
 .cases h
 .rename_i p;split at h
  .rename_i c d;injection h with h;subst h
   have g:v=c:=by
    cases v<;>simp[cellsOf]at d<;>first|exact d|exact d.2|skip
    simp_all
   subst g;refine .inl ⟨rfl,v,rfl,?_,H⟩;cases v with
   |v y=>
    have:=kI H;subst this;simp only[cellsOf]at d;simp_all
   |u=>trivial
   |iZ=>trivial
   |agg cs=>simp_all
   |np a=>cases H<;>first|rfl|skip
          rename_i g _;rcases g with rfl|rfl<;>rfl
   |_=>cases H<;>rfl
  trivial
 trivial
end
end Go.Abs
namespace Go.Abs
open Go Go.RowKit
section
variable{P:Program}{fm:FM}{w:World}{L:Nat->Loc}
theorem Yrp{h:HF}{nid:Nat}(p:HR fm w L h)(q:h nid=zz){k:Nat}(y:k=1\/k=2)(d:Nat):
  jb fm w L (iB h nid [.push (U ⟨k+2,[.v (.int .i64 0):: .rd d []::List.replicate k (.v (.bool zj))]⟩)]) (.np nid) (.map (U w.heap.size)) (w.alloc (.map #[] 0)):=by
 obtain⟨g,K,z,A,B⟩:=Wj (i:=zj) (o:=⟨k+2,[.v (.int .i64 0):: .rd d []::List.replicate k (.v (.bool zj))]⟩) (ob:=.map #[] 0) p q (λc t f e=>by cases e) (w':=w.alloc (.map #[] 0)) rfl rfl rfl rfl (by simp)
  (λg _ _ _ C=>⟨by simp_all, #[],0,.v (.int .i64 0),_,_,C,rfl,.v _,λt D=>by rw[(List.mem_replicate.1 D).2];exact .v _,⟨λi e H=>by trivial,λi j e f _ H=>by trivial⟩,.inr ⟨d,[],rfl,rfl,λi e H=>by trivial⟩⟩)
 exact⟨g,z,A,B,.rX _ _ K⟩
theorem Wo{ok:Bool}{v:AV}{x:Value}{is:Bool}(H:VR fm w L x v):VR fm w L (if ok then .tuple #[x,.bool is]else x) (n_ ok v is):=by
 cases ok with
 |false=>trivial
 |true=>
  refine .iZ _ _ rfl (λj a h=> ?_)
  match j,h with
  |0,h=>simp_all
  |1,h=>simp at h;subst h;exact .v _
  |j+2,h=>trivial
theorem Yrq{h:HF}(M:HR fm w L h){t:TypeId}{q:Bool×Nat×TypeId}(N:mw P t=U q){z:Value}(F:(P.info? q.2.2).bind (·.zero)=U z){a:Nat}{o:iu}{c:Int}{el:List (List AV)}{T:List AV}(O:h a=U (U o))(Q:ka o=U (c,el,T)){x:Value}(R:VR fm w L x (.np a))
  {k:Value} (G:mL q.1 k=zZ) (S:o.es=q.2.1+2) {ok:Bool}:
  (∀p r v,nJ q.1 k el 0=U (U (p,r))->pe q.2.1 r=U v-> ∃y,(Instr.lookup t x k ok).run P w= .ok y w/\VR fm w L y (n_ ok v zZ))/\
  (nJ q.1 k el 0=U zz-> ∃y,(Instr.lookup t x k ok).run P w= .ok y w/\VR fm w L y (n_ ok (EG z) zj)):=by
 obtain⟨kt,d,g,I,H,hd,V,W⟩:=Ke N;obtain⟨gb,es,n,rfl,rfl,hL,J,B,_⟩:=EM M O Q R;have A:o.es-2=q.2.1:=by omega
 have X:(zeroValue q.2.2).run P w= .ok z w:=by
  cases K:P.info? q.2.2 with
  |none=>simp_all
  |some i=>
   simp only[K,pK]at F;simp[zeroValue,typeInfo,K,F]
 obtain⟨Y,Z⟩:=B.find (k:=k) hd;refine⟨λp r v C hv=> ?_,λC=> ?_⟩
 .obtain⟨m,b,kk,q1,q2,q3,q4,q5⟩:=Z p r C;refine⟨_,?_,Wo (Wn hv (A▸q5))⟩;have D:=MapKept.run_findKey (P:=P) (w:=w) H q4;have E:=Kd (P:=P) hd H G es.isEmpty 9999 w;unfold Instr.lookup;simp only[Sem.run_bind,run_underlying I,Result.andThen,MapKept.run_getObj_map J,Sem.run_pure];simp_all
 .refine⟨_,?_,Wo (VJ z)⟩;have D:=MapKept.run_findKey (P:=P) (w:=w) H (Y C);have E:=Kd (P:=P) hd H G es.isEmpty 9999 w;unfold Instr.lookup;simp only[Sem.run_bind,run_underlying I,Result.andThen,MapKept.run_getObj_map J,Sem.run_pure];simp_all
theorem MR.modify{d:Nat}{es:Array MapEntry}{el:List (List AV)}(h:MR fm w L d es el){p:Nat}{m:MapEntry}(y:es[p]?=U m){x:Value}{r:List AV}(z:MV fm w L d x r):
  MR fm w L d (es.modify p λe=>{e with key:=m.key,val:=x}) (el.modify p (tc (.v m.key) r)):=by
 have g: ∀j,(es.modify p λe=>{e with key:=m.key,val:=x})[j]?=if p=j then(es[j]?).map (λe=>{e with key:=m.key,val:=x})else es[j]?:=λj=>by
  grind
 refine⟨by simpa using h.len,λi e H=> ?_⟩;rw[List.getElem?_modify]at H;rw[Option.map_eq_map,lS]at H;obtain⟨e0,h0,q⟩:=H;obtain⟨M,b,k,R,K,rfl,A,C,D⟩:=h.row i e0 h0;by_cases B:p=i
 .subst B;rw[y]at K;injection K with K;subst K
  simp only[if_true]at q;refine⟨{m with val:=x},b,.v m.key,r,by simp_all,q.symm,A,.v _,z⟩
 grind
theorem vO.modify{es:Array MapEntry}{c:Nat}(h:vO es c)(p:Nat)(k x:Value):vO (es.modify p λe=>{e with key:=k,val:=x}) c:=by
 have B: ∀(j:Nat) (e:MapEntry),(es.modify p λe=>{e with key:=k,val:=x})[j]?=U e-> ∃e0,es[j]?=U e0/\e0.born=e.born:=λj e q=>by
  grind
 refine⟨λi e H=> ?_,λi j e f d H q=> ?_⟩
 .obtain⟨e0,g,G⟩:=B i e H;rw[<-G];exact h.1 i e0 g
 .obtain⟨e0,g,G⟩:=B i e H;obtain⟨F,w,y⟩:=B j f q;rw[<-G,<-y];exact h.2 i j e0 F d g w
theorem MR.push{d:Nat}{es:Array MapEntry}{el:List (List AV)}(h:MR fm w L d es el)(c:Nat){k x:Value}{r:List AV}(q:MV fm w L d x r):
  MR fm w L d (es.push {key:=k,val:=x,born:=c}) (el++[.v (.int .i64 (c:Nat)):: .v k::r]):=by
 have y:=h.len;refine⟨by grind,λi e H=> ?_⟩;by_cases g:i<el.length
 .rw[ld g]at H;obtain⟨m,b,K,R,z,A,B,C,D⟩:=h.row i e H;grind
 .have p:i=el.length:=by
   grind
  subst p;simp at H;subst H;exact⟨_,_,_,r,by rw[yo,if_pos y.symm],rfl,.v _,.v _,q⟩
theorem vO.push{es:Array MapEntry}{c:Nat}(h:vO es c)(k x:Value):vO (es.push {key:=k,val:=x,born:=c}) (c+1):=by
 refine⟨λi e H=> ?_,λi j e f p H d=> ?_⟩
 .rw[yo]at H;split at H
  .grind
  .exact Nat.lt_succ_of_lt (h.1 i e H)
 .rw[yo]at H d;have q:j<es.size\/j=es.size:=by
   grind
  rw[if_neg (by omega)]at H;by_cases g:j=es.size
  .rw[if_pos g]at d;injection d with d;subst d
   exact h.1 i e H
  .rw[if_neg g]at d;exact h.2 i j e f p H d
theorem Wp{es:Array MapEntry}{p:Nat}(h:p<es.size)(j:Nat):(es.eraseIdxIfInBounds p)[j]?=if j<p then es[j]? else es[j+1]?:=by
 grind
theorem MR.erase{K:Nat}{es:Array MapEntry}{el:List (List AV)}(h:MR fm w L K es el){p:Nat}(y:p<es.size):
  MR fm w L K (es.eraseIdxIfInBounds p) (el.eraseIdx p):=by
 have z:=h.len;refine⟨by grind,λi e H=> ?_⟩;rw[List.getElem?_eraseIdx]at H;split at H
 .rename_i d;obtain⟨m,b,k,r,g,q⟩:=h.row i e H;grind
 .rename_i d;obtain⟨m,b,k,r,g,q⟩:=h.row _ e H;grind
theorem vO.erase{es:Array MapEntry}{c:Nat}(h:vO es c){p:Nat}(k:p<es.size):vO (es.eraseIdxIfInBounds p) c:=by
 refine⟨λi e H=> ?_,λi j e f g H d=> ?_⟩
 .rw[Wp k]at H;split at H
  .exact h.1 _ e H
  .exact h.1 _ e H
 .rw[Wp k]at H d;split at H<;>split at d
  .exact h.2 _ _ e f g H d
  .exact h.2 _ _ e f (by omega) H d
  .omega
  .exact h.2 _ _ e f (by omega) H d
theorem MV.keep{k:Nat}{x:Value}{r:List AV}{w':World}(h:MV fm w L k x r)(H:iv L w w'):MV fm w' L k x r:=h.mono H (hY.refl _ _)
theorem Wq{h:HF}(M:HR fm w L h){t:TypeId}{q:Bool×Nat×TypeId}(hq:mw P t=U q)(W:Nat){a:Nat}{o:iu}{c:Int}{el:List (List AV)}{T:List AV}(N:h a=U (U o))(hm:ka o=U (c,el,T)){x:Value}(hx:VR fm w L x (.np a))
  {k:Value} (Y:mL q.1 k=zZ) (a0:o.es=q.2.1+2) {v:AV} {y:Value} (hy:VR fm w L y v) {r:List AV} (hv:yu q.2.1 v=U r):
  (∀p R,nJ q.1 k el 0=U (U (p,R))-> ∃w',(Instr.mapUpdate t x k y).run P w= .ok () w'/\iv L w w'/\HR fm w' L (λb=>if b=a then U (U ⟨o.es,[.v (.int .i64 c):: .rd W (el.modify p (tc (.v k) r))::T]⟩)else h b))/\
  (nJ q.1 k el 0=U zz-> ∃w',(Instr.mapUpdate t x k y).run P w= .ok () w'/\iv L w w'/\HR fm w' L (λb=>if b=a then U (U ⟨o.es,[.v (.int .i64 (c+1)):: .rd W (el++[.v (.int .i64 c):: .v k::r])::T]⟩)else h b)):=by
 obtain⟨kt,d,g,Z,D,hd,a1,a2⟩:=Ke hq;obtain⟨gb,es,n,rfl,rfl,hL,K,E,A,z,B⟩:=EM M N hm hx;have C:o.es-2=q.2.1:=by omega
 have h0:o.es≠0:=by omega
 have I:=Yro hv hy;obtain⟨f1,f2⟩:=E.find (k:=k) hd;have J:=Kd (P:=P) hd D Y zj 9999 w;refine⟨λp R O=> ?_,λO=> ?_⟩
 .obtain⟨m,b,kk,q1,q2,q3,q4,q5⟩:=f2 p R O;have F:=MapKept.run_findKey (P:=P) (w:=w) D q4;have Q:=Yrn (P:=P) Y w;obtain⟨S,V⟩:=Gp M N hL (ob:=.map (es.modify p λe=>{e with key:=k,val:=y}) n) (λc t f e=>by cases e) (w':={w with heap:=w.heap.setIfInBounds gb (.map (es.modify p λe=>{e with key:=k,val:=y}) n)}) rfl rfl rfl rfl
   (o':=⟨o.es,[.v (.int .i64 (n:Int)):: .rd W (el.modify p (tc (.v k) r))::T]⟩) h0
   (λH G=>⟨z,_,n,_,_,_,G,rfl,.v _,λt X=>(B t X).mono H (hY.refl _ _),A.modify p k y,.inr ⟨W,_,rfl,by
    have:=(E.mono H (hY.refl _ _)).modify q2 (C▸I.keep H);simp_all⟩⟩)
  refine⟨_,?_,S,V⟩;unfold Instr.mapUpdate;simp only[Sem.run_bind,run_underlying Z,Result.andThen,MapKept.run_getObj_map K];simp only[show(10000:Nat)=9999+1 from rfl,J,F,q2,l_,qu,q3];simp[Q,MapKept.run_setObj_map _ K,Result.andThen]
 .have F:=MapKept.run_findKey (P:=P) (w:=w) D (f1 O);obtain⟨S,V⟩:=Gp M N hL (ob:=.map (es.push {key:=k,val:=y,born:=n}) (n+1)) (λc t f e=>by cases e) (w':={w with heap:=w.heap.setIfInBounds gb (.map (es.push {key:=k,val:=y,born:=n}) (n+1))}) rfl rfl rfl rfl
   (o':=⟨o.es,[.v (.int .i64 ((n:Int)+1)):: .rd W (el++[.v (.int .i64 (n:Int)):: .v k::r])::T]⟩) h0
   (λH G=>⟨z,_,n+1,_,_,_,G,rfl,by exact .v _,λt X=>(B t X).mono H (hY.refl _ _),A.push k y,.inr ⟨W,_,rfl,(E.mono H (hY.refl _ _)).push n (k:=k) (C▸I.keep H)⟩⟩)
  refine⟨_,?_,S,V⟩;unfold Instr.mapUpdate;simp only[Sem.run_bind,run_underlying Z,Result.andThen,MapKept.run_getObj_map K];simp only[show(10000:Nat)=9999+1 from rfl,J,F];simp[MapKept.run_setObj_map _ K]
theorem Yrr{h:HF}(M:HR fm w L h){t ty:TypeId}{q:Bool×Nat×TypeId}(hq:mw P t=U q)(W:Nat){a:Nat}{o:iu}{c:Int}{el:List (List AV)}{T:List AV}(N:h a=U (U o))(hm:ka o=U (c,el,T)){x:Value}(hx:VR fm w L x (.np a))
  {k:Value} (hk:mL q.1 k=zZ) {C:Array TypeId} (z:C[0]?=U t):
  (∀p R,nJ q.1 k el 0=U (U (p,R))-> ∃w',(Builtin.delete_ C ty #[x,k]).run P w= .ok (.tuple #[]) w'/\iv L w w'/\HR fm w' L (λb=>if b=a then U (U ⟨o.es,[.v (.int .i64 c):: .rd W (el.eraseIdx p)::T]⟩)else h b))/\
  (nJ q.1 k el 0=U zz-> ∃w',(Builtin.delete_ C ty #[x,k]).run P w= .ok (.tuple #[]) w'/\iv L w w'/\HR fm w' L (λb=>if b=a then U (U ⟨o.es,[.v (.int .i64 c):: .rd W el::T]⟩)else h b)):=by
 obtain⟨kt,d,g,X,D,hd,a0,a1⟩:=Ke hq;obtain⟨Y,es,n,rfl,rfl,Z,K,E,A,y,B⟩:=EM M N hm hx;obtain⟨f1,f2⟩:=E.find (k:=k) hd;have I:=Kd (P:=P) hd D hk es.isEmpty 9999 w;have h0:o.es≠0:=by omega
 refine⟨λp R O=> ?_,λO=> ?_⟩
 .obtain⟨m,b,kk,q1,q2,q3,q4,q5⟩:=f2 p R O;have F:=MapKept.run_findKey (P:=P) (w:=w) D q4;have J:=(pV.1 q2).1;obtain⟨Q,S⟩:=Gp M N Z (ob:=.map (es.eraseIdxIfInBounds p) n) (λc t f e=>by cases e) (w':={w with heap:=w.heap.setIfInBounds Y (.map (es.eraseIdxIfInBounds p) n)}) rfl rfl rfl rfl
   (o':=⟨o.es,[.v (.int .i64 (n:Int)):: .rd W (el.eraseIdx p)::T]⟩) h0
   (λH G=>⟨y,_,n,_,_,_,G,rfl,.v _,λt V=>(B t V).mono H (hY.refl _ _),A.erase J,.inr ⟨W,_,rfl,(E.mono H (hY.refl _ _)).erase J⟩⟩)
  refine⟨_,?_,Q,S⟩;unfold Builtin.delete_;simp only[z,List.getElem?_toArray,List.getElem?_cons_zero,List.getElem?_cons_succ,Sem.run_bind,run_underlying X,Result.andThen,MapKept.run_getObj_map K];simp only[show(10000:Nat)=9999+1 from rfl,I,F];simp[MapKept.run_setObj_map _ K,Result.andThen]
 .have F:=MapKept.run_findKey (P:=P) (w:=w) D (f1 O);obtain⟨Q,S⟩:=Gp M N Z (ob:=.map es n) (λc t f e=>by cases e) (w':={w with heap:=w.heap.setIfInBounds Y (.map es n)}) rfl rfl rfl rfl
   (o':=⟨o.es,[.v (.int .i64 (n:Int)):: .rd W el::T]⟩) h0
   (λH G=>⟨y,_,n,_,_,_,G,rfl,.v _,λt V=>(B t V).mono H (hY.refl _ _),A,.inr ⟨W,_,rfl,E.mono H (hY.refl _ _)⟩⟩)
  refine⟨_,?_,Q,S⟩;unfold Builtin.delete_;simp only[z,List.getElem?_toArray,List.getElem?_cons_zero,List.getElem?_cons_succ,Sem.run_bind,run_underlying X,Result.andThen,MapKept.run_getObj_map K];simp only[show(10000:Nat)=9999+1 from rfl,I,F];simp[MapKept.run_setObj_map _ K,Result.andThen]
theorem Yrs{h:HF}{nid:Nat}(z:HR fm w L h)(C:h nid=zz){t:TypeId}{q:Bool×Nat×TypeId}(D:mw P t=U q){a:Nat}{o:iu}{c:Int}{el:List (List AV)}{T:List AV}(E:h a=U (U o))(F:ka o=U (c,el,T)){x:Value}(A:VR fm w L x (.np a)):
  ∃y w',(Instr.range t x).run P w= .ok y w'/\jb fm w L (iB h nid [.push (U ⟨5,[[.np a,.v (.int .i64 c),.v (.int .i64 c),.rd 1 [],.v (.bool zj)]]⟩)]) (.np nid) y w':=by
 obtain⟨W,d,g,I,J,hd,K,M⟩:=Ke D;obtain⟨G,es,n,rfl,rfl,X,N,O,_⟩:=EM z E F A;obtain⟨B,Q,R,S,V⟩:=Wj (i:=zZ) (o:=⟨5,[[.np a,.v (.int .i64 (n:Int)),.v (.int .i64 (n:Int)),.rd 1 [],.v (.bool zj)]]⟩) (ob:=.mapIter (U G) n #[] n) z C (λc t f e=>by cases e) (w':=w.alloc (.mapIter (U G) n #[] n)) rfl rfl rfl rfl (λe=>by cases e)
  (λB p H _ k=>⟨rfl,_,_,_,_,_,G,n, #[],n,k,rfl,A.mono p H,.v _,.v _,.v _,.inr ⟨1,[],rfl,rfl,λi e Y=>by trivial⟩⟩)
 refine⟨_,_,?_,B,R,S,V,.rY _ _ Q⟩;simp[Instr.range,run_underlying I,Result.andThen,MapKept.run_getObj_map N]
theorem Ws{o:iu}{m:Nat}{s t:Int}{B:List (List AV)}(h:vS o=U (m,s,t,B)): ∃S g,o.el=[[.np m,.v (.int .i64 s),.v (.int .i64 t),S,g]]/\Al S=U B/\o.es=5:=by
 unfold vS at h;split at h
 .rename_i M k t' S g H;split at h
  .rename_i d p;obtain⟨h1,h2⟩:=ix h;simp_all
  trivial
 trivial
theorem Wt{h:HF}(z:HR fm w L h){a:Nat}{o:iu}{m:Nat}{s t:Int}{B:List (List AV)}(A:h a=U (U o))(F:vS o=U (m,s,t,B)){x:Value}(I:VR fm w L x (.np a)):
  ∃(g G k:Nat) (p:Array Nat) (d:Nat),x= .pointer (U ⟨g,0,zz⟩)/\L a= .mp zZ g/\w.heap[g]?=U (.mapIter (U G) k p d)/\VR fm w L (.map (U G)) (.np m)/\s=(k:Int)/\t=(d:Int)/\Ny fm w L p B:=by
 obtain⟨S,J,M,C,D⟩:=Ws F;have H:=z.obj a o A;rcases Kc z A I with⟨g,q,_,_⟩| ⟨g,q,rfl⟩| ⟨g,q,rfl⟩
 .rw[q]at H;obtain⟨h0,_⟩:=H;rw[D]at h0;cases h0
 .rw[q]at H;rcases H.1 with e|e<;>rw[D]at e<;>cases e
 .rw[q]at H;obtain⟨h0,a0,Q,t',R,T,G,k,p,d,h1,h2,V,N,O,W,K⟩:=H;rw[M]at h2;injection h2 with h2 _
  injection h2 with E h2;injection h2 with y h2;injection h2 with e3 h2;injection h2 with e4 h2
  subst E;subst y;subst e3;subst e4;have E:=kI N;injection E with _ E
  have y:=kI O;injection y with _ y
  rcases K with rfl| ⟨X,P,rfl,K⟩
  .cases C
  .simp only[Al]at C;grind
theorem Wu{n:Int}: ∀(el:List (List AV)) (E:List MapEntry),E.length=el.length->
  (∀(j:Nat) (e:List AV),el[j]?=U e-> ∃(m:MapEntry) (b k:AV) (r:List AV),E[j]?=U m/\e=b::k::r/\VR fm w L (.int .i64 (m.born:Int)) b)->
  ∀e,wF n el=U e-> ∃(i:Nat) (m:MapEntry),el[i]?=U e/\E[i]?=U m/\ (m.born:Int)=n/\ ∀(p:Nat),(p:Int)=n->E.find? (·.born==p)=U m
 | [],_,_,_,e,h=>by cases h
 |_::_,[],z,_,_,_=>by trivial
 |e0::el,M::E,z,H,e,h=>by
  obtain⟨m,b,k,r,h1,rfl,A⟩:=H 0 e0 rfl;simp at h1;subst h1;simp only[wF]at h;cases g:yw (b::k::r)with
  |none=>simp_all
  |some n'=>
   rw[g]at h;have d:b= .v (.int .i64 n'):=by
    unfold yw at g;grind
   subst d;have q:=kI A;injection q with _ q
   simp only at h;by_cases y:n'=n
   .subst y;simp only[decide_true,cond_true]at h;injection h with h;subst h
    refine⟨0,M,rfl,rfl,by omega,λp B=> ?_⟩;grind
   .simp only[y,decide_false,cond_false]at h;obtain⟨i,m,C,D,G,F⟩:=Wu el E (by simp_all) (λj e I=>by simpa using H (j+1) e (by trivial)) e h;refine⟨i+1,m,by trivial,by trivial,G,λp B=> ?_⟩;grind
theorem Yrt{h:HF}(N:HR fm w L h){O:Nat}{Q:iu}{m:Nat}{s t:Int}{R:List (List AV)}(X:h O=U (U Q))(B:vS Q=U (m,s,t,R)){x:Value}(Y:VR fm w L x (.np O))
  {o:iu} (Z:h m=U (U o)) {n:Int} (V:R.getLast?=U [.v (.int .i64 n)]) {c:Int} {el:List (List AV)} {T:List AV} (C:ka o=U (c,el,T)) (a0:t=c) {b k:AV} {r:List AV} (hf:wF n el=U (b::k::r)) {v:AV} (hv:pe (o.es-2) r=U v):
  ∃y,(Instr.entry x).run P w= .ok y w/\VR fm w L y (.iZ [k,v]):=by
 obtain⟨g,g',D,S,d,rfl,hL,hg,E,rfl,rfl,H⟩:=Wt N X B Y;obtain⟨es,nc,rfl,a1,F,q,_⟩:=Wl N Z C E;have G:d=nc:=by omega
 subst G;obtain⟨i,me,q1,q2,q3,q4⟩:=Wu (fm:=fm) (w:=w) (L:=L) el es.toList (by simpa using q.len) (λj e he=>by
  obtain⟨m,b,kk,r,k1,W,k3,k4,_⟩:=q.row j e he;simp_all) _ hf
 obtain⟨M,b',k',r',k1,W,k3,k4,k5⟩:=q.row i _ q1;have:M=me:=by
  simp_all
 subst this;injection W with e1 e2;injection e2 with e2 e3;subst e1;subst e2;subst e3
 have z: ∃p,S.back?=U p/\ (p:Int)=n:=by
  rw[List.getLast?_eq_getElem?]at V;obtain⟨n0,b0,g1,I,g3⟩:=H.2 _ _ V;injection I with I _;subst I
  have:=kI g3;injection this with _ this
  refine⟨n0,?_,this⟩;rw[Array.back?_eq_getElem?,H.1];exact g1
 obtain⟨p,J,a2⟩:=z;refine⟨.tuple #[M.key,M.val],?_,?_⟩
 .have K:es.find? (·.born==p)=U M:=by simp_all
  simp only[Instr.entry,getObj,Sem.run_bind,Sem.run,hg,F,Result.andThen,J,bne_self_eq_false,Bool.false_eq_true,if_false,K];rfl
 .refine .iZ _ _ rfl (λj a A=> ?_)
  match j,A with
  |0,A=>simp_all
  |1,A=>simp at A;subst A;exact Wn hv k5
  |j+2,A=>trivial
end
end Go.Abs
namespace Go.Abs
open Go Go.RowKit
section
variable{P:Program}{fm:FM}{w:World}{L:Nat->Loc}
theorem Yru{h:HF}{a:Nat}{o:iu}(H:h a=U (U o)):(λb=>if b=a then U (U o)else h b)=h:=by
 grind
theorem Yrv(es:Nat)(A:Option Addr)(n c:Nat)(W:World):(Builtin.firstCells es 0 (.slice A n c)).run P W= .ok #[] W:=by
 cases A<;>simp[Builtin.firstCells,loadCells,loadCellsFrom]
theorem Yrw{t t' ty e:TypeId}(hu:P.underlying t=U (.slice e)){es:Nat}(z:jU P e=U es){h:HF}(C:HR fm w L h){a:Nat}{o:iu}(D:h a=U (U o))(k:0<es)(F:o.es=es)
  {x:Value} (hx:VR fm w L x (.ref a 0 o.el.length)) {y:Value} {l:List (List AV)} (hy:VR fm w L y (.rd es l)) (a5: ∀e∈l,e.length=es):
  ∃w',(Builtin.copy_ #[t,t'] ty #[x,y]).run P w= .ok (.int .i64 ((min l.length o.el.length:Nat):Int)) w'/\iv L w w'/\
   HR fm w' L (λb=>if b=a then U (U ⟨o.es,l.take (min l.length o.el.length)++o.el.drop (min l.length o.el.length)⟩)else h b):=by
 have R:(⟨o.es,o.el⟩:iu)=o:=rfl;have S: ∀(A:Option Addr) (c:Nat),x= .slice A o.el.length c->min l.length o.el.length=0-> ∃w',(Builtin.copy_ #[t,t'] ty #[x,y]).run P w= .ok (.int .i64 ((min l.length o.el.length:Nat):Int)) w'/\iv L w w'/\
   HR fm w' L (λb=>if b=a then U (U ⟨o.es,l.take (min l.length o.el.length)++o.el.drop (min l.length o.el.length)⟩)else h b):=by
  rintro A c rfl q;obtain⟨B,d,rfl,_⟩:=Gn hy;refine⟨w,?_,iv.refl _ _,?_⟩
  .have a6:Nat.min l.length o.el.length=0:=q;cases A<;>simp[Builtin.copy_,run_underlying hu,Builtin.lenOf,pj z,Result.andThen,q,Yrv,storeCells,goInt]
  .simp only[q,List.take_zero,qt,vM,R,Yru D];exact C
 by_cases q:min l.length o.el.length=0
 .rcases td C D hx with⟨g,E,cap,G,T,V,rfl⟩| ⟨A,b,G,hA,_,V,rfl⟩
  .simp_all
  simp_all
 .rcases td C D hx with⟨g,E,cap,G,T,V,rfl⟩| ⟨A,b,G,hA,_,V,rfl⟩
  .have W:wd o.es=es:=by rw[F];exact rW k
   rw[W]at T;subst T;have p:=C.obj a o D;rw[G]at p;obtain⟨_,_,a7,a8,a4,cur,bt,hg,a9,aa⟩:=p;have I:l≠ []:=λe=>q (by grind);obtain⟨b,oo,c,vals,rfl,_,_,H,ab⟩:=VT hy I;have X:min l.length o.el.length<=l.length:=Nat.min_le_left _ _;have Y:min l.length o.el.length<=o.el.length:=Nat.min_le_right _ _;generalize Z:min l.length o.el.length=n at q X Y⊢;obtain⟨Q,f2,f3⟩:=NQ (w:=w) (b:=b) (o:=oo) (m:=n) (vals:=vals) k (λi j J hj=>H i j (by omega) hj);have a0:=run_firstCells_some (P:=P) w E n ⟨b,oo,zz⟩ l.length c _ Q f2;have ac:n*E<=cap*E:=lD _ (by omega);have K:=run_storeCells_at P g 0 bt (flat E n vals) 0 cur w hg (by omega) f3;simp only[mD,List.take_zero,qt,Q]at K;obtain⟨k1,k2⟩:=EK C D G (cur':=(flat E n vals++cur.toList.drop (n*E)).toArray) hg (by grind) (el:=l.take n++o.el.drop n) (by grind)
    (λe he=>by
     grind)
    (λi e' j c' J hj=>by
     by_cases M:i<n
     .rw[ld (by grind),oU,if_pos M]at J;have a1:j<E:=by grind
      have a2:i*E+j<n*E:=by
       have:(i+1)*E<=n*E:=lD _ (by omega);grind
      have:((flat E n vals++cur.toList.drop (n*E)).toArray).getD (i*E+j) undef=vals i j:=by
       rw[<-NP M a1 (vals:=vals)];simp[Array.getD,Q,List.getD,a2,List.getElem_append_left (show i*E+j< (flat E n vals).length by omega)];omega
      grind
     .rw[nF (by grind),rU]at J;have N:(l.take n).length=n:=by grind
      rw[N]at J;have a3:n+(i-n)=i:=by omega
      rw[a3]at J;have ad:n*E<=i*E:=lD _ (by omega);have:((flat E n vals++cur.toList.drop (n*E)).toArray).getD (i*E+j) undef=cur.getD (i*E+j) undef:=by
       rw[mI,mI,List.getElem?_toArray,nF (by omega),Q,rU];grind
      grind)
   refine⟨_,?_,k1,k2⟩;have O:Nat.min l.length o.el.length=n:=Z;simp[Builtin.copy_,run_underlying hu,Builtin.lenOf,pj z,Result.andThen,O,a0,K,goInt]
  omega
end
end Go.Abs
namespace Go.Abs
open Go Go.RowKit
section
variable{h:HF}{nid:Nat}{v:AV}{us:List jy}{xs:List AV}
theorem Yrx{k w:Nat}(H:xF (.mkm k w) xs h nid=U (v,us)):xs=[]/\ (k=1\/k=2)/\v= .np nid/\us=[.push (U ⟨k+2,[.v (.int .i64 0):: .rd w []::List.replicate k (.v (.bool zj))]⟩)]:=by
 unfold xF at H;split at H<;>try trivial
 all_goals(rename_i q;cases q)
 obtain⟨h1,h2⟩:=ix H;simp_all
theorem Yry{K ok:Bool}{d:Nat}(H:xF (.mget K d ok) xs h nid=U (v,us)): ∃a k z o c el T,xs=[.np a,.v k,z]/\h a=U (U o)/\ka o=U (c,el,T)/\o.es=d+2/\mL K k=zZ/\us=[]/\
  ((∃p r y,nJ K k el 0=U (U (p,r))/\pe d r=U y/\v=n_ ok y zZ)\/(nJ K k el 0=U zz/\v=n_ ok z zj)):=by
 unfold xF at H;split at H<;>try trivial
 all_goals(rename_i q;cases q)
 rename_i a k z;split at H<;>try trivial
 rename_i o g;split at H<;>try trivial
 rename_i c el T w;obtain⟨h1,h2⟩:=ix H;simp at h1;grind
theorem Wv{K:Bool}{d w:Nat}(H:xF (.mput K d w) xs h nid=U (v,us)): ∃a k y o c el T r,xs=[.np a,.v k,y]/\h a=U (U o)/\ka o=U (c,el,T)/\o.es=d+2/\mL K k=zZ/\v= .u/\yu d y=U r/\
  ((∃p R,nJ K k el 0=U (U (p,R))/\us=[.set a (U ⟨o.es,[.v (.int .i64 c):: .rd w (el.modify p (tc (.v k) r))::T]⟩)])\/
   (nJ K k el 0=U zz/\us=[.set a (U ⟨o.es,[.v (.int .i64 (c+1)):: .rd w (el++[.v (.int .i64 c):: .v k::r])::T]⟩)])):=by
 unfold xF at H;split at H<;>try trivial
 all_goals(rename_i q;cases q)
 rename_i a k y;split at H<;>try trivial
 rename_i o g;split at H<;>try trivial
 rename_i c el T z;obtain⟨h1,h2⟩:=ix H;simp at h1;grind
theorem Yrz{K:Bool}{w:Nat}(H:xF (.mdel K w) xs h nid=U (v,us)): ∃a k o c el T,xs=[.np a,.v k]/\h a=U (U o)/\ka o=U (c,el,T)/\mL K k=zZ/\v= .u/\
  ((∃p R,nJ K k el 0=U (U (p,R))/\us=[.set a (U ⟨o.es,[.v (.int .i64 c):: .rd w (el.eraseIdx p)::T]⟩)])\/
   (nJ K k el 0=U zz/\us=[.set a (U ⟨o.es,[.v (.int .i64 c):: .rd w el::T]⟩)])):=by
 unfold xF at H;grind
theorem YrA(H:xF .mlen xs h nid=U (v,us)): ∃a o c el T,xs=[.np a]/\h a=U (U o)/\ka o=U (c,el,T)/\v= .v (.int .i64 (el.length:Nat))/\us=[]:=by
 unfold xF at H;grind
theorem YrB(H:xF .mrng xs h nid=U (v,us)): ∃a o c el T,xs=[.np a]/\h a=U (U o)/\ka o=U (c,el,T)/\v= .np nid/\us=[.push (U ⟨5,[[.np a,.v (.int .i64 c),.v (.int .i64 c),.rd 1 [],.v (.bool zj)]]⟩)]:=by
 unfold xF at H;grind
theorem YrC(H:xF .ment xs h nid=U (v,us)): ∃I O m s t B o n c el T b k r y,xs=[.np I]/\h I=U (U O)/\vS O=U (m,s,t,B)/\h m=U (U o)/\B.getLast?=U [.v (.int .i64 n)]/\ka o=U (c,el,T)/\
  t=c/\wF n el=U (b::k::r)/\pe (o.es-2) r=U y/\v= .iZ [k,y]/\us=[]:=by
 unfold xF at H;split at H<;>try trivial
 all_goals(rename_i q;cases q)
 rename_i I;split at H<;>try trivial
 rename_i O d;split at H<;>try trivial
 grind
theorem YrD{es:Nat}(H:xF (.cpy es) xs h nid=U (v,us)): ∃a x o l,xs=[.ref a 0 o.el.length,x]/\h a=U (U o)/\pZ x=U l/\uG es x=zZ/\o.es=es/\ (∀e∈l,e.length=es)/\0<es/\
  v= .v (.int .i64 ((min l.length o.el.length:Nat):Int))/\us=[.set a (U ⟨o.es,l.take (min l.length o.el.length)++o.el.drop (min l.length o.el.length)⟩)]:=by
 unfold xF at H;split at H<;>try trivial
 all_goals(rename_i q;cases q)
 rename_i a O len x;split at H<;>try trivial
 rename_i o d;split at H<;>try trivial
 rename_i l g;obtain⟨h1,h2⟩:=ix H;simp only[iI,Nat.beq_eq,Nat.blt_eq]at h1;obtain⟨⟨k,p,w⟩,y,z,A⟩:=h1;subst p;subst w;injection h2 with h2;injection h2 with e1 e2
 exact⟨a,x,o,l,rfl,d,g,k,y,λe B=>jr (ly.1 z e B),A,e1.symm,e2.symm⟩
theorem YrE(H:xF .mnxt xs h nid=U (v,us)):False:=by
 trivial
end
section
variable{P:Program}{fm:FM}{w:World}{L:Nat->Loc}
theorem BW{h:HF}{a:Nat}{o':iu}{w':World}(k:iv L w w')(H:HR fm w' L (λb=>if b=a then U (U o')else h b))(nid:Nat){x:Value}{v:AV}(d:VR fm w' L x v):
  jb fm w L (iB h nid [.set a (U o')]) v x w':=⟨L,k,hY.refl _ _,H,d⟩
theorem xM{o:Oper}{xs:List iY}{X:pa}{h:HF}{nid:Nat}{a:Act}{env:Env}{K:AV->List jy->Prop}(H:kA (.px X xs) env h nid K)
  (d: ∀v us,xF X (xs.map (iC env)) h nid=U (v,us)-> ∃x w',Gl P o a w x w'/\jb fm w L (iB h nid us) v x w'):Shown P fm o a w L h nid K:=by
 obtain⟨v,us,g,k⟩:=H;obtain⟨x,w',h1,h2⟩:=d v us g;exact⟨x,v,us,w',h1,k,h2⟩
end
end Go.Abs
namespace Go.Abs
open Go Go.RowKit
section
variable{P:Program}{fm:FM}{w:World}{L:Nat->Loc}
theorem Ww{mx:Bool}{k:IntKind}: ∀{r:List AV} {vs:List Value} {m:Int} {v:AV},EC mx k m r=U v->vs.length=r.length->(∀(j:Nat) (a:AV) (y:Value),r[j]?=U a->vs[j]?=U y->VR fm w L y a)->
  ∃n,v= .v (.int k n)/\ (vs.foldlM (bif mx then Builtin.max2 else Builtin.min2) (.int k m)).run P w= .ok (.int k n) w
 | [],vs,m,v,h,d,H=>by
   simp only[EC]at h;simp_all
 |a::r,[],m,v,h,d,H=>by trivial
 |a::r,y::vs,m,v,h,d,H=>by
  cases a with
  |v x=>
   cases x with
   |int K n=>
    simp only[EC]at h;have g:=kI (H 0 _ _ rfl rfl);subst g;obtain⟨n',p,E⟩:=Ww (mx:=mx) (vs:=vs) h (by simp_all) (λj a y A g=>H (j+1) a y (by trivial) (by trivial));refine⟨n',p,?_⟩;have q:(if n<m then n else m)=min m n:=by omega
    have z:(if n>m then n else m)=max m n:=by omega
    cases mx
    .simp only[cond_false]at E⊢;simp[List.foldlM_cons,Builtin.min2,q,E]
    .simp only[cond_true]at E⊢;simp[List.foldlM_cons,Builtin.max2,z,E]
   |_=>trivial
  |_=>trivial
theorem NX{x:Operand}{l:List Value}(H:wG fm x=U l){h:HF}(y:HR fm w L h): ∃g,x= .global g/\ ¬ma L g/\g<w.heap.size/\ ∀j v,l[j]?=U v->w.cell? ⟨g,j,zz⟩=U v:=by
 unfold wG at H;split at H
 .rename_i g;obtain⟨p,k,rfl⟩:=lS.1 H;have d:=List.mem_of_find?_eq_some k;have e:p.1=g:=jr (List.find?_some (p:=λp:Nat×List Value=>im p.1 g) k);subst e;obtain⟨q,z,A⟩:=fm.F9 p d;obtain⟨h1,c,t,f,B,h2⟩:=y.tab _ z;refine⟨p.1,rfl,h1,(pV.1 h2).1,λj v C=> ?_⟩;have:=A c B;subst this;simp[World.cell?,h2,C]
 .cases H
theorem NY{t:TypeId}{l:List Value}(h:sf P t l=zZ): ∃e,P.underlying t=U (.array l.length e)/\jU P e=U 1/\jU P t=U l.length/\kc P t=U zZ/\ ∀v∈l,v.oneCell'=true:=by
 unfold sf at h;split at h
 .rename_i n e H;simp only[iI]at h;obtain⟨⟨h1,h2⟩,d⟩:=h;obtain rfl:=jr h1;split at h2
  .rename_i k m g p;simp only[iI]at h2;obtain rfl:=jr h2.1;obtain rfl:=jr h2.2;exact⟨e,H,g,p,by simp[kc,H],λv q=>ly.1 d v q⟩
  .cases h2
 .cases h
theorem YrF{h:HF}{nid:Nat}(k:HR fm w L h){a:Act}{env:Env}(D:ER fm w L a env){t:TypeId}{x:Operand}{g:Bool}{n:Nat}(B:kc P t=U g)(C:jU P t=U n)
  {dst:Option Tmp} {ty:TypeId} {pos:String} {after:Array Edge} {guard:Option (Nat×Bool)} {K:AV->List jy->Prop}
  (H:kA (.load g n (jK fm x)) env h nid K):Shown P fm {dst,op:=.load t x,type:=ty,pos,after,guard} a w L h nid K:=by
 simp only[kA,jh]at H;have d:=ky D x;revert H d;cases M:iC env (jK fm x)<;>intro H d<;>try trivial
 case rp cs=>
  obtain⟨b,o,vals,e,N,E,F,h1,p⟩:=BV d;obtain⟨y,v,q,z,A⟩:=J8 (P:=P) (w:=w) B C F h1 p H;exact .pure k (NV e q) z A
 case ptr b i j=>
  obtain⟨o,G,e,I,H⟩:=H;obtain⟨O,y,v,J,q,z,A⟩:=V3 B C k G d I H;exact .pure k (NV J q) z A
theorem YrG{h:HF}{nid:Nat}(z:HR fm w L h){a:Act}{env:Env}(q:ER fm w L a env){t:TypeId}{x y:Operand}{n:Nat}(A:jU P t=U n)
  {dst:Option Tmp} {ty:TypeId} {pos:String} {after:Array Edge} {guard:Option (Nat×Bool)} {K:AV->List jy->Prop}
  (H:kA (.store n (jK fm x) (jK fm y)) env h nid K):Shown P fm {dst,op:=.store t x y,type:=ty,pos,after,guard} a w L h nid K:=by
 simp only[kA,jh]at H;have d:=ky q x;have B:=ky q y;revert H d;cases M:iC env (jK fm x)<;>intro H d<;>try trivial
 case ptr b i j=>
  obtain⟨o,C,e,D,cs,g,k,p,E⟩:=H;obtain⟨N,w',F,G,I,J⟩:=Yrd A z C d D (J6 B g) k p;refine⟨undef,.u,_,w',.inr ⟨?_,rfl⟩,E,L,I,hY.refl _ _,J,.u _⟩;simp[execOp,Instr.storeAt,Instr.sureAddr,F,G]
theorem xN{x:Value}{k:IntKind}{n:Int}{y:Nat}{C:BoundsCode}(h:x= .int k n)(h0:0<=n)(h1:n.toNat<=y)(w:World):(Instr.sliceBound x y C).run P w= .ok n.toNat w:=by
 subst h;have:0<=n/\n<=(y:Int):=by omega
 simp[Instr.sliceBound,asIntOf,this]
theorem Kf{a:Act}{env:Env}(B:ER fm w L a env)(b:Bool){len cap:Nat}{q p:Option Operand}{K:Nat->Nat->Prop}(C:len<=cap)
  (H:pY env (q.map (jK fm)) 0 λl=>pY env (p.map (jK fm)) len λh=>K l h) (z: ∀l h,K l h->l<=h/\h<=cap):
  ∃l h,(Instr.sliceBounds b len cap (q.map a.eval) (p.map a.eval) zz).run P w= .ok (l,h,cap) w/\K l h:=by
 have d: ∀(x:Operand) (k:IntKind) (n:Int),iC env (jK fm x)= .v (.int k n)->a.eval x= .int k n:=λx k n e=>by
  have:=ky B x;rw[e]at this;exact kI this
 cases q with
 |none=>
  cases p with
  |none=>exact⟨0,len,by rfl,H⟩
  |some y=>
   obtain⟨k,n,e,h0,g⟩:=H;obtain⟨_,h2⟩:=z _ _ g;refine⟨0,n.toNat,?_,g⟩;simp[Instr.sliceBounds,xN (d y k n e) h0 h2]
 |some x=>
  obtain⟨k,n,e,h0,H⟩:=H;cases p with
  |none=>
   obtain⟨h1,_⟩:=z _ _ H;refine⟨n.toNat,len,?_,H⟩;simp[Instr.sliceBounds,xN (d x k n e) h0 h1]
  |some y=>
   obtain⟨D,n',e',A,g⟩:=H;obtain⟨h1,h2⟩:=z _ _ g;refine⟨n.toNat,n'.toNat,?_,g⟩;simp[Instr.sliceBounds,xN (d x k n e) h0 h1,xN (d y D n' e') A h2]
theorem Kg{t:TypeId}{M:Array (String×TypeId)}(h:P.underlying t=U (.interface M))(w:World):
  (∀d,(Op.equalIn (d+1) t .nilIface .nilIface).run P w= .ok zZ w)/\ ∀d T p,(Op.equalIn (d+1) t (.iface T p) .nilIface).run P w= .ok zj w:=
 ⟨λd=>by simp[Op.equalIn,run_underlying h],λd T p=>by simp[Op.equalIn,run_underlying h]⟩
theorem YrH(w:World)(t:TypeId)(M:Array (String×TypeId))(h:P.underlying t=U (.interface M)):(binOp .eql t .nilIface .nilIface).run P w= .ok (.bool zZ) w:=by
 simp only[binOp];simp[Op.equal,Op.maxDepth,(Kg h w).1 9999]
theorem YrI(w:World)(t:TypeId)(M:Array (String×TypeId))(h:P.underlying t=U (.interface M)):(binOp .neq t .nilIface .nilIface).run P w= .ok (.bool zj) w:=by
 simp only[binOp];simp[Op.equal,Op.maxDepth,(Kg h w).1 9999]
theorem YrJ(w:World)(t T:TypeId)(p:Value)(M:Array (String×TypeId))(h:P.underlying t=U (.interface M)):(binOp .eql t (.iface T p) .nilIface).run P w= .ok (.bool zj) w:=by
 simp only[binOp];simp[Op.equal,Op.maxDepth,(Kg h w).2 9999]
theorem YrK(w:World)(t T:TypeId)(p:Value)(M:Array (String×TypeId))(h:P.underlying t=U (.interface M)):(binOp .neq t (.iface T p) .nilIface).run P w= .ok (.bool zZ) w:=by
 simp only[binOp];simp[Op.equal,Op.maxDepth,(Kg h w).2 9999]
theorem Wx{l:List (List AV)}{h i k:Nat}{e:List AV}(H:((l.take h).drop i)[k]?=U e):l[i+k]?=U e:=by
 grind
theorem NZ{o:Oper}{op:jA}(H:lU P fm o=U op){h:HF}{nid:Nat}(I:HR fm w L h){a:Act}{env:Env}(X:ER fm w L a env)(hn:h nid=zz)
  {K:AV->List jy->Prop} (C:kA op env h nid K):Shown P fm o a w L h nid K:=by
 have J: ∀(x:Operand) (y:Value),iC env (jK fm x)= .v y->a.eval x=y:=λx y e=>by
  have:=ky X x;rw[e]at this;exact kI this
 obtain⟨dst,bV,ty,pos,after,guard⟩:=o;cases bV<;>simp only[lU]at H
 case move x=>
  injection H with H;subst H
  exact .pure I (by simp[execOp]) C (ky X x)
 case assign x=>
  injection H with H;subst H
  exact .pure I (by simp[execOp]) C (ky X x)
 case pick c x y=>
  injection H with H;subst H
  obtain⟨t,e,E⟩:=C;have hc:=J c _ e;cases t with
  |true=>exact .pure I (by simp[execOp,hc,asBool]) (E.1 rfl) (ky X x)
  |false=>exact .pure I (by simp[execOp,hc,asBool]) (E.2 rfl) (ky X y)
 case alloc e=>
  have a3:(nG P e).map .alloc=U op->Shown P fm {dst,op:=.alloc e,type:=ty,pos,after,guard} a w L h nid K:=by
   intro H;cases hz:nG P e with
   |none=>simp[hz]at H
   |some z=>
   simp[hz]at H;subst H;obtain⟨i,z0,Y,an,ae,aO,ah,hp,hm,aX,h1⟩:=vV hz;have be:CR fm w L z0.cells (z.map zc):=by
    have:=VK (fm:=fm) (w:=w) (L:=L) z h1;rwa[<-ae,uF,ae]at this
   have hb:=VY I hn e be (by simpa using hp) (by simp[c_];omega);simp only[pQ]at hb;exact⟨_,_,_,_,.inl (by simp[execOp,Instr.alloc,zeroValue,typeInfo,Y,an,newVar,newRow]),C,hb⟩
  split at H
  .rename_i bW;cases hz:nG P e with
   |none=>rw[hz]at H;cases H
   |some z=>
    rw[hz]at H;simp only[pK]at H;split at H
    .injection H with H;subst H
     obtain⟨v,us,D,E⟩:=C;simp only[mq,xF]at D;injection D with D;injection D with Z T;subst Z;subst T
     obtain⟨i,z0,Y,an,ae,aO,ah,hp,hm,aX,h1⟩:=vV hz;have bB:z0.cells= #[.pointer zz,.slice zz 0 0]:=by rw[<-uF (xs:=z0.cells),ae]
     have hb:=Yrg (fm:=fm) I hn;rw[<-bB,<-bW]at hb;exact⟨_,_,_,_,.inl (by simp[execOp,Instr.alloc,zeroValue,typeInfo,Y,an,newVar,newRow]),E,hb⟩
    .exact a3 (by rw[hz];exact H)
  .exact a3 H
 case box e x=>
  injection H with H;subst H
  obtain⟨cs,bX,h0,hm,E⟩:=C;exact⟨_,_,_,_,.inl (by simp[execOp,Instr.box,newVar,newRow]),E,VY I hn e (J6 (ky X x) bX) h0 hm⟩
 case build t M=>
  cases V:P.underlying t with
  |none=>simp[V]at H
  |some d=>
   cases hz:nG P t with
   |none=>cases d<;>simp[V,hz]at H
   |some z=>
    obtain⟨i,z0,Y,an,ae,aO,ah,hp,hm,aX,h1⟩:=vV hz;have be:CR fm w L z0.cells (z.map zc):=by
     have:=VK (fm:=fm) (w:=w) (L:=L) z h1;rwa[<-ae,uF,ae]at this
    have a2: ∀(ar:Nat->Option (Nat×Nat)) (ao:List (Nat×Nat×iY)),op= .build z ao->M.toList.length=ao.length->
      (∀(k:Nat) (p:Nat×Operand) (q:Nat×Nat×iY),M.toList[k]?=U p->ao[k]?=U q->ar p.1=U (q.1,q.2.1)/\q.2.2=jK fm p.2)->
      (∀ps,Instr.fill ar z0.cells ps=P.built t ps)->Shown P fm {dst,op:=.build t M,type:=ty,pos,after,guard} a w L h nid K:=by
     intro ar ao bn a4 bC aP;subst bn;obtain⟨R',cs,N,k2,k3⟩:=VO X ar M.toList ao z0.cells (z.map zc) _ a4 bC be C;rw[aP]at N;have am:=run_build (P:=P) w t (M.map λp=>(p.1,a.eval p.2)) R' (by simpa using N);exact .pure I (by simp only[execOp,Sem.run_bind];rw[am];rfl) k3 k2.agg
    cases d with
    |struct fs=>
     simp only[V,hz]at H;cases bf:(M.toList.mapM λ(p:Nat×Operand)=>(fs[p.1]?).bind λf=>(jU P f.type).map λs=>(f.offset,s,jK fm p.2))with
     |none=>simp[bf]at H
     |some ao=>
      simp only[bf,pK]at H;split at H
      .rename_i W;injection H with H
       have aP: ∃aa,fs.toList.mapM (λf=>(P.info? f.type).map λi=>(f.offset,i.size))=U aa/\ ∀(k:Nat) (f:Field),fs.toList[k]?=U f-> ∃s,jU P f.type=U s/\aa[k]?=U (f.offset,s):=by
        clear bf H be;revert W;generalize fs.toList=fl;intro W;induction fl with
        |nil=>exact⟨[],rfl,λk f E=>by simp at E⟩
        |cons f fl ih=>
         simp only[List.all_cons,iI]at W;obtain⟨pl,h1,h2⟩:=ih W.2;obtain⟨s,Q⟩:=pU.1 W.1;have bY:=Q;unfold jU at Q;cases bo:P.info? f.type with
         |none=>simp[bo]at Q
         |some ii=>
          simp[bo]at Q;refine⟨(f.offset,ii.size)::pl,by simp[List.mapM_cons,bo,h1],λk g E=> ?_⟩;cases k with
          |zero=>simp at E;subst E;exact⟨s,bY,by simp[Q]⟩
          |succ k=>simpa using h2 k g (by simpa using E)
       obtain⟨aa,bZ,c0⟩:=aP;have bD: ∀(ps:List (Nat×Operand)) (ao:List (Nat×Nat×iY)),(ps.mapM λ(p:Nat×Operand)=>(fs[p.1]?).bind λf=>(jU P f.type).map λs=>(f.offset,s,jK fm p.2))=U ao->
         ps.length=ao.length/\ ∀(k:Nat) (p:Nat×Operand) (q:Nat×Nat×iY),ps[k]?=U p->ao[k]?=U q->aa.toArray[p.1]?=U (q.1,q.2.1)/\q.2.2=jK fm p.2:=by
        intro ps;induction ps with
        |nil=>intro ao h;simp at h;subst h;exact⟨rfl,λk p q E=>by simp at E⟩
        |cons p ps ih=>
         intro ao h;simp only[List.mapM_cons,Option.bind_eq_bind,Option.pure_def]at h;cases hf:fs[p.1]? with
         |none=>simp[hf]at h
         |some f=>
          obtain⟨s,Q,bg⟩:=c0 p.1 f (by simpa using hf);cases aA:(ps.mapM λ(p:Nat×Operand)=>(fs[p.1]?).bind λf=>(jU P f.type).map λs=>(f.offset,s,jK fm p.2))with
          |none=>simp[hf,Q,aA]at h
          |some bE=>
           simp[hf,Q,aA]at h;subst h;obtain⟨i1,i2⟩:=ih bE aA;refine⟨by simp[i1],λk p' q b3 aT=> ?_⟩;cases k with
           |zero=>simp at b3 aT;subst b3;subst aT;exact⟨by simpa using bg,rfl⟩
           |succ k=>exact i2 k p' q (by simpa using b3) (by simpa using aT)
       obtain⟨m1,m2⟩:=bD M.toList ao bf;exact a2 (aa.toArray[·]?) ao H.symm m1 m2 (λps=>by simp[Program.built,Y,V,an,bZ])
      .cases H
    |array n e=>
     simp only[V,hz]at H;cases ap:jU P e with
     |none=>simp[ap]at H
     |some s=>
      simp[ap]at H;have cm:=ap;unfold jU at ap;cases bp:P.info? e with
      |none=>simp[bp]at ap
      |some ie=>
       simp[bp]at ap;refine a2 (λi=>U (i*s,s)) _ H.symm (by simp) (λk p q b3 aT=> ?_) (λps=>by simp[Program.built,Y,V,an,bp,ap]);rw[jt,b3]at aT;simp at aT;subst aT;exact⟨rfl,rfl⟩
    |_=>simp[V,hz]at H
 case buildSlice t len M=>
  cases V:P.underlying t with
  |none=>simp[V]at H
  |some d=>
   cases d with
   |slice e=>
    cases hz:nG P e with
    |none=>simp[V,hz]at H
    |some z=>
     simp only[V,hz,pK]at H;have R: ∀(R':Array Value),(∃i z0,P.info? e=U i/\i.zero=U z0/\i.size=z.length/\z0.cells.size=z.length/\z0.cells.toList=z/\Instr.fill (λi=>U (i*z.length,z.length)) (((Array.range (len*z.length)).map (z0.cells[· % z.length]!))) (M.toList.map λp=>(p.1,a.eval p.2))=U R')->len*z.length<=2^24->
       (Instr.buildSlice t len (M.map λp=>(p.1,a.eval p.2))).run P w= .ok (.slice (U ⟨w.heap.size,0,zz⟩) len len) (w.alloc (.cells R' e)):=by
      rintro R' ⟨i,z0,Y,an,ah,ab,ae,N⟩ aK;have bb: ¬ (2^24<len*z.length):=by omega
      by_cases aY:len*z.length=0
      .have:(Array.range (len*z.length)).map (z0.cells[· % z.length]!)=(Array.range 0).map ((#[]:Array Value)[· % 0]!):=by rw[aY];simp
       rw[this]at N;simp only[Instr.buildSlice,Sem.run_bind,run_underlying V,Result.andThen_ok];simp[sizeOf,typeInfo,Y,ah,aY];simp at N;simp[N,newRow]
      .simp only[Instr.buildSlice,Sem.run_bind,run_underlying V,Result.andThen_ok];simp[sizeOf,typeInfo,Y,ah,bb,aY,zeroValue,an,ab]
       try simp at N
       simp[N,newRow]
     split at H
     .rename_i hh;simp only[iI,decide_eq_true_eq,beq_iff_eq]at hh;obtain⟨⟨⟨_,aL⟩,bU⟩,aK⟩:=hh;have a2: ∀(os:Nat),wd os=z.length->(os=0->e=fm.bu)-> ∀(e0:List AV) (l0:List (List AV)),jJ ((M.toList.map λp=>jK fm p.2).map (iC env))=U (e0::l0)->(∀x∈ (e0::l0),x.length=z.length)->(e0::l0).length<=c_->
        K (.ref nid 0 (e0::l0).length) [.push (U ⟨os,e0::l0⟩)]->Shown P fm {dst,op:=.buildSlice t len M,type:=ty,pos,after,guard} a w L h nid K:=by
       intro os bM c1 e0 l0 aZ bc bq E;have ag:0<z.length:=by rw[<-bM];exact VA os
       obtain⟨i,z0,Y,an,ae,aO,ah,hp,hm,aX,h1⟩:=vV hz;have ab:z0.cells.size=z.length:=by rw[aO,ah]
       have h0:=NO (fm:=fm) (w:=w) (L:=L) z0.cells len (by rw[ae];exact h1);rw[ae,ab]at h0;have aP:M.toList.length=len:=by have:=congrArg List.length aL;simpa using this
       have b0:=Wb aZ;simp only[pQ]at b0;have aR:=Wc (env:=env) (es:=z.length) (M.toList.map λp=>jK fm p.2) (e0::l0) (List.replicate len (z.map zc)) 0 (λl=>l=e0::l0) (by simpa using aZ) bc (by simp[aP]) (by simp[aP]);have bF:((M.toList.map λp=>jK fm p.2).zipIdx 0|>.map λp=>(p.2,p.1))=M.toList.map λp=>(p.1,jK fm p.2):=by
        apply pT;intro k;have E:=congrArg (λl=>l[k]?) aL;simp only[jt]at E;simp only[jt,List.getElem?_zipIdx];cases bg:M.toList[k]? with
        |none=>simp
        |some p=>
         rw[bg]at E;have c2:k<len:=by rw[<-aP];exact(iP.1 bg).1
         rw[pO c2]at E;simp at E;simp[E]
       rw[bF]at aR;obtain⟨R',l',N,k2,rfl⟩:=NN X M.toList _ _ _ h0 aR;have am:=R R' ⟨i,z0,Y,an,ah,ab,ae,N⟩ aK;obtain⟨br,bh,bi⟩:=k2;have bj:(e0::l0).length=len:=by rw[b0,<-aP]
       obtain⟨g1,g2,g3⟩:=NJ (os:=os) (w':=w.alloc (.cells R' e)) (cap:=len) (es:=z.length) (el:=e0::l0) (cur:=R') (ty:=e) I hn rfl rfl rfl rfl ag (by omega) (by simp only[c_]at bq;simp only[maxLen];omega) bh (by rw[br,bj]) bi bM c1;refine⟨_,_,_,_,.inl (by simp only[execOp,Sem.run_bind];rw[am];rfl),E,_,g1,g2,g3,?_⟩;have:=VR.jH (fm:=fm) (w:=w.alloc (.cells R' e)) (L:=λa=>if a=nid then .cells w.heap.size z.length len else L a) w.heap.size z.length len nid 0 len (by simp) (by omega);rw[bj];simpa using this
      split at H
      .rename_i b1;split at H
       .rename_i b2;injection H with H
        subst H;obtain⟨v,us,D,E⟩:=C;simp only[xF]at D;split at D<;>try(cases D;done)
        rename_i e0 l0 aZ;obtain⟨ac,D⟩:=ix D;injection D with D;injection D with Z T;subst Z;subst T
        simp only[iI,Nat.ble_eq]at ac;exact a2 0 (by rw[b2];rfl) (λ_=>b1) e0 l0 aZ (λe X=>by rw[b2];exact jr (ly.1 ac.1 e X)) ac.2 E
       .cases H
      .injection H with H
       subst H;obtain⟨v,us,D,E⟩:=C;simp only[xF]at D;split at D<;>try(cases D;done)
       rename_i e0 l0 aZ;obtain⟨ac,D⟩:=ix D;injection D with D;injection D with Z T;subst Z;subst T
       simp only[iI,Nat.blt_eq,Nat.ble_eq]at ac;obtain⟨⟨ag,W⟩,bq⟩:=ac;exact a2 z.length (rW ag) (λh=>absurd ag (by omega)) e0 l0 aZ (λe X=>jr (ly.1 W e X)) bq E
     split at H
     .rename_i aK;injection H with H
      subst H;obtain⟨i,z0,Y,an,ae,aO,ah,hp,hm,aX,h1⟩:=vV hz;have ab:z0.cells.size=z.length:=by rw[aO,ah]
      have h0:=NO (fm:=fm) (w:=w) (L:=L) z0.cells len (by rw[ae];exact h1);rw[ae,ab]at h0;obtain⟨R',l',N,k2,k3,k4⟩:=NN X M.toList _ _ _ h0 (VP _ _ _ C);simp at k4;have am:=R R' ⟨i,z0,Y,an,ah,ab,ae,N⟩ aK;obtain⟨br,bh,bi⟩:=k2;have E:=NL w L (.cells R' e);refine⟨_,_,[],_,.inl (by simp only[execOp,Sem.run_bind];rw[am];rfl),k3,L,E,hY.refl _ _,Yq0 I _,?_⟩;cases l' with
      |nil=>simp at k4;subst k4;exact .emp _
      |cons e0 l0=>
       rw[<-k4];have bG:(w.alloc (.cells R' e)).heap[w.heap.size]?=U (.cells R' e (0,0)):=heap_alloc_new w _;have aL: ∀i e' j c,(e0::l0)[i]?=U e'->e'[j]?=U c->i*z.length+j<R'.size:=by
        intro i e' j c aw aE;have bH:=(iP.1 aw).1;have co:=(iP.1 aE).1;have cp:=bh e' (jc aw);have hb:(i+1)*z.length<=(e0::l0).length*z.length:=lD _ bH;rw[nY]at hb;rw[br];omega
       have:=VR.rd (fm:=fm) (w:=w.alloc (.cells R' e)) (L:=L) w.heap.size 0 (e0::l0).length z.length (e0::l0) (λi j=>R'.getD (i*z.length+j) undef)
        (by simp) bh hp (jG _) (λhb=>hb.elim (λh=>h.elim (λ⟨b,cq,cn,hb⟩=>by have:=I.lF hb;omega) (λ⟨b,i,hb⟩=>by have:=I.Af hb;omega)) (λ⟨b,s,hb,c3⟩=>by have:=(I.hid b s hb _ c3).1;omega)) (by simp)
        (λi e' j c aw aE=>by
         rw[cell_of_row _ _ _ R' e (0,0) bG];rw[mD];exact BT (aL i e' j c aw aE))
        (λi e' j c aw aE=>(bi i e' j c aw aE).1)
        (λi e' j c aw aE=>(bi i e' j c aw aE).2.mono E (hY.refl _ _))
       exact this
     .cases H
   |_=>simp[V]at H
 case load t x=>
  split at H
  .rename_i l hl;cases ha:sf P t l with
   |false=>rw[ha]at H;cases H
   |true=>
   rw[ha,cond_true]at H;injection H with H;subst H
   obtain⟨g,rfl,bk,aQ,hc⟩:=NX hl I;obtain⟨e,V,_,a5,c4,h1⟩:=NY ha;have bt: ∀{j:Nat} {y:AV},(l.map AV.v)[j]?=U y-> ∃v,l[j]?=U v/\y= .v v:=λ{j y} S=>by
    rw[jt]at S;obtain⟨v,hv,rfl⟩:=lS.1 S;exact⟨v,hv,rfl⟩
   obtain⟨y,v,N,k2,k3⟩:=J8 (P:=P) (w:=w) (fm:=fm) (L:=L) c4 a5 (b:=g) (o:=0) (cs:=l.map AV.v) (vals:=λj=>l.getD j undef)
    (λj y S=>by obtain⟨v,hv,rfl⟩:=bt S;rw[mD,hc j v hv];simp[List.getD,hv])
    (λj y S=>by obtain⟨v,hv,rfl⟩:=bt S;simp[List.getD,hv,h1 v (jc hv)])
    (λj y S=>by obtain⟨v,hv,rfl⟩:=bt S;simp only[List.getD,hv,qu];exact .v v)
    (K:=λr=>r= .agg (l.map AV.v)) ⟨by simp,by rw[List.take_of_length_le (by simp)]⟩
   subst k2;exact .pure I (NV (x:=.global g) rfl N) C k3
  cases hg:kc P t with
  |none=>simp[hg]at H
  |some g=>
   cases Q:jU P t with
   |none=>simp[hg,Q]at H
   |some n=>
    simp[hg,Q]at H;subst H;exact YrF I X hg Q C
 case store t x y=>
  cases Q:jU P t with
  |none=>simp[Q]at H
  |some n=>
   simp[Q]at H;subst H;exact YrG I X Q C
 case nilCheck x=>
  injection H with H;subst H
  simp only[kA,jh]at C;have D:=ky X x;revert C D;cases hp:iC env (jK fm x)<;>intro C D<;>try exact C.elim
  case rp cs=>
   obtain⟨b,o,vals,e,_⟩:=BV D;exact .pure I (by simp[execOp,e]) C (e▸D)
  case ptr b i j=>
   obtain⟨ad,e⟩:=NU D;exact .pure I (by simp[execOp,e]) C (e▸D)
  case clo f cs=>
   obtain⟨gf,xs,e,_⟩:=Gm D;exact .pure I (by simp[execOp,e]) C (e▸D)
 case binOp ay t x y yt=>
  have a3:op= .bin ay (jK fm x) (jK fm y)->Shown P fm {dst,op:=.binOp ay t x y yt,type:=ty,pos,after,guard} a w L h nid K:=by
   intro e;subst e;simp only[kA,jh]at C;have D:=ky X x;have hy:=ky X y;obtain⟨va,vb,hp,hq⟩:=Yq9 C;rw[hp]at D C;rw[hq]at hy C;obtain⟨r,N,k2⟩:=Yq8 (P:=P) (w:=w) (t:=t) (ea:=x) (eb:=y) C;have Z:=kI D;have T:=kI hy;refine .pure I ?_ k2 (.v r);simp only[execOp,Sem.run_bind]at N⊢;rw[Z,T];simp only[N,Result.andThen_ok];rfl
  have beq: ∀ng,(ay= .eql/\ng=zj\/ay= .neq/\ng=zZ)->P.underlying t=U .bool->op= .beq ng (jK fm x) (jK fm y)->Shown P fm {dst,op:=.binOp ay t x y yt,type:=ty,pos,after,guard} a w L h nid K:=by
   intro ng bu V e;subst e;obtain⟨s,Z,t',T,E⟩:=C;have h1:=J x _ Z;have h2:=J y _ T;refine .pure I ?_ E (.v _);rcases bu with⟨rfl,rfl⟩| ⟨rfl,rfl⟩<;>simp[execOp,eqGuard,h1,h2,binOp,Op.equal,Op.maxDepth,run_equalIn_bool' w _ t s t' V]
  have b9: ∀ng,(ay= .eql/\ng=zj\/ay= .neq/\ng=zZ)->(∃fs,P.underlying t=U (.struct fs))-> ∀ks,uH P 9 t=U ks->P.eqGuardType P.depth t=zj->op= .eqa ng ks (jK fm x) (jK fm y)->Shown P fm {dst,op:=.binOp ay t x y yt,type:=ty,pos,after,guard} a w L h nid K:=by
   intro ng bu c5 ks av b4 e;subst e;obtain⟨cs,ds,r,Z,T,bN,E⟩:=C;have h1:=ky X x;rw[Z]at h1;have h2:=ky X y;rw[T]at h2;obtain⟨xs,F,cx⟩:=wJ h1;obtain⟨ys,ey,cy⟩:=wJ h2;obtain⟨fs,V⟩:=c5;obtain⟨va,vb,p1,p2,p3⟩:=YqY (P:=P) (fm:=fm) (w:=w) (L:=L) 9 9991 t ks av xs ys 0 cs ds r ⟨by rw[cx.1];simp,λj c hc=>by simpa using(cx.2 j c hc).2⟩ ⟨by rw[cy.1];simp,λj c hc=>by simpa using(cy.2 j c hc).2⟩ bN;obtain⟨l1,l2⟩:=Gi bN;have a5:jU P t=U ks.length:=by
    unfold uH at av;simp only[V]at av;split at av
    .cases av
    .split at av
     .split at av
      .injection av with av;subst av;assumption
      .cases av
     .cases av
   have aS: ∀(zs:Array Value) (v:Value),zs.size=ks.length->(part t zs 0).run P w= .ok v w->v= .agg zs:=by
    intro zs v hz hp;have hg:kc P t=U true:=by simp[kc,V]
    simp only[part,Sem.run_bind,BS hg,Result.andThen_ok,if_true,pj a5,Sem.run_pure]at hp;injection hp with hp
    rw[<-hp,mD,<-hz];simp
   have w1:=aS xs va (by rw[cx.1,l1]) p1;have w2:=aS ys vb (by rw[cy.1,l2]) p2;subst w1;subst w2;refine .pure I ?_ E (.v _);rcases bu with⟨rfl,rfl⟩| ⟨rfl,rfl⟩<;>simp[execOp,F,ey,run_eqGuard_agg w _ t x y xs ys b4,run_eql_struct,run_neq_struct,p3]
  cases ay<;>simp only at H
  case eql=>
   cases V:P.underlying t with
   |none=>simp[V]at H
   |some d=>
    rw[V]at H;cases d<;>simp only at H<;>try(cases H;done)
    case slice e=>
     split at H
     .injection H with H;subst H
      obtain⟨r,B,E⟩:=C;have D:=ky X x;have a2: ∀A l c,a.eval x= .slice A l c->r= .v (.bool (bif zj then !A.isNone else A.isNone))->Shown P fm {dst,op:=.binOp .eql t x (.const (.slice zz 0 0)) yt,type:=ty,pos,after,guard} a w L h nid K:=by
       intro A l c F er;subst er;refine .pure I ?_ E (.v _);simp[execOp,eqGuard,show a.eval (.const (.slice zz 0 0))= .slice zz 0 0 from rfl,F,run_eql_slice_nil w t e A l c V]
      revert B D;simp only[kn,mq];cases hp:iC env (jK fm x)<;>intro B D<;>try(simp[lG]at B;done)
      case v y=>
       have F:=kI D;cases y<;>simp only[lG]at B<;>try(cases B;done)
       injection B with B
       exact a2 _ _ _ F B.symm
      case rd es l=>
       cases l with
       |nil=>simp[lG]at B
       |cons e0 l0=>
        simp only[lG]at B;injection B with B
        rcases wK D with⟨h0,_⟩| ⟨b,o,c,vals,F,_⟩
        .cases h0
        .exact a2 _ _ _ F B.symm
     .cases H
    case pointer e=>
     split at H
     .injection H with H;subst H
      obtain⟨r,B,E⟩:=C;have D:=ky X x;have bv:P.underlying t=U (.pointer (P.pointee t)):=by rw[V];simp[Program.pointee,V]
      have a2: ∀p,a.eval x= .pointer p->r= .v (.bool (bif zj then !p.isNone else p.isNone))->Shown P fm {dst,op:=.binOp .eql t x (.const (.pointer zz)) yt,type:=ty,pos,after,guard} a w L h nid K:=by
       intro p F er;subst er;refine .pure I ?_ E (.v _);simp[execOp,eqGuard,show a.eval (.const (.pointer zz))= .pointer zz from rfl,F,run_eql_pointer_nil w t p bv]
      revert B D;simp only[kn,mq];cases hp:iC env (jK fm x)<;>intro B D<;>try(simp[lG]at B;done)
      case v y=>
       have F:=kI D;cases y<;>simp only[lG]at B<;>try(cases B;done)
       injection B with B
       exact a2 _ F B.symm
      case ptr b i j=>
       simp only[lG]at B;injection B with B
       generalize hv:a.eval x=v at D;cases D with
       |lg g es cap _ _ _ h=>exact a2 _ hv (by rw[<-B];rfl)
       |jN ad _ _ _ h=>exact a2 _ hv (by rw[<-B];rfl)
     .cases H
    case interface ms=>
     split at H
     .injection H with H;subst H
      obtain⟨r,B,E⟩:=C;have D:=ky X x;revert B D;simp only[kn,mq];cases hp:iC env (jK fm x)<;>intro B D<;>try(simp[lG]at B;done)
      case v y=>
       have F:=kI D;cases y<;>simp only[lG]at B<;>try(cases B;done)
       injection B with B;subst B
       refine .pure I ?_ E (.v _);simp[execOp,eqGuard,show a.eval (.const .nilIface)= .nilIface from rfl,F,YrH w t ms V]
      case er=>
       simp only[lG]at B;injection B with B;subst B
       generalize hv:a.eval x=v at D;cases D with
       |er te p=>
        refine .pure I ?_ E (.v _);simp[execOp,eqGuard,show a.eval (.const .nilIface)= .nilIface from rfl,hv,YrJ w t te p ms V]
     .cases H
    case bool=>injection H with H;exact beq zj (.inl ⟨rfl,rfl⟩) V H.symm
    case int=>injection H with H;exact a3 H.symm
    case string=>injection H with H;exact a3 H.symm
    case struct fs=>
     split at H
     .cases H
     .rename_i b4;cases hl:uH P 9 t with
      |none=>simp[hl]at H
      |some ks=>simp[hl]at H;exact b9 zj (.inl ⟨rfl,rfl⟩) ⟨fs,V⟩ ks hl (by simpa using b4) H.symm
  case neq=>
   cases V:P.underlying t with
   |none=>simp[V]at H
   |some d=>
    rw[V]at H;cases d<;>simp only at H<;>try(cases H;done)
    case slice e=>
     split at H
     .injection H with H;subst H
      obtain⟨r,B,E⟩:=C;have D:=ky X x;have a2: ∀A l c,a.eval x= .slice A l c->r= .v (.bool (bif zZ then !A.isNone else A.isNone))->Shown P fm {dst,op:=.binOp .neq t x (.const (.slice zz 0 0)) yt,type:=ty,pos,after,guard} a w L h nid K:=by
       intro A l c F er;subst er;refine .pure I ?_ E (.v _);simp[execOp,eqGuard,show a.eval (.const (.slice zz 0 0))= .slice zz 0 0 from rfl,F,run_neq_slice_nil w t e A l c V]
      revert B D;simp only[kn,mq];cases hp:iC env (jK fm x)<;>intro B D<;>try(simp[lG]at B;done)
      case v y=>
       have F:=kI D;cases y<;>simp only[lG]at B<;>try(cases B;done)
       injection B with B
       exact a2 _ _ _ F B.symm
      case rd es l=>
       cases l with
       |nil=>simp[lG]at B
       |cons e0 l0=>
        simp only[lG]at B;injection B with B
        rcases wK D with⟨h0,_⟩| ⟨b,o,c,vals,F,_⟩
        .cases h0
        .exact a2 _ _ _ F B.symm
     .cases H
    case pointer e=>
     split at H
     .injection H with H;subst H
      obtain⟨r,B,E⟩:=C;have D:=ky X x;have bv:P.underlying t=U (.pointer (P.pointee t)):=by rw[V];simp[Program.pointee,V]
      have a2: ∀p,a.eval x= .pointer p->r= .v (.bool (bif zZ then !p.isNone else p.isNone))->Shown P fm {dst,op:=.binOp .neq t x (.const (.pointer zz)) yt,type:=ty,pos,after,guard} a w L h nid K:=by
       intro p F er;subst er;refine .pure I ?_ E (.v _);simp[execOp,eqGuard,show a.eval (.const (.pointer zz))= .pointer zz from rfl,F,run_neq_pointer_nil w t p bv]
      revert B D;simp only[kn,mq];cases hp:iC env (jK fm x)<;>intro B D<;>try(simp[lG]at B;done)
      case v y=>
       have F:=kI D;cases y<;>simp only[lG]at B<;>try(cases B;done)
       injection B with B
       exact a2 _ F B.symm
      case ptr b i j=>
       simp only[lG]at B;injection B with B
       generalize hv:a.eval x=v at D;cases D with
       |lg g es cap _ _ _ h=>exact a2 _ hv (by rw[<-B];rfl)
       |jN ad _ _ _ h=>exact a2 _ hv (by rw[<-B];rfl)
     .cases H
    case interface ms=>
     split at H
     .injection H with H;subst H
      obtain⟨r,B,E⟩:=C;have D:=ky X x;revert B D;simp only[kn,mq];cases hp:iC env (jK fm x)<;>intro B D<;>try(simp[lG]at B;done)
      case v y=>
       have F:=kI D;cases y<;>simp only[lG]at B<;>try(cases B;done)
       injection B with B;subst B
       refine .pure I ?_ E (.v _);simp[execOp,eqGuard,show a.eval (.const .nilIface)= .nilIface from rfl,F,YrI w t ms V]
      case er=>
       simp only[lG]at B;injection B with B;subst B
       generalize hv:a.eval x=v at D;cases D with
       |er te p=>
        refine .pure I ?_ E (.v _);simp[execOp,eqGuard,show a.eval (.const .nilIface)= .nilIface from rfl,hv,YrK w t te p ms V]
     .cases H
    case bool=>injection H with H;exact beq zZ (.inr ⟨rfl,rfl⟩) V H.symm
    case int=>injection H with H;exact a3 H.symm
    case string=>injection H with H;exact a3 H.symm
    case struct fs=>
     split at H
     .cases H
     .rename_i b4;cases hl:uH P 9 t with
      |none=>simp[hl]at H
      |some ks=>simp[hl]at H;exact b9 zZ (.inr ⟨rfl,rfl⟩) ⟨fs,V⟩ ks hl (by simpa using b4) H.symm
  all_goals(injection H with H;exact a3 H.symm)
 case unOp ay t x=>
  cases ay<;>simp only at H<;>try(cases H;done)
  case not=>
   injection H with H;subst H
   obtain⟨b,e,E⟩:=C;exact .pure I (by simp[execOp,J x _ e,Op.unary]) E (.v _)
  case neg=>
   injection H with H;subst H
   obtain⟨k,n,e,E⟩:=C;exact .pure I (by simp[execOp,J x _ e,Op.unary,Op.intArith]) E (.v _)
 case convert s d x=>
  cases Q:P.underlying s with
  |none=>simp[Q]at H
  |some ds=>
   cases hd:P.underlying d with
   |none=>cases ds<;>simp[Q,hd]at H
   |some dd=>
    cases ds<;>cases dd<;>simp only[Q,hd]at H<;>try(cases H;done)
    case string.slice e=>
     cases aq:P.underlying e with
     |none=>rw[aq]at H;cases H
     |some de=>
      rw[aq]at H;cases de<;>(try simp only at H)<;>try(cases H;done)
      rename_i k;cases k<;>(try simp only at H)<;>try(cases H;done)
      injection H with H;subst H
      obtain⟨r,aF,E⟩:=C;simp only[kn,mq]at aF;cases hp:iC env (jK fm x)with
      |v y=>
       rw[hp]at aF;cases y with
       |string bO=>
        simp only[lG]at aF;injection aF with aF;subst aF
        obtain⟨y,w',N,k2,k3,k4⟩:=Yrf (P:=P) (w:=w) (L:=L) Q hd aq I bO;exact⟨y,_,[],w',.inl (by simp[execOp,J x _ hp,N]),E,L,k2,hY.refl _ _,k3,k4⟩
       |_=>simp[lG]at aF
      |_=>rw[hp]at aF;simp[lG]at aF
    case slice.string e=>
     cases aq:P.underlying e with
     |none=>rw[aq]at H;cases H
     |some de=>
      rw[aq]at H;cases de<;>(try simp only at H)<;>try(cases H;done)
      rename_i k;cases k<;>(try simp only at H)<;>try(cases H;done)
      injection H with H;subst H
      obtain⟨v,us,D,E⟩:=C;have b5:=ky X x;have a2: ∀(l:List (List AV)) (b:List UInt8),VR fm w L (a.eval x) (.rd 1 l)->vR l=U b->v= .v (.string ⟨b.toArray⟩)->us=[]->Shown P fm {dst,op:=.convert s d x,type:=ty,pos,after,guard} a w L h nid K:=by
       intro l b h1 h2 h3 h4;subst h3;subst h4;exact .pure I (by simp[execOp,Wa (P:=P) Q aq hd h1 h2]) E (.v _)
      simp only[kn,mq]at D;revert D b5;cases hp:iC env (jK fm x)<;>intro b5 D<;>(try simp only[xF]at D)<;>try(cases D;done)
      case emp=>
       injection D with D;injection D with Z T
       obtain⟨A,F⟩:=uJ b5;exact a2 [] [] (by rw[F];exact .lT _ _ _) rfl Z.symm T.symm
      case rd es l=>
       obtain⟨h1,D⟩:=ix D;split at D
       .rename_i b hb;injection D with D;injection D with Z T
        have:=jr h1;subst this;exact a2 l b b5 hb Z.symm T.symm
       .cases D
      case ref b bm len=>
       split at D
       .rename_i o ho;obtain⟨h1,D⟩:=ix D;simp only[iI,Nat.beq_eq,Nat.ble_eq]at h1;obtain⟨⟨h1,h2⟩,h3⟩:=h1;split at D
        .rename_i bs hb;injection D with D;injection D with Z T
         subst h2;have bP:=V4 I ho h3 b5;rw[h1]at bP;subst Z;subst T;exact .pure I (by simp[execOp,Wa (P:=P) Q aq hd bP hb]) E (.v _)
        .cases D
       .cases D
    all_goals(injection H with H;subst H)
    case int.int k' k=>
     obtain⟨kk,n,e,E⟩:=C;exact .pure I (by simp[execOp,J x _ e,convert,run_underlying Q,run_underlying hd,Conv.intToInt]) E (.v _)
    case string.string=>
     obtain⟨sx,e,E⟩:=C;exact .pure I (by simp[execOp,J x _ e,convert,run_underlying Q,run_underlying hd]) E (.v _)
 case fieldAddr s x f=>
  cases Q:P.underlying s with
  |none=>simp[Q]at H
  |some d=>
   cases d<;>simp only[Q]at H<;>try(cases H;done)
   case struct fs=>
    cases hf:fs[f]? with
    |none=>simp[hf]at H
    |some fd=>
     cases af:jU P fd.type with
     |none=>simp[hf,af]at H
     |some n=>
      simp only[hf,af,pK]at H;split at H
      .cases H
      .rename_i c6;injection H with H;subst H
       simp only[kA,jh]at C;have D:=ky X x;have R: ∀ad,a.eval x= .pointer (U ad)->(execOp a.eval {dst,op:=.fieldAddr s x f,type:=ty,pos,after,guard}).run P w= .ok (.value (.pointer (U (ad.add fd.offset)))) w:=by
        intro ad e;simp[execOp,e,Instr.fieldAt,run_underlying Q,hf,Instr.sureAddr,fieldPlace,pj af,c6]
       revert C D;cases hp:iC env (jK fm x)<;>intro C D<;>try exact C.elim
       case rp cs=>
        obtain⟨b,o,vals,e,hb,aG,hc,h1,aH⟩:=BV D;refine .pure I (R _ e) C ?_;rw[vU];refine .rp b (o+fd.offset) _ (λj=>vals (fd.offset+j)) hb aG (λj y S=> ?_) (λj y S=> ?_) (λj y S=> ?_)
        all_goals rw[rU]at S
        .have:=hc _ y S;rwa[<-Nat.add_assoc]at this
        .exact h1 _ y S
        .exact aH _ y S
       case ptr b i j=>
        obtain⟨ad,e⟩:=NU D;rw[e]at D;exact .pure I (R _ e) C (V0 fd.offset D)
 case field s x f=>
  cases Q:P.underlying s with
  |none=>simp[Q]at H
  |some d=>
   cases d<;>simp only[Q]at H<;>try(cases H;done)
   case struct fs=>
    cases hf:fs[f]? with
    |none=>simp[hf]at H
    |some fd=>
     cases hg:kc P fd.type with
     |none=>simp[hf,hg]at H
     |some g=>
      cases af:jU P fd.type with
      |none=>simp[hf,hg,af]at H
      |some n=>
       simp[hf,hg,af]at H;subst H;obtain⟨cs,e,bQ,E⟩:=C;have D:=ky X x;rw[e]at D;obtain⟨xs,F,cx⟩:=wJ D;obtain⟨y,v,N,k2,k3⟩:=Yq7 hg af cx bQ E;exact .pure I (by simp[execOp,F,Instr.field,run_underlying Q,hf,asAgg,N]) k2 k3
 case indexAddr t x i=>
  split at H
  .rename_i l hl;cases ha:sf P t l with
   |false=>rw[ha]at H;cases H
   |true=>
   rw[ha,cond_true]at H;injection H with H;subst H
   obtain⟨g,rfl,bk,aQ,hc⟩:=NX hl I;obtain⟨e,V,ap,_,_,h1⟩:=NY ha;simp only[kA,jh]at C;obtain⟨k,n,ei,_,h0,el,az,E⟩:=C;have Y:=J i _ ei;have ah:=(iP.1 az).1;have hb:0<=n/\n< (l.length:Int):=⟨h0,by simp at ah;omega⟩;rw[jt]at az;obtain⟨v,hv,rfl⟩:=lS.1 az;have F:a.eval (.global g)= .pointer (U ⟨g,0,zz⟩):=rfl;refine .pure I (x:=.pointer (U ((⟨g,0,zz⟩:Addr).add (n.toNat*1)))) (by simp[execOp,F,Y,Instr.indexAt,asIntOf,run_underlying V,pj ap,hb,Instr.sureAddr]) E ?_;rw[vU,mD,Nat.mul_one];exact .rp g n.toNat [.v v] (λ_=>v) bk aQ (λj y S=>by
    cases j with
    |zero=>exact hc _ v hv
    |succ j=>simp at S) (λj y S=>h1 v (jc hv)) (λj y S=>by
    cases j with
    |zero=>injection S with S;subst S;exact .v v
    |succ j=>simp at S)
  cases Q:P.underlying t with
  |none=>simp[Q]at H
  |some d=>
   cases d<;>simp only[Q]at H<;>try(cases H;done)
   case slice e=>
    cases af:jU P e with
    |none=>simp[af]at H
    |some sz=>
     simp[af]at H;subst H;simp only[kA,jh]at C;obtain⟨k,n,ei,C⟩:=C;have Y:=J i _ ei;have D:=ky X x;have R: ∀(ad:Addr) (len c:Nat),a.eval x= .slice (U ad) len c->0<=n->n< (len:Int)->
       (execOp a.eval {dst,op:=.indexAddr t x i,type:=ty,pos,after,guard}).run P w= .ok (.value (.pointer (U (ad.add (n.toNat*sz))))) w:=by
      intro ad len c F h0 h1;have:0<=n/\n< (len:Int):=⟨h0,h1⟩;simp[execOp,F,Y,Instr.indexAt,asIntOf,run_underlying Q,pj af,this]
     revert C D;cases hp:iC env (jK fm x)<;>intro C D<;>try exact C.elim
     case rd es l=>
      obtain⟨a1,h0,el,az,E⟩:=C;subst a1;have ah:=(iP.1 az).1;rcases wK D with⟨e0,_⟩| ⟨b,o,c,vals,F,bR,W,ag,b6,hb,aG,hc,h1,aH⟩
      .subst e0;simp at az
      .refine .pure I (R _ _ _ F h0 (by omega)) E ?_;rw[vU];exact .rp b _ el (λj=>vals n.toNat j) hb aG (λj y S=>hc _ el j y az S) (λj y S=>h1 _ el j y az S) (λj y S=>aH _ el j y az S)
     case ref b bm len=>
      obtain⟨o,ha,a1,bQ,h0,h1,E⟩:=C;subst a1;rcases td I ha D with⟨g,es,cap,hL,Z,T,F⟩| ⟨A,_,hL,_,Z,T,F⟩
      .subst Z;refine .pure I (R _ _ _ F h0 h1) E ?_;rw[vU,<-nY];have:=VR.lg (fm:=fm) (w:=w) (L:=L) g (wd o.es) cap b (bm+n.toNat) 0 hL;simpa using this
      .omega
   case array len e=>
    cases af:jU P e with
    |none=>simp[af]at H
    |some sz=>
     simp[af]at H;subst H;simp only[kA,jh]at C;obtain⟨k,n,ei,h0,h1,C⟩:=C;have Y:=J i _ ei;have D:=ky X x;have R: ∀(ad:Addr),a.eval x= .pointer (U ad)->
       (execOp a.eval {dst,op:=.indexAddr t x i,type:=ty,pos,after,guard}).run P w= .ok (.value (.pointer (U (ad.add (n.toNat*sz))))) w:=by
      intro ad F;have:0<=n/\n< (len:Int):=⟨h0,h1⟩;simp[execOp,F,Y,Instr.indexAt,asIntOf,run_underlying Q,pj af,this,Instr.sureAddr]
     revert C D;cases hp:iC env (jK fm x)<;>intro C D<;>try exact C.elim
     case rp cs=>
      obtain⟨b,o,vals,e,hb,aG,hc,h1,aH⟩:=BV D;refine .pure I (R _ e) C ?_;rw[vU];refine .rp b (o+n.toNat*sz) _ (λj=>vals (n.toNat*sz+j)) hb aG (λj y S=> ?_) (λj y S=> ?_) (λj y S=> ?_)
      all_goals rw[rU]at S
      .have:=hc _ y S;rwa[<-Nat.add_assoc]at this
      .exact h1 _ y S
      .exact aH _ y S
     case ptr b i' j=>
      obtain⟨ad,e⟩:=NU D;rw[e]at D;exact .pure I (R _ e) C (V0 _ D)
 case index t x i=>
  cases Q:P.underlying t with
  |none=>simp[Q]at H
  |some d=>
   cases d<;>simp only[Q]at H<;>try(cases H;done)
   case string=>
    injection H with H;subst H
    obtain⟨s,F,k,n,ei,h0,b,hb,E⟩:=C;have h1:=J x _ F;have h2:=J i _ ei;exact .pure I (by simp[execOp,h1,h2,Instr.index,asIntOf,run_underlying Q,h0,hb]) E (.v _)
   case array len e=>
    split at H
    .rename_i ap;injection H with H;subst H
     obtain⟨v,us,D,E⟩:=C;simp only[kn,mq]at D;have aI:=ky X x;revert D aI;cases hp:iC env (jK fm x)<;>intro D aI<;>try(simp[xF]at D;done)
     rename_i cs;cases hq:iC env (jK fm i)<;>rw[hq]at D<;>try(simp[xF]at D;done)
     rename_i y;cases y<;>try(simp[xF]at D;done)
     rename_i k n;have h2:=J i _ hq;simp only[xF]at D;obtain⟨hb,D⟩:=ix D;simp only[iI,decide_eq_true_eq]at hb;split at D
     .rename_i c hc;injection D with D;injection D with Z T;subst Z;subst T
      obtain⟨xs,F,a5,W⟩:=wJ aI;have hn:n.toNat<xs.size:=by rw[a5];exact(iP.1 hc).1
      have a4:n.toNat<len:=l9 hb.2;refine .pure I (x:=xs.getD n.toNat undef) ?_ E (W _ _ hc).2;have h3:0<=n/\n< (len:Int):=⟨hb.1,by omega⟩;have h4:=J9 (P:=P) ap.2 (xs:=xs) hn w;simp[execOp,F,h2,Instr.index,asIntOf,run_underlying Q,h3,pj ap.1,h4]
     .cases D
    .cases H
 case slice t x lo Y mx=>
  cases mx with
  |some m=>
   cases lo with
   |none=>simp at H
   |some lo=>
    cases Y with
    |none=>simp at H
    |some Y=>
     simp only at H;cases Q:P.underlying t with
     |none=>simp[Q]at H
     |some d=>
      cases d<;>simp only[Q]at H<;>try(cases H;done)
      case slice e=>
       cases hz:jU P e with
       |none=>simp[hz]at H
       |some sz=>
        simp[hz]at H;subst H;obtain⟨r,B,E⟩:=C;cases bS:(EH lo&&EH Y&&EH m)with
        |false=>
        rw[bS,cond_false]at B;simp only[kn,mq]at B;obtain⟨N,i1,Z⟩: ∃k n,iC env (jK fm lo)= .v (.int k n):=by
         generalize iC env (jK fm x)=ax at B;generalize iC env (jK fm lo)=al at B⊢;unfold lG at B;split at B<;>simp_all
        obtain⟨k2,i2,T⟩: ∃k n,iC env (jK fm Y)= .v (.int k n):=by
         generalize iC env (jK fm x)=ax at B;generalize iC env (jK fm Y)=al at B⊢;unfold lG at B;split at B<;>simp_all
        obtain⟨k3,i3,e3⟩: ∃k n,iC env (jK fm m)= .v (.int k n):=by
         generalize iC env (jK fm x)=ax at B;generalize iC env (jK fm m)=al at B⊢;unfold lG at B;split at B<;>simp_all
        rw[Z,T,e3]at B;have v1:=J lo _ Z;have v2:=J Y _ T;have v3:=J m _ e3;have D:=ky X x;simp only[lG]at B;have c7: ∀len c:Nat,0<=i1->i1<=i2->i2<=i3->i3<=(c:Int)->(Instr.sliceBounds zZ len c (U (a.eval lo)) (U (a.eval Y)) (U (a.eval m))).run P w= .ok (i1.toNat,i2.toNat,i3.toNat) w:=by
         intro len c g1 g2 g3 g4;simp[Instr.sliceBounds,xN (P:=P) (w:=w) v3 (show 0<=i3 by omega) (show i3.toNat<=c by omega),xN (P:=P) (w:=w) v2 (show 0<=i2 by omega) (show i2.toNat<=i3.toNat by omega),xN (P:=P) (w:=w) v1 g1 (show i1.toNat<=i2.toNat by omega)]
        have R: ∀(A:Option Addr) (len c:Nat),a.eval x= .slice A len c->0<=i1->i1<=i2->i2<=i3->i3<=(c:Int)->
          (execOp a.eval {dst,op:=.slice t x (U lo) (U Y) (U m),type:=ty,pos,after,guard}).run P w= .ok (.value (.slice (if i3.toNat=i1.toNat then A else A.map (·.add (i1.toNat*sz))) (i2.toNat-i1.toNat) (i3.toNat-i1.toNat))) w:=by
         intro A len c F g1 g2 g3 g4;simp[execOp,F,Instr.sliceAt,Instr.slice,run_underlying Q,c7 len c g1 g2 g3 g4,pj hz]
        revert B D;cases hp:iC env (jK fm x)<;>intro B D<;>try(simp at B;done)
        case emp=>
         simp only at B;split at B
         .rename_i g;obtain⟨rfl,rfl,rfl⟩:=g;injection B with B;subst B
          obtain⟨A,F⟩:=uJ D;refine .pure I (R A 0 0 F (Int.le_refl 0) (Int.le_refl 0) (Int.le_refl 0) (Int.le_refl 0)) E ?_;exact .emp A
         .cases B
        case rd es l0=>
         simp only at B;split at B
         .rename_i g;obtain⟨a1,g1,g2,g3,g4⟩:=g;subst a1;injection B with B;subst B
          obtain⟨A,c,F,b6⟩:=Gn D;refine .pure I (R A _ c F g1 g2 g3 (by omega)) E ?_;by_cases aU:i2.toNat-i1.toNat=0
          .have:(l0.take i2.toNat).drop i1.toNat=[]:=by
            apply List.eq_nil_of_length_eq_zero;simp;omega
           rw[this,aU];exact .lT _ es _
          .rcases wK D with⟨e0,_⟩| ⟨b,o,c',vals,b7,bR,W,ag,bI,hb,aG,hc,h1,aH⟩
           .subst e0;simp at g4;omega
           .rw[F]at b7;injection b7 with e3' e4 e5
            subst e3';subst e5;have b0: ¬i3.toNat=i1.toNat:=by omega
            simp only[b0,if_false,l_,vU];have a7: ∀i e,((l0.take i2.toNat).drop i1.toNat)[i]?=U e->l0[i1.toNat+i]?=U e:=λi e Y=>Wx Y;have a4:((l0.take i2.toNat).drop i1.toNat).length=i2.toNat-i1.toNat:=by simp;omega
            have:=VR.rd (fm:=fm) (w:=w) (L:=L) b (o+i1.toNat*es) (i3.toNat-i1.toNat) es ((l0.take i2.toNat).drop i1.toNat) (λi j=>vals (i1.toNat+i) j)
             (λe0=>aU (by rw[<-a4,e0];rfl)) (λe aq=>W e (List.mem_of_mem_take (List.mem_of_mem_drop aq))) ag (by rw[a4];omega) hb aG
             (λi e j y Y S=>by
              have:=hc _ e j y (a7 i e Y) S;rw[nY,<-Nat.add_assoc]at this;exact this)
             (λi e j y Y S=>h1 _ e j y (a7 i e Y) S)
             (λi e j y Y S=>aH _ e j y (a7 i e Y) S)
            rwa[a4]at this
         .cases B
        |true=>
        rw[bS,cond_true]at B;simp only[kn,mq,lG]at B;split at B
        .rename_i hc;have zv: ∀y,yr (iC env (jK fm y))=zZ-> ∃k,a.eval y= .int k 0:=by
          intro y hy;cases hp:iC env (jK fm y)with
          |v x=>
           rw[hp]at hy;cases x with
           |int k n=>simp[yr]at hy;subst hy;exact⟨k,J y _ hp⟩
           |_=>simp[yr]at hy
          |_=>rw[hp]at hy;simp[yr]at hy
         obtain⟨N,Z⟩:=zv lo hc.1;obtain⟨k2,T⟩:=zv Y hc.2.1;obtain⟨k3,e3⟩:=zv m hc.2.2;have D:=ky X x;have a2: ∀A l c,a.eval x= .slice A l c->r= .emp->Shown P fm {dst,op:=.slice t x (U lo) (U Y) (U m),type:=ty,pos,after,guard} a w L h nid K:=by
          intro A l c F er;subst er;refine .pure I (x:=.slice A 0 0) ?_ E (.emp A);simp[execOp,F,Z,T,e3,Instr.sliceAt,Instr.slice,run_underlying Q,Instr.sliceBounds,xN (P:=P) (w:=w) (x:=.int N 0) (n:=0) rfl (Int.le_refl 0) (sP _),xN (P:=P) (w:=w) (x:=.int k2 0) (n:=0) rfl (Int.le_refl 0) (sP _),xN (P:=P) (w:=w) (x:=.int k3 0) (n:=0) rfl (Int.le_refl 0) (sP _),pj hz]
         revert B D;cases hp:iC env (jK fm x)<;>intro B D<;>try(simp at B;done)
         case v y=>
          have F:=kI D;cases y<;>simp only at B<;>try(cases B;done)
          injection B with B
          exact a2 _ _ _ F B.symm
         case emp=>
          injection B with B
          obtain⟨A,F⟩:=uJ D;exact a2 _ _ _ F B.symm
         case rd es l=>
          injection B with B
          obtain⟨A,c,F,_⟩:=Gn D;exact a2 _ _ _ F B.symm
        .cases B
  |none=>
   simp only at H;cases Q:P.underlying t with
   |none=>simp[Q]at H
   |some d=>
    cases d<;>simp only[Q]at H<;>try(cases H;done)
    case string=>
     injection H with H;subst H
     obtain⟨s,F,C⟩:=C;have h1:=J x _ F;obtain⟨l,hh,N,k2,k3,k4⟩:=Kf (P:=P) X zj (jG _) C (λl h E=>⟨E.1,E.2.1⟩);exact .pure I (by simp[execOp,h1,Instr.sliceAt,Instr.slice,run_underlying Q,N]) k4 (.v _)
    case array len e=>
     split at H
     .rename_i l hl;cases ha:sf P t l with
      |false=>rw[ha]at H;cases H
      |true=>
      rw[ha,cond_true]at H;injection H with H;subst H
      obtain⟨g,rfl,bk,aQ,hc⟩:=NX hl I;obtain⟨e',V,ap,_,_,h1⟩:=NY ha;rw[Q]at V;injection V with V;injection V with a4 hue
      subst a4;subst hue;refine .pure I (x:=.slice (U ⟨g,0,zz⟩) l.length l.length) ?_ C ?_
      .simp[execOp,Instr.sliceAt,run_underlying Q,Instr.sureAddr,Instr.sliceBounds,pj ap,Act.eval,Addr.add]
      .show VR fm w L _ (.rd 1 (l.map λv=>[AV.v v]));by_cases aY:l=[]
       .subst aY;exact .lT _ 1 _
       have bj:(l.map λv=>[AV.v v]).length=l.length:=by simp
       have bw: ∀{i:Nat} {e:List AV} {j:Nat} {y:AV},(l.map λv=>[AV.v v])[i]?=U e->e[j]?=U y-> ∃v,l[i]?=U v/\j=0/\y= .v v:=λ{i e j y} Y S=>by
        rw[jt]at Y;obtain⟨v,hv,rfl⟩:=lS.1 Y;cases j with
        |zero=>injection S with S;exact⟨v,hv,rfl,S.symm⟩
        |succ j=>simp at S
       have:=VR.rd (fm:=fm) (w:=w) (L:=L) g 0 l.length 1 (l.map λv=>[AV.v v]) (λi _=>l.getD i undef) (by simpa using aY)
        (λe X=>by obtain⟨v,_,rfl⟩:=mH.1 X;rfl) Nat.zero_lt_one (by simp) bk aQ
        (λi e j y Y S=>by obtain⟨v,hv,rfl,_⟩:=bw Y S;simp only[Nat.mul_one,mD,sZ];rw[hc i v hv];simp[List.getD,hv])
        (λi e j y Y S=>by obtain⟨v,hv,_,_⟩:=bw Y S;simp[List.getD,hv,h1 v (jc hv)])
        (λi e j y Y S=>by obtain⟨v,hv,_,rfl⟩:=bw Y S;simp only[List.getD,hv,qu];exact .v v)
       rw[bj]at this;exact this
     .cases H
    case slice e=>
     cases af:jU P e with
     |none=>simp[af]at H
     |some sz=>
      simp[af]at H;subst H;simp only[kA,jh]at C;have D:=ky X x;have R: ∀(A:Option Addr) (len c l h':Nat),a.eval x= .slice A len c->(Instr.sliceBounds zZ len c (lo.map a.eval) (Y.map a.eval) zz).run P w= .ok (l,h',c) w->
        (execOp a.eval {dst,op:=.slice t x lo Y zz,type:=ty,pos,after,guard}).run P w= .ok (.value (.slice (if c=l then A else A.map (·.add (l*sz))) (h'-l) (c-l))) w:=by
       intro A len c l h' F hb;simp[execOp,F,Instr.sliceAt,Instr.slice,run_underlying Q,hb,pj af]
      revert C D;cases hp:iC env (jK fm x)<;>intro C D<;>try exact C.elim
      case emp=>
       obtain⟨A,F⟩:=uJ D;obtain⟨l,hh,N,Z,T,E⟩:=Kf (P:=P) X zZ (jG 0) C (λl h E=>⟨by omega,by omega⟩);subst Z;subst T;exact .pure I (R A 0 0 0 0 F N) E (.emp _)
      case ref b bm len=>
       obtain⟨A,c,F,b6⟩:=V2 D;rw[F]at D;obtain⟨l,hh,N,Z,T,E⟩:=Kf (P:=P) X zZ b6 C (λl h E=>⟨by omega,by omega⟩);subst Z;refine .pure I (R A len c 0 hh F N) E ?_;have:(if c=0 then A else A.map (·.add (0*sz)))=A:=by
        split
        .rfl
        .cases A with
         |none=>rfl
         |some ad=>simp[Addr.add]
       rw[this];exact Yra T D
      case rd es l0=>
       obtain⟨A,c,F,b6⟩:=Gn D;obtain⟨a1,C⟩:=C;subst a1;obtain⟨l,hh,N,Z,T,E⟩:=Kf (P:=P) X zZ b6 C (λl h E=>⟨by omega,by omega⟩);refine .pure I (R A _ c l hh F N) E ?_;by_cases aU:hh-l=0
       .have:(l0.take hh).drop l=[]:=by
         apply List.eq_nil_of_length_eq_zero;simp;omega
        rw[this,aU];exact .lT _ es _
       .rcases wK D with⟨e0,_⟩| ⟨b,o,c',vals,b7,bR,W,ag,bI,hb,aG,hc,h1,aH⟩
        .subst e0;simp at T;omega
        .rw[F]at b7;injection b7 with e3 e4 e5
         subst e3;subst e5;have b0: ¬c=l:=by omega
         simp only[b0,if_false,l_,vU];have a7: ∀i e,((l0.take hh).drop l)[i]?=U e->l0[l+i]?=U e:=λi e Y=>Wx Y;have a4:((l0.take hh).drop l).length=hh-l:=by simp;omega
         have:=VR.rd (fm:=fm) (w:=w) (L:=L) b (o+l*es) (c-l) es ((l0.take hh).drop l) (λi j=>vals (l+i) j)
          (λe0=>aU (by rw[<-a4,e0];rfl)) (λe aq=>W e (List.mem_of_mem_take (List.mem_of_mem_drop aq))) ag (by rw[a4];omega) hb aG
          (λi e j y Y S=>by
           have:=hc _ e j y (a7 i e Y) S;rw[nY,<-Nat.add_assoc]at this;exact this)
          (λi e j y Y S=>h1 _ e j y (a7 i e Y) S)
          (λi e j y Y S=>aH _ e j y (a7 i e Y) S)
         rwa[a4]at this
 case extract x i=>
  injection H with H;subst H
  obtain⟨l,e,b,hb,E⟩:=C;have D:=ky X x;rw[e]at D;obtain⟨xs,F,a5,W⟩:=EL D;have aQ:i<xs.size:=by rw[a5];exact(iP.1 hb).1
  refine .pure I (x:=xs.getD i undef) ?_ E (W i b hb);have:=BT aQ;simp only[execOp,F,Instr.extract,this,Sem.run_bind,Sem.run_pure,Result.andThen_ok]
 case makeSlice t n c=>
  cases Q:P.underlying t with
  |none=>simp[Q]at H
  |some d=>
   cases d<;>simp only[Q]at H<;>try(cases H;done)
   case slice e=>
    cases hz:nG P e with
    |none=>simp[hz]at H
    |some z=>
     simp[hz]at H;subst H;obtain⟨k,n',en,k',c',ec,h0,h1,h2,E⟩:=C;obtain⟨i,z0,Y,an,ae,aO,ah,hp,hm,aX,b2⟩:=vV hz;have ab:z0.cells.size=z.length:=by rw[aO,ah]
     have c8:=J n _ en;have c9:=J c _ ec;have bJ:(i.bytes:Int)*c'<=281474976710656:=by
      have h3:i.bytes*c'.toNat<=1024*c_:=Nat.mul_le_mul aX (by omega);have h4:((i.bytes*c'.toNat:Nat):Int)<=((1024*c_:Nat):Int):=Int.ofNat_le.2 h3;rw[Int.natCast_mul,Int.toNat_of_nonneg (by omega)]at h4;have:((1024*c_:Nat):Int)<=281474976710656:=by decide
      omega
     have cr:(c_:Int)=1073741824:=rfl;have am:=run_make (P:=P) w t e i z0 Q Y an k k' n' c' h0 h1 bJ (by omega);have ba:=NO (fm:=fm) (w:=w) (L:=L) z0.cells c'.toNat (by rw[ae];exact b2);rw[ae,ab]at ba;have bK:List.replicate c'.toNat (z.map zc)=List.replicate n'.toNat (z.map zc)++List.replicate (c'.toNat-n'.toNat) (z.map zc):=by
      rw[List.replicate_append_replicate];congr 1;omega
     obtain⟨N,k2,k3⟩:=J7 (w':=w.alloc (.cells (madeCells z0.cells (c'.toNat*i.size)) e)) (cap:=c'.toNat) (es:=z.length) (el:=List.replicate n'.toNat (z.map zc))
      (cur:=madeCells z0.cells (c'.toNat*i.size)) (ty:=e) I hn rfl rfl rfl rfl hp (by simp;omega) (by simp only[maxLen];omega) (λe' aq=>by rw[(List.mem_replicate.1 aq).2];simp)
      (by rw[size_madeCells,ah])
      (λi' e' j x aw aE=>by
       have:=ba.2.2 i' e' j x (by
        rw[bK,ld (iP.1 aw).1];exact aw) aE
       unfold madeCells;rw[ah,ab];exact this)
     refine⟨_,_,_,_,.inl (by simp only[execOp,c8,c9,Sem.run_bind,am,Result.andThen_ok];rfl),E,_,N,k2,k3,?_⟩;have:=VR.jH (fm:=fm) (w:=w.alloc (.cells (madeCells z0.cells (c'.toNat*i.size)) e)) (L:=λa=>if a=nid then .cells w.heap.size z.length c'.toNat else L a)
      w.heap.size z.length c'.toNat nid 0 n'.toNat (by simp) (by omega)
     simpa using this
 case makeFunc f bd aM=>
  cases f<;>simp only at H<;>try(cases H;done)
  case func f=>
   split at H
   .rename_i aU;injection H with H;subst H
    have ca:bd= #[]:=by simpa using aU
    subst ca;refine .pure I (x:=.func (.func f) #[] (aM.map a.eval)) (by simp[execOp,Instr.makeFunc]) C ?_;refine .clo f _ _ (by simp) (λj c S=> ?_);rw[List.map_map,jt]at S;cases hc:aM.toList[j]? with
    |none=>simp[hc]at S
    |some y=>
     simp[hc]at S;subst S;have aQ:j<aM.size:=by have:=(iP.1 hc).1;simpa using this
     have Z:(aM.map a.eval).getD j undef=a.eval y:=by
      have h2:=(iP.1 hc).2;simp[Array.getD,aQ];simp at h2;rw[h2]
     rw[Z];exact ky X y
   .cases H
 case call c=>
  obtain⟨aW,args,ai⟩:=c;cases aW with
  |invoke r m=>cases H
  |value f=>
   cases f with
   |func f=>
    simp only at H;split at H
    .injection H with H;subst H;exact C.elim
    .split at H<;>try(cases H;done)
     rename_i fn cb;split at H<;>try(cases H;done)
     rename_i b8;simp only[rG,Bool.not_eq_true',not_or,Bool.not_eq_true,Bool.not_eq_false,beq_iff_eq]at b8;have ext: ∀(k:Nz) (g:Array Value->Sem Value),(∀(xs:List AV) (vs:List Value) (r:AV),lG k xs=U r->vs.length=xs.length->(∀(j:Nat) (c:AV) (y:Value),xs[j]?=U c->vs[j]?=U y->VR fm w L y c)-> ∃y,(g vs.toArray).run P w= .ok y w/\VR fm w L y r)->
       Extern.findNext fn=zz->Extern.find fn=U g->(fn.name== "runtime.NumGoroutine")=zj->op= .pv k (args.toList.map (jK fm))->Shown P fm {dst,op:=.call ⟨.value (.func f),args,ai⟩,type:=ty,pos,after,guard} a w L h nid K:=by
      intro k g hg h1 h2 h3 bn;subst bn;obtain⟨r,B,E⟩:=C;obtain⟨y,cc,cd⟩:=hg _ (args.toList.map a.eval) r B (by simp) (λj c y S hy=>by
       simp only[List.map_map,jt,lS,Function.comp]at S hy;obtain⟨u,h1,rfl⟩:=S;obtain⟨u',h2,rfl⟩:=hy;rw[h1]at h2;injection h2 with h2;subst h2
       exact ky X u)
      refine .pure I ?_ E cd;have hb:fn.body.isNone=true:=by cases ce:fn.body with|none=>rfl|some c=>rw[ce]at b8;simp at b8
      have e3:(args.map a.eval)=(args.toList.map a.eval).toArray:=by apply Array.ext';simp
      have hc:=run_callFunc_extern cb h3 hb h1 h2 (args.toList.map a.eval).toArray w;rw[cc]at hc;unfold execOp;simp only[resolve,Deferred.ofValue,Act.eval,invoke,Sem.run_bind,Sem.run_pure,Result.andThen];simp[e3,hc,Result.andThen]
     split at H
     .rename_i a8;injection H with H
      refine ext .add64 _ Yrj (Wd (n:= "math/bits.Add64") a8 b8.2 (by kernel_rfl)) (We (n:= "math/bits.Add64") a8 (by kernel_rfl) (by kernel_rfl) (by kernel_rfl)) (by rw[a8];rfl) H.symm
     .split at H<;>try(cases H;done)
      rename_i a8;injection H with H
      refine ext .sub64 _ Yrk (Wd (n:= "math/bits.Sub64") a8 b8.2 (by kernel_rfl)) (We (n:= "math/bits.Sub64") a8 (by kernel_rfl) (by kernel_rfl) (by kernel_rfl)) (by rw[a8];rfl) H.symm
   |tmp t=>injection H with H;subst H;exact C.elim
   |_=>cases H
  |builtin b=>
   have mm: ∀mx,(b=bif mx then .max else .min)->(if args.size=0 then zz else U (jA.pv (.mm mx) (args.toList.map (jK fm))))=U op->Shown P fm {dst,op:=.call ⟨.builtin b,args,ai⟩,type:=ty,pos,after,guard} a w L h nid K:=by
    intro mx hb H;split at H
    .cases H
    .rename_i h0;injection H with H;subst H
     obtain⟨r,B,E⟩:=C;have W: ∀(j:Nat) (c:AV) (y:Value),(args.toList.map λx=>iC env (jK fm x))[j]?=U c->(args.toList.map a.eval)[j]?=U y->VR fm w L y c:=by
      intro j c y h1 h2;simp only[jt,lS]at h1 h2;obtain⟨u,h1,rfl⟩:=h1;obtain⟨u',h2,rfl⟩:=h2;rw[h1]at h2;injection h2 with h2;subst h2
      exact ky X u
     rw[List.map_map]at B;cases bx:args.toList with
     |nil=>exact absurd (by simpa using congrArg List.length bx) h0
     |cons x0 xr=>
      rw[bx]at B W;simp only[kn,Function.comp_def]at B W;have bz:=ky X x0;revert B bz;cases hp:iC env (jK fm x0)<;>intro B bz<;>try(simp[lG]at B;done)
      case v y=>
       cases y with
       |int k m=>
        have F:=kI bz;simp only[lG]at B;obtain⟨n,Z,T⟩:=Ww (P:=P) (fm:=fm) (w:=w) (L:=L) B (vs:=xr.map a.eval) (by simp) (λj c y h1 h2=>W (j+1) c y (by simpa using h1) (by simpa using h2));subst Z;refine .pure I ?_ E (.v _);have e3:(args.map a.eval).toList= .int k m::xr.map a.eval:=by simp[bx,F]
        cases mx
        .simp only[cond_false]at hb T;subst hb;have hm:(Builtin.min_ ai ty (args.map a.eval)).run P w= .ok (.int k n) w:=by
          unfold Builtin.min_;rw[e3];exact T
         simp[execOp,resolve,invoke,builtin,hm]
        .simp only[cond_true]at hb T;subst hb;have hm:(Builtin.max_ ai ty (args.map a.eval)).run P w= .ok (.int k n) w:=by
          unfold Builtin.max_;rw[e3];exact T
         simp[execOp,resolve,invoke,builtin,hm]
       |_=>simp[lG]at B
   cases b<;>simp only at H<;>try(cases H;done)
   case len=>
    have aV: ∀d,(ai[0]?).bind P.underlying=U d-> ∃t,ai[0]?=U t/\P.underlying t=U d:=by
     intro d h;cases h0:ai[0]? with
     |none=>simp[h0]at h
     |some t=>exact⟨t,rfl,by simpa[h0]using h⟩
    split at H
    .rename_i x aC a0;injection H with H;subst H
     have O:args= #[x]:=by rw[<-uF (xs:=args),a0]
     subst O;obtain⟨t,h0,V⟩:=aV _ aC;obtain⟨s,F,E⟩:=C;refine .pure I ?_ E (.v _);simp[execOp,resolve,invoke,builtin,Builtin.len_,h0,run_underlying V,J x _ F,goInt]
    .rename_i e x aC a0;injection H with H;subst H
     have O:args= #[x]:=by rw[<-uF (xs:=args),a0]
     subst O;obtain⟨t,h0,V⟩:=aV _ aC;have R: ∀A n c,a.eval x= .slice A n c->(execOp a.eval {dst,op:=.call ⟨.builtin .len, #[x],ai⟩,type:=ty,pos,after,guard}).run P w= .ok (.value (.int .i64 (n:Nat))) w:=by
      intro A n c F;simp[execOp,resolve,invoke,builtin,Builtin.len_,h0,run_underlying V,F,goInt]
     simp only[kA,jh]at C;have D:=ky X x;revert C D;cases hp:iC env (jK fm x)<;>intro C D<;>try exact C.elim
     case emp=>
      obtain⟨A,F⟩:=uJ D;exact .pure I (R _ _ _ F) C (.v _)
     case rd es l=>
      obtain⟨A,c,F,_⟩:=Gn D;exact .pure I (R _ _ _ F) C (.v _)
     case ref b bm len=>
      obtain⟨A,c,F,_⟩:=V2 D;exact .pure I (R _ _ _ F) C (.v _)
    .rename_i kt e m aC a0;injection H with H;subst H
     have O:args= #[m]:=by rw[<-uF (xs:=args),a0]
     subst O;obtain⟨t,h0,V⟩:=aV _ aC;refine xM C (λv us D=> ?_);obtain⟨b,o,c,el,au,a6,ho,hm,rfl,rfl⟩:=YrA D;simp only[kn,mq]at a6;injection a6 with Z _
     have aj:=ky X m;rw[Z]at aj;obtain⟨g,es,nc,F,_,hL,hg,cf,_⟩:=EM I ho hm aj;refine⟨.int .i64 (es.size:Nat),w,.inl ?_,jb.same I (by rw[cf.len];exact .v _)⟩;simp[execOp,resolve,invoke,builtin,Builtin.len_,h0,run_underlying V,F,goInt,MapKept.run_getObj_map hg]
    .cases H
   case min=>exact mm zj (by simp) H
   case max=>exact mm zZ (by simp) H
   case append=>
    split at H
    .rename_i t t' s x aC a0;split at H
     .rename_i cg;subst cg;cases V:P.underlying t with
      |none=>simp[V]at H
      |some d=>
       cases d<;>simp only[V]at H<;>try(cases H;done)
       case slice e=>
        cases hz:nG P e with
        |none=>simp[hz]at H
        |some z=>
         simp only[hz,pK]at H;have O:args= #[s,x]:=by rw[<-uF (xs:=args),a0]
         have ak:ai= #[t,t]:=by rw[<-uF (xs:=ai),aC]
         subst O;subst ak;have R: ∀y w',(Builtin.append_ #[t,t] ty #[a.eval s,a.eval x]).run P w= .ok y w'->
           (execOp a.eval {dst,op:=.call ⟨.builtin .append, #[s,x], #[t,t]⟩,type:=ty,pos,after,guard}).run P w= .ok (.value y) w':=by
          intro y w' h;simp[execOp,resolve,invoke,builtin,h]
         have D:=ky X x;have Q:=ky X s;split at H
         .rename_i b1;split at H
          .rename_i b2;have aN:z.length=1:=b2;injection H with H
           split at H
           .subst H;obtain⟨v,us,G,E⟩:=C;simp only[kn,mq,xF]at G;split at G
            .rename_i l hl;obtain⟨a1,G⟩:=ix G;split at G
             .rename_i o bA aJ;injection G with G;injection G with Z T;subst Z;subst T
              rw[<-aN]at a1 aJ E;obtain⟨y,w',N,k2⟩:=V9 (os:=0) (ty:=ty) (by rw[aN];rfl) (λ_=>b1.1) V hz I hn Q D hl a1 aJ;exact⟨y,_,_,w',.inl (R y w' N),E,k2⟩
             .cases G
            .cases G
           .subst H;obtain⟨v,us,G,E⟩:=C;simp only[kn,mq,xF]at G;split at G
            .rename_i l hl;obtain⟨a1,G⟩:=ix G;split at G
             .rename_i o bA aJ;injection G with G;injection G with Z T;subst Z;subst T
              rw[<-aN]at a1 aJ;obtain⟨y,w',N,_,k2⟩:=V8 (os:=0) (ty:=ty) (by rw[aN];rfl) (λ_=>b1.1) V hz I hn Q D hl a1 aJ;exact⟨y,_,_,w',.inl (R y w' N),E,k2⟩
             .cases G
            .cases G
          .cases H
         injection H with H
         split at H
         .subst H;obtain⟨v,us,G,E⟩:=C;simp only[kn,mq,xF]at G;split at G
          .rename_i l hl;obtain⟨a1,G⟩:=ix G;split at G
           .rename_i o bA aJ;injection G with G;injection G with Z T;subst Z;subst T
            simp only[iI]at a1;obtain⟨y,w',N,k2⟩:=V9 (ty:=ty) (rW (l9 a1.2)) (λh=>absurd (l9 a1.2) (by omega)) V hz I hn Q D hl a1.1 aJ;exact⟨y,_,_,w',.inl (R y w' N),E,k2⟩
           .cases G
          .cases G
         subst H;simp only[kA,jh]at C;revert C D;cases hp:iC env (jK fm x)<;>intro D C<;>try exact C.elim
         case emp=>
          obtain⟨A,F⟩:=uJ D;rw[F]at R;obtain⟨y,v,us,w',N,k2,k3⟩:=NT (P:=P) (ty:=ty) V hz I hn Q (VR.lT A z.length 0) C;exact⟨y,v,us,w',.inl (R y w' N),k2,k3⟩
         case rd es l=>
          obtain⟨a1,C⟩:=C;subst a1;obtain⟨y,v,us,w',N,k2,k3⟩:=NT (P:=P) (ty:=ty) V hz I hn Q D C;exact⟨y,v,us,w',.inl (R y w' N),k2,k3⟩
     .split at H
      .rename_i e V ch;split at H
       .rename_i zn hz;split at H
        case isFalse=>cases H
        rename_i b1;injection H with H;subst H
        have O:args= #[s,x]:=by rw[<-uF (xs:=args),a0]
        have ak:ai= #[t,t']:=by rw[<-uF (xs:=ai),aC]
        subst O;subst ak;have R: ∀y w',(Builtin.append_ #[t,t'] ty #[a.eval s,a.eval x]).run P w= .ok y w'->
          (execOp a.eval {dst,op:=.call ⟨.builtin .append, #[s,x], #[t,t']⟩,type:=ty,pos,after,guard}).run P w= .ok (.value y) w':=by
         intro y w' h;simp[execOp,resolve,invoke,builtin,h]
        obtain⟨v,us,G,E⟩:=C;simp only[kn,mq]at G;cases hp:iC env (jK fm x)with
        |v y=>
         rw[hp]at G;cases y with
         |string bO=>
          have F:=J x _ hp;simp only[xF]at G;split at G
          .rename_i o bA aJ;injection G with G;injection G with Z T;subst Z;subst T
           obtain⟨y,w',N,k2⟩:=Yre (ty:=ty) V ch hz rfl b1 I hn (ky X s) aJ;rw[<-F]at N;exact⟨y,_,_,w',.inl (R y w' N),E,k2⟩
          .cases G
         |_=>simp[xF]at G
        |_=>rw[hp]at G;simp[xF]at G
       .cases H
      .cases H
    .cases H
   case delete=>
    split at H<;>try(cases H;done)
    rename_i q m k hq a0;cases a5:jU P q.2.2 with
    |none=>rw[a5]at H;cases H
    |some n=>
    rw[a5]at H;injection H with H;subst H
    have O:args= #[m,k]:=by rw[<-uF (xs:=args),a0]
    subst O;obtain⟨t,h0,hq⟩: ∃t,ai[0]?=U t/\mw P t=U q:=by
     cases h0:ai[0]? with
     |none=>simp[h0]at hq
     |some t=>exact⟨t,rfl,by simpa[h0]using hq⟩
    refine xM C (λv us D=> ?_);obtain⟨b,kv,o,c,el,au,a6,ho,hm,E,rfl,a9⟩:=Yrz D;simp only[kn,mq]at a6;injection a6 with Z T;injection T with T _
    have aj:=ky X m;rw[Z]at aj;have aD:=J k _ T;obtain⟨r1,r2⟩:=Yrr (ty:=ty) I hq (n+2) ho hm aj E h0;have R: ∀w',(Builtin.delete_ ai ty #[a.eval m,kv]).run P w= .ok (.tuple #[]) w'->Gl P {dst,op:=.call ⟨.builtin .delete, #[m,k],ai⟩,type:=ty,pos,after,guard} a w (.tuple #[]) w':=by
     intro w' h;refine .inl ?_;simp[execOp,resolve,invoke,builtin,aD,h]
    rcases a9 with⟨p,r',hf,rfl⟩| ⟨hf,rfl⟩
    .obtain⟨w',N,k2,k3⟩:=r1 p r' hf;exact⟨_,w',R w' N,BW k2 k3 nid (.u _)⟩
    .obtain⟨w',N,k2,k3⟩:=r2 hf;exact⟨_,w',R w' N,BW k2 k3 nid (.u _)⟩
   case copy=>
    split at H<;>try(cases H;done)
    rename_i t t' d s aC a0;split at H<;>try(cases H;done)
    rename_i e e' V ct;cases a5:jU P e with
    |none=>rw[a5]at H;cases H
    |some n=>
     rw[a5]at H;injection H with H;subst H
     have O:args= #[d,s]:=by rw[<-uF (xs:=args),a0]
     have ak:ai= #[t,t']:=by rw[<-uF (xs:=ai),aC]
     subst O;subst ak;refine xM C (λv us D=> ?_);obtain⟨b,x,o,l,a6,ho,hl,a1,bL,az,h0,rfl,rfl⟩:=YrD D;simp only[kn,mq]at a6;injection a6 with Z T;injection T with T _
     have hd:=ky X d;rw[Z]at hd;have Q:=ky X s;rw[T]at Q;obtain⟨w',N,k2,k3⟩:=Yrw (t':=t') (ty:=ty) V a5 I ho h0 bL hd (V7 Q hl a1) az;exact⟨_,w',.inl (by simp[execOp,resolve,invoke,builtin,N]),BW k2 k3 nid (.v _)⟩
 case makeMap t r=>
  cases r with
  |some r=>cases H
  |none=>
   cases hq:mw P t with
   |none=>simp[hq]at H
   |some q=>
    cases a5:jU P q.2.2 with
    |none=>simp[hq,a5]at H
    |some n=>
    simp[hq,a5]at H;subst H;refine xM C (λv us D=> ?_);obtain⟨_,ci,rfl,rfl⟩:=Yrx D;exact⟨_,_,.inl (by simp[execOp,Instr.makeMap]),Yrp I hn ci _⟩
 case lookup t m k ok=>
  cases hq:mw P t with
  |none=>simp[hq]at H
  |some q=>
   cases hz:(P.info? q.2.2).bind (·.zero)with
   |none=>simp only[hq,hz,pK,Option.map_none]at H;cases H
   |some z=>
    simp only[hq,hz,pK,l_]at H;injection H with H;subst H
    refine xM C (λv us D=> ?_);obtain⟨b,kv,z',o,c,el,au,a6,ho,hm,a1,E,rfl,a9⟩:=Yry D;simp only[kn,mq]at a6;injection a6 with Z T;injection T with T e3;injection e3 with e3 _
    have aj:=ky X m;rw[Z]at aj;have aD:=J k _ T;obtain⟨r1,r2⟩:=Yrq (ok:=ok) I hq hz ho hm aj E a1;rcases a9 with⟨p,r,y,hf,hy,rfl⟩| ⟨hf,rfl⟩
    .obtain⟨y',N,k2⟩:=r1 p r y hf hy;exact⟨y',w,.inl (by simp[execOp,aD,N]),jb.same I k2⟩
    .obtain⟨y',N,k2⟩:=r2 hf;have:z'=EG z:=e3.symm;subst this;exact⟨y',w,.inl (by simp[execOp,aD,N]),jb.same I k2⟩
 case insert t m k x=>
  cases hq:mw P t with
  |none=>simp[hq]at H
  |some q=>
   cases a5:jU P q.2.2 with
   |none=>simp[hq,a5]at H
   |some n=>
   simp[hq,a5]at H;subst H;refine xM C (λv us D=> ?_);obtain⟨b,kv,y,o,c,el,au,r,a6,ho,hm,a1,E,rfl,aB,a9⟩:=Wv D;simp only[kn,mq]at a6;injection a6 with Z T;injection T with T e3;injection e3 with e3 _
   have aj:=ky X m;rw[Z]at aj;have aD:=J k _ T;have aI:=ky X x;rw[e3]at aI;obtain⟨r1,r2⟩:=Wq I hq (n+2) ho hm aj E a1 aI aB;rcases a9 with⟨p,r',hf,rfl⟩| ⟨hf,rfl⟩
   .obtain⟨w',N,k2,k3⟩:=r1 p r' hf;exact⟨undef,w',.inr ⟨by simp[execOp,aD,N],rfl⟩,BW k2 k3 nid (.u _)⟩
   .obtain⟨w',N,k2,k3⟩:=r2 hf;exact⟨undef,w',.inr ⟨by simp[execOp,aD,N],rfl⟩,BW k2 k3 nid (.u _)⟩
 case mapUpdate t m k x=>
  cases hq:mw P t with
  |none=>simp[hq]at H
  |some q=>
   cases a5:jU P q.2.2 with
   |none=>simp[hq,a5]at H
   |some n=>
   simp[hq,a5]at H;subst H;refine xM C (λv us D=> ?_);obtain⟨b,kv,y,o,c,el,au,r,a6,ho,hm,a1,E,rfl,aB,a9⟩:=Wv D;simp only[kn,mq]at a6;injection a6 with Z T;injection T with T e3;injection e3 with e3 _
   have aj:=ky X m;rw[Z]at aj;have aD:=J k _ T;have aI:=ky X x;rw[e3]at aI;obtain⟨r1,r2⟩:=Wq I hq (n+2) ho hm aj E a1 aI aB;rcases a9 with⟨p,r',hf,rfl⟩| ⟨hf,rfl⟩
   .obtain⟨w',N,k2,k3⟩:=r1 p r' hf;exact⟨undef,w',.inr ⟨by simp[execOp,aD,N],rfl⟩,BW k2 k3 nid (.u _)⟩
   .obtain⟨w',N,k2,k3⟩:=r2 hf;exact⟨undef,w',.inr ⟨by simp[execOp,aD,N],rfl⟩,BW k2 k3 nid (.u _)⟩
 case range t m=>
  cases hq:mw P t with
  |none=>simp[hq]at H
  |some q=>
   simp[hq]at H;subst H;refine xM C (λv us D=> ?_);obtain⟨b,o,c,el,au,a6,ho,hm,rfl,rfl⟩:=YrB D;simp only[kn,mq]at a6;injection a6 with Z _
   have aj:=ky X m;rw[Z]at aj;obtain⟨y,w',N,k2⟩:=Yrs I hn hq ho hm aj;exact⟨y,w',.inl (by simp[execOp,N]),k2⟩
 case next i st=>
  cases st with
  |true=>cases H
  |false=>
   injection H with H;subst H
   exact xM C (λv us D=>(YrE D).elim)
 case entry i=>
  injection H with H;subst H
  refine xM C (λv us D=> ?_);obtain⟨it,oi,m,s,t,bl,o,n,c,el,au,b,k,r,y,a6,Y,cj,ho,ck,hm,cl,hf,hy,rfl,rfl⟩:=YrC D;simp only[kn,mq]at a6;injection a6 with Z _
  have bT:=ky X i;rw[Z]at bT;obtain⟨y',N,k2⟩:=Yrt (P:=P) I Y cj bT ho ck hm cl hf hy;exact⟨y',w,.inl (by simp[execOp,N]),jb.same I k2⟩
 all_goals(cases H)
end
end Go.Abs
