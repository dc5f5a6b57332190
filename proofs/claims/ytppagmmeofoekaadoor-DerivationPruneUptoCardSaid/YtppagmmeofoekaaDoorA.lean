/- Abstract values and how real values, in a real world, stand to them: the first part of a layer of our own over the model. No condition; nothing of the program stands here. -/
import Derived.WalkKit
import Derived.Lib.AppendStr
import Derived.Laws.IdiomStrings
import Derived.Laws.Externs
import Derived.KernelRfl
import Derived.MapKept
import Derived.Maps.RangeRun
import Derived.Lib.LazyBuf
import Derived.Lib.MinMax
set_option linter.unusedVariables false
set_option linter.unusedSimpArgs false
set_option linter.unusedSectionVars false
open List renaming getElem?_eq_getElem → YwO, getElem?_eq_some_iff → YwP, mem_of_getElem? → YwQ, getElem?_map → YwR, map_cons → YwS, getElem?_append_left → YwU, getElem?_set_ne → YwV, mem_iff_getElem? → YwW, map_nil → YwX, length_map → YwY, length_eq_zero_iff → YwZ, getElem?_append_right → Yw0, all_eq_true → Yw1, mem_map → Yw3, getElem?_set_self → Yw4, getElem?_take → Yw8, append_assoc → Yw9, getElem_mem → Yxa, getElem?_range → Yxb, ext_getElem? → Yxc, nil_append → Yxd, cons_append → Yxg, getElem?_drop → Yxh, mem_append → Yxi, mem_cons_of_mem → Yxj, getElem?_replicate → Yxp
open Nat renaming beq → Yxr, le_refl → Yxs, eq_of_beq_eq_true → Yxt, blt → Yxu, ble → Yxv, lt_of_lt_of_le → Yxw, zero_add → Yxx, le_trans → Yxy, zero_le → Yxz, mul_le_mul_right → YxA, add_mul → YxB, le_of_ble_eq_true → YxC
open Option renaming map_eq_some_iff → YxE, map_some → YxF, bind_some → YxG, isSome_iff_exists → YxH, getD_some → YxI
open Bool renaming and_eq_true → YxL, or_eq_true → YxP
open Array renaming getD_eq_getD_getElem? → YxS, getElem?_eq_some_iff → YxT, toArray_toList → YxU, getElem?_eq_getElem → YxV
open ByteArray renaming mk → YxW
namespace Go.Abs
open Go
structure FM where
 f:Nat->Nat
 own:List (String×Nat):=[]
 dat:List (String×Nat):=[]
 mks:List String:=[]
 bt:TypeId:=0
 bu:TypeId:=0
 tb:List (Nat× (Array Value->Prop)):=[]
instance:CoeFun FM (fun _=>Nat->Nat):=⟨FM.f⟩
def TyAt(w:World)(g:Nat)(t:TypeId):Prop:= ∃cur fr,w.heap[g]?=some (.cells cur t fr)
inductive AV where
 |v (x:Value)
 |u
 |emp
 |rd (es:Nat) (l:List (List AV))
 |rp (cs:List AV)
 |ref (a off len:Nat)
 |ptr (a i j:Nat)
 |agg (cs:List AV)
 |tup (vs:List AV)
 |clo (f:Nat) (caps:List AV)
 |np (a:Nat)
 |er
 deriving Inhabited
inductive Loc where
 |fresh
 |dead
 |nil (b:Bool)
 |hid (g:Nat)
 |cells (g es cap:Nat)
 |mp (i:Bool) (g:Nat)
structure AObj where
 es:Nat
 el:List (List AV)
def wd:Nat->Nat
 |0=>1
 |n+1=>n+1
theorem Yay{n:Nat}(h:0<n):wd n=n:=by cases n with|zero=>omega|succ n=>rfl
theorem Ygf(n:Nat):0<wd n:=by cases n<;>simp[wd]
abbrev Heap:=List (Option AObj)
abbrev HF:=Nat->Option (Option AObj)
def hf(H:Heap):HF:=fun a=>H[a]?
def OwnC(L:Nat->Loc)(b:Nat):Prop:=(∃a es cap,L a= .cells b es cap)\/ ∃a i,L a= .mp i b
def YtW(L:Nat->Loc)(b:Nat):Prop:=OwnC L b\/ ∃a,L a= .hid b
inductive VR(fm:FM)(w:World)(L:Nat->Loc):Value->AV->Prop
 |v (x:Value):VR fm w L x (.v x)
 |u (x:Value):VR fm w L x .u
 |emp (A:Option Addr):VR fm w L (.slice A 0 0) .emp
 |rd0 (A:Option Addr) (es c:Nat):VR fm w L (.slice A 0 c) (.rd es [])
 |rd (b o c es:Nat) (l:List (List AV)) (vals:Nat->Nat->Value)
  (hne:l≠ []) (hes: ∀e∈l,e.length=es) (hes0:0<es) (hlc:l.length<=c) (hb: ¬YtW L b) (hbs:b<w.heap.size)
  (hc: ∀i e j x,l[i]?=some e->e[j]?=some x->w.cell? ⟨b,o+i*es+j,none⟩=some (vals i j))
  (h1: ∀i e j x,l[i]?=some e->e[j]?=some x->(vals i j).oneCell'=true)
  (hr: ∀i e j x,l[i]?=some e->e[j]?=some x->VR fm w L (vals i j) x):
  VR fm w L (.slice (some ⟨b,o,none⟩) l.length c) (.rd es l)
 |rp (b o:Nat) (cs:List AV) (vals:Nat->Value) (hb: ¬YtW L b) (hbs:b<w.heap.size)
  (hc: ∀j x,cs[j]?=some x->w.cell? ⟨b,o+j,none⟩=some (vals j))
  (h1: ∀j x,cs[j]?=some x->(vals j).oneCell'=true)
  (hr: ∀j x,cs[j]?=some x->VR fm w L (vals j) x):
  VR fm w L (.pointer (some ⟨b,o,none⟩)) (.rp cs)
 |refAt (g es cap a off len:Nat) (h:L a= .cells g es cap) (hl:off+len<=cap):
  VR fm w L (.slice (some ⟨g,off*es,none⟩) len (cap-off)) (.ref a off len)
 |refNil (A:Option Addr) (a:Nat) (b:Bool) (h:L a= .nil b) (hA:b=true->A=none):VR fm w L (.slice A 0 0) (.ref a 0 0)
 |refDead (A:Option Addr) (c a off len:Nat) (h:L a= .dead) (hl:len<=c):VR fm w L (.slice A len c) (.ref a off len)
 |ptrAt (g es cap a i j:Nat) (h:L a= .cells g es cap):VR fm w L (.pointer (some ⟨g,i*es+j,none⟩)) (.ptr a i j)
 |ptrDead (ad:Addr) (a i j:Nat) (h:L a= .dead):VR fm w L (.pointer (some ad)) (.ptr a i j)
 |npAt (g a:Nat) (v:Value) (h:L a= .cells g 2 1) (ht:TyAt w g fm.bt) (hv:v= .pointer none\/v= .pointer (some ⟨g,0,none⟩)):VR fm w L v (.np a)
 |npDead (p:Option Addr) (a:Nat) (h:L a= .dead):VR fm w L (.pointer p) (.np a)
 |mpAt (g a:Nat) (h:L a= .mp false g):VR fm w L (.map (some g)) (.np a)
 |itAt (g a:Nat) (h:L a= .mp true g):VR fm w L (.pointer (some ⟨g,0,none⟩)) (.np a)
 |mpDead (p:Option Nat) (a:Nat) (h:L a= .dead):VR fm w L (.map p) (.np a)
 |agg (xs:Array Value) (cs:List AV) (hs:xs.size=cs.length)
  (h1: ∀j a,cs[j]?=some a->(xs.getD j undef).oneCell'=true)
  (h: ∀j a,cs[j]?=some a->VR fm w L (xs.getD j undef) a):VR fm w L (.agg xs) (.agg cs)
 |tup (xs:Array Value) (cs:List AV) (hs:xs.size=cs.length)
  (h: ∀j a,cs[j]?=some a->VR fm w L (xs.getD j undef) a):VR fm w L (.tuple xs) (.tup cs)
 |clo (f:Nat) (xs:Array Value) (cs:List AV) (hs:xs.size=cs.length)
  (h: ∀j a,cs[j]?=some a->VR fm w L (xs.getD j undef) a):VR fm w L (.func (.func f) #[] xs) (.clo (fm f) cs)
 |er (t:TypeId) (p:Value):VR fm w L (.iface t p) .er
def MV(fm:FM)(w:World)(L:Nat->Loc)(kd:Nat)(v:Value)(r:List AV):Prop:=
 (kd=1/\ ∃a,r=[a]/\v.oneCell'=true/\VR fm w L v a)\/(kd=2/\ ∃xs,v= .agg xs/\VR fm w L (.agg xs) (.agg r))
structure MR(fm:FM)(w:World)(L:Nat->Loc)(kd:Nat)(es:Array MapEntry)(el:List (List AV)):Prop where
 len:es.size=el.length
 row: ∀(i:Nat) (e:List AV),el[i]?=some e-> ∃(m:MapEntry) (b k:AV) (r:List AV),es[i]?=some m/\e=b::k::r/\VR fm w L (.int .i64 (m.born:Int)) b/\VR fm w L m.key k/\MV fm w L kd m.val r
def Asc(es:Array MapEntry)(clock:Nat):Prop:=
 (∀(i:Nat) (e:MapEntry),es[i]?=some e->e.born<clock)/\ (∀(i j:Nat) (e f:MapEntry),i<j->es[i]?=some e->es[j]?=some f->e.born<f.born)
def Ywf(fm:FM)(w:World)(L:Nat->Loc)(seen:Array Nat)(bl:List (List AV)):Prop:=
 seen.size=bl.length/\ ∀(i:Nat) (e:List AV),bl[i]?=some e-> ∃(n:Nat) (b:AV),seen[i]?=some n/\e=[b]/\VR fm w L (.int .i64 (n:Int)) b
def ObjR(fm:FM)(w:World)(L:Nat->Loc)(loc:Loc)(o:AObj):Prop:=
 match loc with
 | .nil b=>o.el=[]/\ (o.es=0->b=true)
 | .cells g es cap=>es=wd o.es/\0<es/\o.el.length<=cap/\cap<=maxLen/\ (∀e∈o.el,e.length=es)/\
   ∃cur ty,w.heap[g]?=some (.cells cur ty (0,0))/\cur.size=cap*es/\
    ∀i e j x,o.el[i]?=some e->e[j]?=some x->
     (cur.getD (i*es+j) undef).oneCell'=true/\VR fm w L (cur.getD (i*es+j) undef) x
 | .mp false g=>(o.es=3\/o.es=4)/\ ∃es clock c0 R tags,w.heap[g]?=some (.map es clock)/\o.el=[c0::R::tags]/\VR fm w L (.int .i64 ((clock:Nat):Int)) c0/\
   (∀t∈tags,VR fm w L (.bool false) t)/\Asc es clock/\ (R= .u\/ ∃wd el,R= .rd wd el/\MR fm w L (o.es-2) es el)
 | .mp true g=>o.es=5/\ ∃a0 s t S tag g' since seen stepped,w.heap[g]?=some (.mapIter (some g') since seen stepped)/\
   o.el=[[a0,s,t,S,tag]]/\VR fm w L (.map (some g')) a0/\VR fm w L (.int .i64 ((since:Nat):Int)) s/\VR fm w L (.int .i64 ((stepped:Nat):Int)) t/\VR fm w L (.bool false) tag/\
   (S= .u\/ ∃wd bl,S= .rd wd bl/\Ywf fm w L seen bl)
 |_=>False
def TabF(fm:FM)(w:World)(L:Nat->Loc):Prop:= ∀p∈fm.tb,¬OwnC L p.1/\ ∃c t f,p.2 c/\w.heap[p.1]?=some (.cells c t f)
structure HR(fm:FM)(w:World)(L:Nat->Loc)(H:HF):Prop where
 obj: ∀a o,H a=some (some o)->ObjR fm w L (L a) o
 live: ∀a,(∃g es cap,L a= .cells g es cap)\/(∃b,L a= .nil b)-> ∃o,H a=some (some o)
 fresh: ∀a,L a= .fresh↔H a=none
 inj: ∀a b g e c e' c',L a= .cells g e c->L b= .cells g e' c'->a=b
 hid: ∀a g,L a= .hid g->g<w.heap.size/\ ¬OwnC L g
 byt: ∀a o g es cap,H a=some (some o)->o.es=0->L a= .cells g es cap->TyAt w g fm.bu
 mps: ∀a i g,L a= .mp i g->(∃o,H a=some (some o))/\ ∀b j,L b= .mp j g->a=b
 tab:TabF fm w L
structure Keep(L:Nat->Loc)(w w':World):Prop where
 os:w'.os=w.os
 tape:w'.tape=w.tape
 output:w'.output=w.output
 size:w.heap.size<=w'.heap.size
 blk: ∀b,b<w.heap.size-> ¬OwnC L b->w'.heap[b]?=w.heap[b]?
 typ: ∀b t,TyAt w b t->TyAt w' b t
structure LStep(L L':Nat->Loc)(n:Nat):Prop where
 old: ∀a,L a≠ .fresh->L' a=L a\/(L' a= .dead/\ ∀g,L a≠ .hid g)
 own: ∀b,YtW L' b->YtW L b\/n<=b
 ownc: ∀b,OwnC L' b->OwnC L b\/n<=b
theorem TyAt.of{w w':World}{b:Nat}{t:TypeId}(h:w'.heap[b]?=w.heap[b]?)(k:TyAt w b t):TyAt w' b t:=by
 obtain⟨c,f,k⟩:=k;exact⟨c,f,h.trans k⟩
theorem TyAt.lt{w:World}{b:Nat}{t:TypeId}(k:TyAt w b t):b<w.heap.size:=by
 obtain⟨c,f,k⟩:=k;exact(YxT.1 k).1
theorem Keep.refl(L:Nat->Loc)(w:World):Keep L w w:=⟨rfl,rfl,rfl,Yxs _,fun _ _ _=>rfl,fun _ _ h=>h⟩
theorem TabF.mono{fm:FM}{w w':World}{L L':Nat->Loc}(h:TabF fm w L)(hk:Keep L w w')(ho: ∀b,OwnC L' b->OwnC L b\/w.heap.size<=b):TabF fm w' L':=fun p hp=>by
 obtain⟨h1,c,t,f,h3,h2⟩:=h p hp
 have hs:=(YxT.1 h2).1
 exact⟨fun h=>(ho _ h).elim h1 (fun h=>by omega),c,t,f,h3,(hk.blk _ hs h1).trans h2⟩
theorem TabF.loc{fm:FM}{w:World}{L L':Nat->Loc}(h:TabF fm w L)(ho: ∀b,b<w.heap.size->OwnC L' b->OwnC L b):TabF fm w L':=fun p hp=>by
 obtain⟨h1,c,t,f,h3,h2⟩:=h p hp
 exact⟨fun h=>h1 (ho _ (YxT.1 h2).1 h),c,t,f,h3,h2⟩
theorem LStep.refl(L:Nat->Loc)(n:Nat):LStep L L n:=⟨fun _ _=>.inl rfl,fun _ h=>.inl h,fun _ h=>.inl h⟩
theorem LStep.mono{L L':Nat->Loc}{n m:Nat}(h:LStep L L' n)(hm:m<=n):LStep L L' m:=
 ⟨h.old,fun b hb=>(h.own b hb).imp id (fun h=>Yxy hm h),fun b hb=>(h.ownc b hb).imp id (fun h=>Yxy hm h)⟩
theorem LStep.trans{A B C:Nat->Loc}{n:Nat}(h:LStep A B n)(k:LStep B C n):LStep A C n:=by
 refine⟨fun a ha=> ?_,fun b hb=> ?_,fun b hb=> ?_⟩
 ·rcases h.old a ha with e| ⟨e,hg⟩
  ·rcases k.old a (by rw[e];exact ha)with e'| ⟨e',hg⟩
   ·exact .inl (e'.trans e)
   ·exact .inr ⟨e',fun g=>by rw[<-e];exact hg g⟩
  ·rcases k.old a (by rw[e];exact fun h=>by cases h)with e'| ⟨e',_⟩
   ·exact .inr ⟨e'.trans e,hg⟩
   ·exact .inr ⟨e',hg⟩
 ·rcases k.own b hb with hb|hb
  ·exact h.own b hb
  ·exact .inr hb
 ·rcases k.ownc b hb with hb|hb
  ·exact h.ownc b hb
  ·exact .inr hb
theorem Keep.trans{L L':Nat->Loc}{a b c:World}(h:Keep L a b)(hs:LStep L L' a.heap.size)(k:Keep L' b c):Keep L a c:=by
 refine⟨k.os.trans h.os,k.tape.trans h.tape,k.output.trans h.output,Yxy h.size k.size,fun i hi ho=> ?_,fun b t ht=>k.typ b t (h.typ b t ht)⟩
 rw[k.blk i (Yxw hi h.size) (fun hc=> ?_),h.blk i hi ho]
 rcases hs.ownc i hc with hc|hc
 ·exact ho hc
 ·omega
theorem Keep.cell{L:Nat->Loc}{w w':World}(h:Keep L w w'){p:Addr}(hp:p.block<w.heap.size)(ho: ¬YtW L p.block):
  w'.cell? p=w.cell? p:=World.cell?_of_block (h.blk p.block hp (fun hc=>ho (.inl hc)))
theorem LStep.notOwned{L L':Nat->Loc}{n b:Nat}(h:LStep L L' n)(hb: ¬YtW L b)(hn:b<n): ¬YtW L' b:=fun hc=>by
 rcases h.own b hc with h|h
 ·exact hb h
 ·omega
theorem VR.mono{fm:FM}{w w':World}{L L':Nat->Loc}(hk:Keep L w w')(hs:LStep L L' w.heap.size){x:Value}{a:AV}(h:VR fm w L x a):
  VR fm w' L' x a:=by
 induction h with
 |v x=>exact .v x
 |u x=>exact .u x
 |emp A=>exact .emp A
 |rd0 A es c=>exact .rd0 A es c
 |rd b o c es l vals hne hes hes0 hlc hb hbs hc h1 hr ih=>
  exact .rd b o c es l vals hne hes hes0 hlc (hs.notOwned hb hbs) (Yxw hbs hk.size)
   (fun i e j x he hx=>by rw[hk.cell (p:=⟨b,_,none⟩) hbs hb];exact hc i e j x he hx) h1 ih
 |rp b o cs vals hb hbs hc h1 hr ih=>
  exact .rp b o cs vals (hs.notOwned hb hbs) (Yxw hbs hk.size)
   (fun j x hx=>by rw[hk.cell (p:=⟨b,_,none⟩) hbs hb];exact hc j x hx) h1 ih
 |refAt g es cap a off len h hl=>
  rcases hs.old a (by rw[h];exact fun h=>by cases h)with e| ⟨e,_⟩
  ·exact .refAt g es cap a off len (e.trans h) hl
  ·exact .refDead _ _ a off len e (by omega)
 |refNil A a b h hA=>
  rcases hs.old a (by rw[h];exact fun h=>by cases h)with e| ⟨e,_⟩
  ·exact .refNil A a b (e.trans h) hA
  ·exact .refDead _ _ a 0 0 e (Yxs _)
 |refDead A c a off len h hl=>
  rcases hs.old a (by rw[h];exact fun h=>by cases h)with e| ⟨e,_⟩
  ·exact .refDead _ _ a off len (e.trans h) hl
  ·exact .refDead _ _ a off len e hl
 |ptrAt g es cap a i j h=>
  rcases hs.old a (by rw[h];exact fun h=>by cases h)with e| ⟨e,_⟩
  ·exact .ptrAt g es cap a i j (e.trans h)
  ·exact .ptrDead _ a i j e
 |ptrDead ad a i j h=>
  rcases hs.old a (by rw[h];exact fun h=>by cases h)with e| ⟨e,_⟩
  ·exact .ptrDead _ a i j (e.trans h)
  ·exact .ptrDead _ a i j e
 |npAt g a v h ht hv=>
  rcases hs.old a (by rw[h];exact fun h=>by cases h)with e| ⟨e,_⟩
  ·exact .npAt g a v (e.trans h) (hk.typ _ _ ht) hv
  ·rcases hv with rfl|rfl
   ·exact .npDead _ a e
   ·exact .npDead _ a e
 |npDead p a h=>
  rcases hs.old a (by rw[h];exact fun h=>by cases h)with e| ⟨e,_⟩
  ·exact .npDead p a (e.trans h)
  ·exact .npDead p a e
 |mpAt g a h=>
  rcases hs.old a (by rw[h];exact fun h=>by cases h)with e| ⟨e,_⟩
  ·exact .mpAt g a (e.trans h)
  ·exact .mpDead _ a e
 |itAt g a h=>
  rcases hs.old a (by rw[h];exact fun h=>by cases h)with e| ⟨e,_⟩
  ·exact .itAt g a (e.trans h)
  ·exact .npDead _ a e
 |mpDead p a h=>
  rcases hs.old a (by rw[h];exact fun h=>by cases h)with e| ⟨e,_⟩
  ·exact .mpDead p a (e.trans h)
  ·exact .mpDead p a e
 |agg xs cs hs1 h1 h ih=>exact .agg xs cs hs1 h1 ih
 |tup xs cs hs1 h ih=>exact .tup xs cs hs1 ih
 |clo f xs cs hs1 h ih=>exact .clo f xs cs hs1 ih
 |er t p=>exact .er t p
theorem MV.mono{fm:FM}{w w':World}{L L':Nat->Loc}(hk:Keep L w w')(hs:LStep L L' w.heap.size){kd:Nat}{v:Value}{r:List AV}(h:MV fm w L kd v r):MV fm w' L' kd v r:=by
 rcases h with⟨h0,a,h1,h2,h3⟩| ⟨h0,xs,h1,h2⟩
 ·exact .inl ⟨h0,a,h1,h2,h3.mono hk hs⟩
 ·exact .inr ⟨h0,xs,h1,h2.mono hk hs⟩
theorem MR.mono{fm:FM}{w w':World}{L L':Nat->Loc}(hk:Keep L w w')(hs:LStep L L' w.heap.size){kd:Nat}{es:Array MapEntry}{el:List (List AV)}(h:MR fm w L kd es el):MR fm w' L' kd es el:=
 ⟨h.len,fun i e hi=>by
  obtain⟨m,b,k,r,h1,h2,h3,h4,h5⟩:=h.row i e hi
  exact⟨m,b,k,r,h1,h2,h3.mono hk hs,h4.mono hk hs,h5.mono hk hs⟩⟩
theorem HR.mpb{fm:FM}{w:World}{L:Nat->Loc}{H:HF}(h:HR fm w L H){a g:Nat}{i:Bool}(ha:L a= .mp i g): ∃ob,w.heap[g]?=some ob/\ ∀c t f,ob≠ .cells c t f:=by
 obtain⟨⟨o,ho⟩,_⟩:=h.mps a i g ha
 have:=h.obj a o ho
 rw[ha]at this
 cases i with
 |false=>
  obtain⟨_,es,clock,c0,R,tags,hg,_⟩:=this
  exact⟨_,hg,fun c t f e=>by cases e⟩
 |true=>
  obtain⟨_,a0,s,t,S,tag,g',since,seen,stepped,hg,_⟩:=this
  exact⟨_,hg,fun c t f e=>by cases e⟩
theorem HR.mpl{fm:FM}{w:World}{L:Nat->Loc}{H:HF}(h:HR fm w L H){a g:Nat}{i:Bool}(ha:L a= .mp i g):g<w.heap.size:=by
 obtain⟨_,hg,_⟩:=h.mpb ha
 exact(YxT.1 hg).1
theorem YaW{fm:FM}{w w':World}{L L':Nat->Loc}{i:Bool}{g:Nat}{o:AObj}(h:ObjR fm w L (.mp i g) o)(hk:Keep L w w')(hs:LStep L L' w.heap.size)
  (hg: ∀ob,w.heap[g]?=some ob->w'.heap[g]?=some ob):ObjR fm w' L' (.mp i g) o:=by
 cases i with
 |false=>
  obtain⟨h0,es,clock,c0,R,tags,h1,h2,h3,h4,h5,h6⟩:=h
  exact⟨h0,es,clock,c0,R,tags,hg _ h1,h2,h3.mono hk hs,fun t ht=>(h4 t ht).mono hk hs,h5,h6.imp id (fun⟨wd,el,e,hm⟩=>⟨wd,el,e,hm.mono hk hs⟩)⟩
 |true=>
  obtain⟨h0,a0,s,t,S,tag,g',since,seen,stepped,h1,h2,h3,h4,h5,h6,h7⟩:=h
  exact⟨h0,a0,s,t,S,tag,g',since,seen,stepped,hg _ h1,h2,h3.mono hk hs,h4.mono hk hs,h5.mono hk hs,h6.mono hk hs,h7.imp id (fun⟨wd,bl,e,hm⟩=>⟨wd,bl,e,hm.1,fun i e hi=>by
   obtain⟨n,b,k1,k2,k3⟩:=hm.2 i e hi
   exact⟨n,b,k1,k2,k3.mono hk hs⟩⟩)⟩
theorem HR.mono{fm:FM}{w w':World}{L:Nat->Loc}{H:HF}(h:HR fm w L H)(hk:Keep L w w')
  (ho: ∀b,b<w.heap.size->OwnC L b->w'.heap[b]?=w.heap[b]?):HR fm w' L H:=by
 refine⟨fun a o hao=> ?_,h.live,h.fresh,h.inj,fun a g hg=>⟨Yxw (h.hid a g hg).1 hk.size,(h.hid a g hg).2⟩,fun a o g es cap h1 h2 h3=>hk.typ _ _ (h.byt a o g es cap h1 h2 h3),h.mps,h.tab.mono hk fun _ h=>.inl h⟩
 have hobj:=h.obj a o hao
 revert hobj
 cases hL:L a with
 |fresh=>exact id
 |dead=>exact id
 |nil=>exact id
 |hid g=>exact id
 |cells g es cap=>
  rintro⟨h0,h1,h2,h3,h4,cur,ty,h5,h6,h7⟩
  refine⟨h0,h1,h2,h3,h4,cur,ty,?_,h6,fun i e j x hi hj=> ?_⟩
  ·rw[ho g ?_ (.inl ⟨a,es,cap,hL⟩)]
   ·exact h5
   ·exact(YxT.1 h5).1
  ·obtain⟨p,q⟩:=h7 i e j x hi hj
   exact⟨p,q.mono hk (LStep.refl _ _)⟩
 |mp i g=>
  intro hm
  exact YaW hm hk (LStep.refl _ _) (fun ob h1=>by rw[ho g (YxT.1 h1).1 (.inr ⟨a,i,hL⟩)];exact h1)
end Go.Abs
namespace Go.Abs
open Go
abbrev Env:=List (Nat×AV)
def zc:Value->AV
 | .slice none 0 0=>.emp
 |v=>.v v
inductive Opd where
 |t (n:Nat)
 |c (v:AV)
 deriving Inhabited
inductive POp where
 |mm (mx:Bool)
 |isn (ng:Bool)
 |isp (ng:Bool)
 |isi (ng:Bool)
 |emz
 |sbyt
 |add64
 |sub64
 deriving Inhabited
inductive XOp where
 |lit (es:Nat)
 |appD (es:Nat)
 |apps
 |bstr
 |bld
 |appb
 |appDb
 |litb
 |mkm (kd wd:Nat)
 |mget (ks:Bool) (kd:Nat) (ok:Bool)
 |mput (ks:Bool) (kd wd:Nat)
 |mdel (ks:Bool) (wd:Nat)
 |mlen
 |mrng
 |ment
 |mnxt
 |cpy (es:Nat)
 deriving Inhabited,DecidableEq
def XOp.eff:XOp->Bool
 | .appD _| .apps| .appb| .appDb| .mput _ _ _| .mdel _ _| .cpy _| .mnxt=>true
 |_=>false
def XOp.deep:XOp->Bool
 | .ment| .mnxt=>true
 |_=>false
def XOp.news:XOp->Bool
 | .lit _| .appD _| .apps| .bld| .appb| .appDb| .litb| .mkm _ _| .mrng=>true
 |_=>false
def XOp.look:XOp->Nat
 | .appD _| .apps| .bstr| .appb| .appDb| .mget _ _ _| .mput _ _ _| .mdel _ _| .mlen| .mrng| .ment| .mnxt| .cpy _=>1
 |_=>0
inductive AOp where
 |pv (op:POp) (xs:List Opd)
 |mv (x:Opd)
 |pick (c a b:Opd)
 |box (x:Opd)
 |alloc (z:List Value)
 |build (z:List Value) (parts:List (Nat×Nat×Opd))
 |bsl (es:Nat) (z:List Value) (len:Nat) (parts:List (Nat×Opd))
 |load (agg:Bool) (n:Nat) (x:Opd)
 |loadR (agg:Bool) (n:Nat) (x:Opd)
 |store (n:Nat) (x y:Opd)
 |nilc (x:Opd)
 |bin (op:BinOp) (x y:Opd)
 |beq (neg:Bool) (x y:Opd)
 |eqa (neg:Bool) (ks:List Nat) (x y:Opd)
 |not (x:Opd)
 |neg (x:Opd)
 |conv (k:IntKind) (x:Opd)
 |cvs (x:Opd)
 |fad (off:Nat) (x:Opd)
 |fld (agg:Bool) (off n:Nat) (x:Opd)
 |iad (es:Nat) (x i:Opd)
 |iada (es len:Nat) (x i:Opd)
 |idx (x i:Opd)
 |slcS (x:Opd) (lo hi:Option Opd)
 |slcR (es:Nat) (x:Opd) (lo hi:Option Opd)
 |ext (x:Opd) (i:Nat)
 |len (x:Opd)
 |lenS (x:Opd)
 |app (es:Nat) (s x:Opd)
 |mksl (es:Nat) (z:List Value) (n c:Opd)
 |call (f:Nat) (args:List Opd)
 |dyn (x:Opd) (args:List Opd)
 |dynP (x:Opd) (args:List Opd)
 |callN (f:Nat) (args:List Opd) (d:Bool)
 |mkf (f:Nat) (caps:List Opd)
 |px (op:XOp) (xs:List Opd)
 deriving Inhabited
structure AI where
 dst:Option Nat
 op:AOp
 guard:Option (Nat×Bool)
 old:Bool:=false
 nw:Bool:=false
 deriving Inhabited
inductive ACode where
 |skip
 |reg (ops:List AI)
 |seq (a b:ACode)
 |cond (c:Opd) (a b:ACode)
 |blk (id:Nat) (b:ACode)
 |loop (b:ACode)
 |exit (id:Nat)
 |ret
 |bad
 deriving Inhabited
structure ASt where
 env:Env
 heap:Heap
 base:Nat
abbrev Yt0:=List AV->Heap->AV->Heap->Prop
structure Ctx where
 C:Nat->Yt0
 pf:Nat->Bool
def YtM:Env->Nat->AV
 | [],_=>.u
 | (n,v)::r,t=>bif n==t then v else YtM r t
def opd(env:Env):Opd->AV
 | .t n=>YtM env n
 | .c v=>v
def opK(env:Env)(x:Opd)(K:AV->Prop):Prop:=K (opd env x)
def bsp(b:Bool)(A B:Prop):Prop:=(b=true->A)/\ (b=false->B)
def cellsOf:AV->Option (List AV)
 | .agg cs=>some cs
 | .tup _=>none
 | .u=>none
 | .v x=>if x.oneCell' then some [.v x]else none
 |a=>some [a]
def YuJ(a:AV)(K:List AV->Prop):Prop:= ∃cs,cellsOf a=some cs/\K cs
def Yv7(a:AV)(K:Bool->Prop)(S:Prop):Prop:=(∃b,a= .v (.bool b)/\K b)\/(a= .v undef/\S)
def YvC(a:AV)(K:Bool->Prop):Prop:= ∃b,a= .v (.bool b)/\K b
def intK(a:AV)(K:Int->Prop):Prop:= ∃k n,a= .v (.int k n)/\K n
def strK(a:AV)(K:ByteArray->Prop):Prop:= ∃s,a= .v (.string s)/\K s
def Yul(agg:Bool)(n:Nat)(cs:List AV)(K:AV->Prop):Prop:=
 match agg with
 |true=>n<=cs.length/\K (.agg (cs.take n))
 |false=> ∃c,cs[0]?=some c/\K c
def objK(H:HF)(a:Nat)(K:AObj->Prop):Prop:= ∃o,H a=some (some o)/\K o
inductive Upd where
 |set (a:Nat) (o:Option AObj)
 |push (o:Option AObj)
def YuY(H:Heap):Upd->Heap
 | .set a o=>H.set a o
 | .push o=>H++[o]
def Yt1:Heap->List Upd->Heap
 |H,[]=>H
 |H,u::r=>Yt1 (YuY H u) r
def splice(l:List AV)(j:Nat)(cs:List AV):List AV:=l.take j++cs++l.drop (j+cs.length)
def Yvb(l:List AV)(env:Env):List (Nat×Nat×Opd)->(List AV->Prop)->Prop
 | [],K=>K l
 | (off,n,x)::r,K=>opK env x fun a=>YuJ a fun cs=>cs.length=n/\off+n<=l.length/\Yvb (splice l off cs) env r K
def Yup(es:Nat)(l:List (List AV))(env:Env):List (Nat×Opd)->(List (List AV)->Prop)->Prop
 | [],K=>K l
 | (i,x)::r,K=>opK env x fun a=>YuJ a fun cs=>cs.length=es/\i<l.length/\Yup es (l.set i cs) env r K
def YuZ(op:BinOp)(k:IntKind)(x y:Int)(K:Value->Prop):Prop:=
 match op with
 | .add=>K (.int k (k.wrap (x+y)))
 | .sub=>K (.int k (k.wrap (x-y)))
 | .mul=>K (.int k (k.wrap (x*y)))
 | .quo=>y≠0/\K (.int k (k.wrap (x.tdiv y)))
 | .rem=>y≠0/\K (.int k (x.tmod y))
 | .and=>K (.int k (bits .and k x y))
 | .or=>K (.int k (bits .or k x y))
 | .xor=>K (.int k (bits .xor k x y))
 | .andNot=>K (.int k (bits .andNot k x y))
 | .shl=>0<=y/\K (.int k (k.wrap (x*2^(min y.toNat k.bits))))
 | .shr=>0<=y/\K (.int k (x.fdiv (2^(min y.toNat k.bits))))
 | .eql=>K (.bool (x==y))
 | .neq=>K (.bool (x !=y))
 | .lss=>K (.bool (decide (x<y)))
 | .leq=>K (.bool (decide (x<=y)))
 | .gtr=>K (.bool (decide (x>y)))
 | .geq=>K (.bool (decide (x>=y)))
def YuK(op:BinOp)(x y:ByteArray)(K:Value->Prop):Prop:=
 match op with
 | .add=>((x.size+y.size:Nat):Int)<=9223372036854775807/\K (.string (x++y))
 | .eql=>K (.bool (x.toList==y.toList))
 | .neq=>K (.bool (!(x.toList==y.toList)))
 | .lss=>K (.bool (Op.bytesLess x.toList y.toList))
 | .leq=>K (.bool (Op.bytesLess x.toList y.toList||x.toList==y.toList))
 | .gtr=>K (.bool (!(Op.bytesLess x.toList y.toList||x.toList==y.toList)))
 | .geq=>K (.bool (!Op.bytesLess x.toList y.toList))
 |_=>False
def binK(op:BinOp)(a b:AV)(K:Value->Prop):Prop:=
 match a,b with
 | .v (.int k x),.v (.int k' y)=>(k=k'\/op= .shl\/op= .shr)/\YuZ op k x y K
 | .v (.string x),.v (.string y)=>YuK op x y K
 |_,_=>False
def eqAV:Nat->AV->AV->Option Bool
 |0,.v (.bool a),.v (.bool b)=>some (a==b)
 |1,.v (.int k a),.v (.int k' b)=>if k=k' then some (a==b)else none
 |2,.v (.string a),.v (.string b)=>some (a.toList==b.toList)
 |_,_,_=>none
def eqL:List Nat->List AV->List AV->Option Bool
 | [],[],[]=>some true
 |k::ks,a::as,b::bs=>match eqAV k a b,eqL ks as bs with
  |some x,some y=>some (x&&y)
  |_,_=>none
 |_,_,_=>none
inductive Coe:AV->AV->Prop
 |refl (a:AV):Coe a a
 |empRd (es:Nat):Coe .emp (.rd es [])
 |rd (es:Nat) (l l':List (List AV)) (hl:l.length=l'.length) (hz: ∀(i:Nat) (e e':List AV),l[i]?=some e->l'[i]?=some e'->e.length=e'.length)
  (h: ∀(i:Nat) (e e':List AV) (j:Nat) (x x':AV),l[i]?=some e->l'[i]?=some e'->e[j]?=some x->e'[j]?=some x'->Coe x x'):Coe (.rd es l) (.rd es l')
 |rp (cs cs':List AV) (hl:cs.length=cs'.length) (h: ∀(j:Nat) (x x':AV),cs[j]?=some x->cs'[j]?=some x'->Coe x x'):Coe (.rp cs) (.rp cs')
 |agg (cs cs':List AV) (hl:cs.length=cs'.length) (h: ∀(j:Nat) (x x':AV),cs[j]?=some x->cs'[j]?=some x'->Coe x x'):Coe (.agg cs) (.agg cs')
 |tup (cs cs':List AV) (hl:cs.length=cs'.length) (h: ∀(j:Nat) (x x':AV),cs[j]?=some x->cs'[j]?=some x'->Coe x x'):Coe (.tup cs) (.tup cs')
 |clo (f:Nat) (cs cs':List AV) (hl:cs.length=cs'.length) (h: ∀(j:Nat) (x x':AV),cs[j]?=some x->cs'[j]?=some x'->Coe x x'):Coe (.clo f cs) (.clo f cs')
def All2(R:AV->AV->Prop):List AV->List AV->Prop
 | [],[]=>True
 |a::as,b::bs=>R a b/\All2 R as bs
 |_,_=>False
def Bor1(H:HF)(a b:AV):Prop:=
 a=b\/ ∃i off len o,a= .ref i off len/\H i=some (some o)/\off+len<=o.el.length/\b= .rd (wd o.es) ((o.el.drop off).take len)
def Bor(H:HF)(a b:AV):Prop:=
 Bor1 H a b\/ ∃cs ds,a= .agg cs/\b= .agg ds/\All2 (Bor1 H) cs ds
inductive NR:AV->Prop
 |v (x:Value):NR (.v x)
 |u:NR .u
 |emp:NR .emp
 |rd (es:Nat) (l:List (List AV)) (h: ∀e∈l,∀x∈e,NR x):NR (.rd es l)
 |rp (cs:List AV) (h: ∀x∈cs,NR x):NR (.rp cs)
 |agg (cs:List AV) (h: ∀x∈cs,NR x):NR (.agg cs)
 |tup (cs:List AV) (h: ∀x∈cs,NR x):NR (.tup cs)
 |clo (f:Nat) (cs:List AV) (h: ∀x∈cs,NR x):NR (.clo f cs)
 |er:NR .er
inductive Scal:AV->Prop
 |v (x:Value):Scal (.v x)
 |tup (l:List AV) (h: ∀a∈l,∃x,a= .v x):Scal (.tup l)
def FgC(c c':AV):Prop:=c'=c\/c'= .u
def FgR(e e':List AV):Prop:=e.length=e'.length/\ ∀(j:Nat) (x x':AV),e[j]?=some x->e'[j]?=some x'->FgC x x'
def FgA(c c':AV):Prop:=FgC c c'\/ ∃es l l',c= .rd es l/\c'= .rd es l'/\l.length=l'.length/\ ∀(i:Nat) (e e':List AV),l[i]?=some e->l'[i]?=some e'->FgR e e'
def FgO(o o':AObj):Prop:=o'.es=o.es/\o.el.length=o'.el.length/\ ∀(i:Nat) (e e':List AV),o.el[i]?=some e->o'.el[i]?=some e'->e.length=e'.length/\ ∀(j:Nat) (x x':AV),e[j]?=some x->e'[j]?=some x'->FgA x x'
def YvD(H H1:Heap):Prop:=H1.length=H.length/\ ∀a:Nat,H1[a]?=H[a]?\/ ∃o o1,H[a]?=some (some o)/\H1[a]?=some (some o1)/\FgO o o1
def Yvc(C:Ctx)(f:Nat)(args:List AV)(H:Heap)(K:AV->Heap->Prop):Prop:=
 (C.pf f=true/\ ∃args1 args' r,All2 (Bor (hf H)) args args1/\ (args1=args\/Scal r)/\All2 Coe args1 args'/\C.C f args' [] r []/\K r H)\/
 (C.pf f=false/\ ∃args' H1 r H',All2 Coe args args'/\YvD H H1/\C.C f args' H1 r H'/\H.length<=H'.length/\K r H')
def maxEl:Nat:=1073741824
def Yvz(os es:Nat)(s:AV)(l:List (List AV))(H:HF)(nid:Nat)(K:AV->List Upd->Prop):Prop:=
 match s with
 | .ref a off len=>objK H a fun o=>off=0/\len=o.el.length/\o.es=os/\o.el.length+l.length<=maxEl/\ (∀e∈l,e.length=es)/\
   K (.ref nid 0 (o.el.length+l.length)) [.set a none,.push (some ⟨os,o.el++l⟩)]
 | .emp=>l.length<=maxEl/\ (∀e∈l,e.length=es)/\ (os=0->l≠ [])/\K (.ref nid 0 l.length) [.push (some ⟨os,l⟩)]
 |_=>False
abbrev appK(es:Nat)(s:AV)(l:List (List AV))(H:HF)(nid:Nat)(K:AV->List Upd->Prop):Prop:=Yvz es es s l H nid K
def slB(env:Env)(o:Option Opd)(d:Nat)(K:Nat->Prop):Prop:=
 match o with
 |none=>K d
 |some x=>opK env x fun a=>intK a fun n=>0<=n/\K n.toNat
def mmF(mx:Bool)(k:IntKind):Int->List AV->Option AV
 |m,[]=>some (.v (.int k m))
 |m,.v (.int _ n)::r=>mmF mx k (bif mx then max m n else min m n) r
 |_,_=>none
def Yu3:AV->Bool
 | .v (.int _ n)=>decide (n=0)
 |_=>false
def YuA(x y c:Int):Int×Int:=(((x.toNat+y.toNat+c.toNat) % 18446744073709551616:Nat),((x.toNat+y.toNat+c.toNat)/18446744073709551616:Nat))
def YuB(x y c:Int):Int×Int:=(((x.toNat+18446744073709551616-y.toNat-c.toNat) % 18446744073709551616:Nat),((if x.toNat<y.toNat+c.toNat then 1 else 0:Nat)))
def pvF:POp->List AV->Option AV
 | .mm mx,.v (.int k m)::r=>mmF mx k m r
 | .isn ng,[.rd _ (_::_)]=>some (.v (.bool ng))
 | .isn ng,[.v (.slice A _ _)]=>some (.v (.bool (bif ng then !A.isNone else A.isNone)))
 | .isp ng,[.v (.pointer p)]=>some (.v (.bool (bif ng then !p.isNone else p.isNone)))
 | .isp ng,[.ptr _ _ _]=>some (.v (.bool ng))
 | .isi ng,[.v .nilIface]=>some (.v (.bool (!ng)))
 | .isi ng,[.er]=>some (.v (.bool ng))
 | .emz,[a,lo,hi,mx]=>if Yu3 lo=true/\Yu3 hi=true/\Yu3 mx=true then match a with
   | .rd _ _| .emp| .v (.slice _ _ _)=>some .emp
   |_=>none
   else none
 | .sbyt,[.v (.string s)]=>some (.rd 1 (s.toList.map fun b=>[.v (.int .u8 b.toNat)]))
 | .add64,[.v (.int .u64 x),.v (.int .u64 y),.v (.int .u64 c)]=>if c.toNat<=1 then some (.tup [.v (.int .u64 (YuA x y c).1),.v (.int .u64 (YuA x y c).2)])else none
 | .sub64,[.v (.int .u64 x),.v (.int .u64 y),.v (.int .u64 c)]=>if c.toNat<=1 then some (.tup [.v (.int .u64 (YuB x y c).1),.v (.int .u64 (YuB x y c).2)])else none
 |_,_=>none
def strA(s:ByteArray):List (List AV):=s.toList.map fun b=>[.v (.int .u8 b.toNat)]
def YvV:List AV->Option UInt8
 | [.v (.int .u8 n)]=>some (UInt8.ofNat n.toNat)
 |_=>none
def Yui:List (List AV)->Option (List UInt8)
 | []=>some []
 |e::r=>match YvV e,Yui r with
  |some b,some bs=>some (b::bs)
  |_,_=>none
def cellsAll:List AV->Option (List (List AV))
 | []=>some []
 |a::r=>match cellsOf a,cellsAll r with
  |some cs,some l=>some (cs::l)
  |_,_=>none
def srcA:AV->Option (List (List AV))
 | .rd _ l=>some l
 | .emp=>some []
 |_=>none
def Yux(es:Nat):AV->Bool
 | .rd es' _=>Yxr es' es
 |_=>true
def apX(os es:Nat)(s:AV)(l:List (List AV))(H:HF)(nid:Nat):Option (AObj×List Upd):=
 bif l.all fun e=>Yxr e.length es then match s with
  | .emp=>bif Yxv l.length maxEl&& (Yxu 0 os|| !l.isEmpty)then some (⟨os,l⟩,[])else none
  | .ref a off len=>match H a with
    |some (some o)=>bif Yxr off 0&&Yxr len o.el.length&&Yxr o.es os&&Yxv (o.el.length+l.length) maxEl then some (⟨os,o.el++l⟩,[.set a none])else none
    |_=>none
  |_=>none
 else none
def YvE(ks:Bool):Value->Value->Option Bool
 | .int k a,.int k' b=>bif ks then none else if k=k' then some (a==b)else none
 | .string a,.string b=>bif ks then some (a==b)else none
 |_,_=>none
def keyK(ks:Bool):Value->Bool
 | .int _ _=> !ks
 | .string _=>ks
 |_=>false
def Yt2(ks:Bool)(k:Value):List (List AV)->Nat->Option (Option (Nat×List AV))
 | [],_=>some none
 | (_:: .v k'::r)::es,i=>match YvE ks k k' with
   |some true=>some (some (i,r))
   |some false=>Yt2 ks k es (i+1)
   |none=>none
 |_::_,_=>none
def mval:Nat->List AV->Option AV
 |1,[a]=>some a
 |2,r=>some (.agg r)
 |_,_=>none
def Yu4:Nat->AV->Option (List AV)
 |2,.agg cs=>some cs
 |1,.agg _=>none
 |1,a=>match cellsOf a with
  |some [c]=>some [c]
  |_=>none
 |_,_=>none
def mres(ok:Bool)(v:AV)(is:Bool):AV:=bif ok then .tup [v,.v (.bool is)]else v
def Yvd:AV->Option (List (List AV))
 | .rd _ el=>some el
 | .emp=>some []
 |_=>none
def mapO(o:AObj):Option (Int×List (List AV)×List AV):=
 match o.el with
 | [.v (.int .i64 c)::R::tags]=>match Yvd R with
   |some el=>bif Yxr o.es 3||Yxr o.es 4 then some (c,el,tags)else none
   |none=>none
 |_=>none
def YuV:List AV->Option Int
 | .v (.int .i64 b)::_=>some b
 |_=>none
def YuL(n:Int):List (List AV)->Option (List AV)
 | []=>none
 |e::r=>match YuV e with
  |some b=>bif decide (b=n)then some e else YuL n r
  |none=>none
def putE(k:AV)(r:List AV):List AV->List AV
 |b::_=>b::k::r
 | []=>[]
def YuG(o:AObj):Option (Nat×Int×Int×List (List AV)):=
 match o.el with
 | [[.np m,.v (.int .i64 s),.v (.int .i64 t),S,_]]=>match Yvd S with
   |some bl=>bif Yxr o.es 5 then some (m,s,t,bl)else none
   |none=>none
 |_=>none
def xF(op:XOp)(xs:List AV)(H:HF)(nid:Nat):Option (AV×List Upd):=
 match op,xs with
 | .lit es,xs=>match cellsAll xs with
   |some (e::l)=>bif Yxu 0 es&& ((e::l).all fun e=>Yxr e.length es)&&Yxv (e::l).length maxEl then some (.ref nid 0 (e::l).length,[.push (some ⟨es,e::l⟩)])else none
   |_=>none
 | .appD es,[s,x]=>match srcA x with
   |some l=>bif Yux es x&&Yxu 0 es then match apX es es s l H nid with
    |some (o,us)=>some (.rd es o.el,us++[.push none])
    |none=>none
    else none
   |none=>none
 | .appDb,[s,x]=>match srcA x with
   |some l=>bif Yux 1 x then match apX 0 1 s l H nid with
    |some (o,us)=>some (.rd 1 o.el,us++[.push none])
    |none=>none
    else none
   |none=>none
 | .appb,[s,x]=>match srcA x with
   |some l=>bif Yux 1 x then match apX 0 1 s l H nid with
    |some (o,us)=>some (.ref nid 0 o.el.length,us++[.push (some o)])
    |none=>none
    else none
   |none=>none
 | .litb,xs=>match cellsAll xs with
   |some (e::l)=>bif((e::l).all fun e=>Yxr e.length 1)&&Yxv (e::l).length maxEl then some (.ref nid 0 (e::l).length,[.push (some ⟨0,e::l⟩)])else none
   |_=>none
 | .apps,[s,.v (.string x)]=>match apX 0 1 s (strA x) H nid with
   |some (o,us)=>some (.ref nid 0 o.el.length,us++[.push (some o)])
   |none=>none
 | .bstr,[.emp]=>some (.v (.string (YxW #[])),[])
 | .bstr,[.rd es l]=>bif Yxr es 1 then match Yui l with
   |some b=>some (.v (.string ⟨b.toArray⟩),[])
   |none=>none
   else none
 | .bstr,[.ref a off len]=>match H a with
   |some (some o)=>bif Yxr (wd o.es) 1&&Yxr off 0&&Yxv len o.el.length then match Yui (o.el.take len)with
    |some b=>some (.v (.string ⟨b.toArray⟩),[])
    |none=>none
    else none
   |_=>none
 | .bld,[]=>some (.ptr nid 0 0,[.push (some ⟨2,[[.np nid,.v (.slice none 0 0)]]⟩)])
 | .mkm kd wd,[]=>bif Yxr kd 1||Yxr kd 2 then some (.np nid,[.push (some ⟨kd+2,[.v (.int .i64 0):: .rd wd []::List.replicate kd (.v (.bool false))]⟩)])else none
 | .mget ks kd ok,[.np a,.v k,z]=>match H a with
   |some (some o)=>match mapO o with
    |some (_,el,_)=>bif Yxr o.es (kd+2)&&keyK ks k then match Yt2 ks k el 0 with
     |some (some (_,r))=>match mval kd r with
      |some v=>some (mres ok v true,[])
      |none=>none
     |some none=>some (mres ok z false,[])
     |none=>none
     else none
    |none=>none
   |_=>none
 | .mput ks kd wd,[.np a,.v k,v]=>match H a with
   |some (some o)=>match mapO o with
    |some (c,el,tags)=>bif Yxr o.es (kd+2)&&keyK ks k then match Yu4 kd v with
     |some r=>match Yt2 ks k el 0 with
      |some (some (i,_))=>some (.u,[.set a (some ⟨o.es,[.v (.int .i64 c):: .rd wd (el.modify i (putE (.v k) r))::tags]⟩)])
      |some none=>some (.u,[.set a (some ⟨o.es,[.v (.int .i64 (c+1)):: .rd wd (el++[.v (.int .i64 c):: .v k::r])::tags]⟩)])
      |none=>none
     |none=>none
     else none
    |none=>none
   |_=>none
 | .mdel ks wd,[.np a,.v k]=>match H a with
   |some (some o)=>match mapO o with
    |some (c,el,tags)=>bif keyK ks k then match Yt2 ks k el 0 with
     |some (some (i,_))=>some (.u,[.set a (some ⟨o.es,[.v (.int .i64 c):: .rd wd (el.eraseIdx i)::tags]⟩)])
     |some none=>some (.u,[.set a (some ⟨o.es,[.v (.int .i64 c):: .rd wd el::tags]⟩)])
     |none=>none
     else none
    |none=>none
   |_=>none
 | .mlen,[.np a]=>match H a with
   |some (some o)=>match mapO o with
    |some (_,el,_)=>some (.v (.int .i64 (el.length:Nat)),[])
    |none=>none
   |_=>none
 | .mrng,[.np a]=>match H a with
   |some (some o)=>match mapO o with
    |some (c,_,_)=>some (.np nid,[.push (some ⟨5,[[.np a,.v (.int .i64 c),.v (.int .i64 c),.rd 1 [],.v (.bool false)]]⟩)])
    |none=>none
   |_=>none
 | .ment,[.np it]=>match H it with
   |some (some oi)=>match YuG oi with
    |some (m,_,t,bl)=>match H m,bl.getLast? with
     |some (some o),some [.v (.int .i64 n)]=>match mapO o with
      |some (c,el,_)=>bif decide (t=c)then match YuL n el with
       |some (_::k::r)=>match mval (o.es-2) r with
        |some v=>some (.tup [k,v],[])
        |none=>none
       |_=>none
       else none
      |none=>none
     |_,_=>none
    |none=>none
   |_=>none
 | .cpy es,[.ref a off len,x]=>match H a with
   |some (some o)=>match srcA x with
    |some l=>bif(Yux es x&& (Yxr off 0&&Yxr len o.el.length))&& (Yxr o.es es&& ((l.all fun e=>Yxr e.length es)&&Yxu 0 es))then
     some (.v (.int .i64 ((min l.length len:Nat):Int)),[.set a (some ⟨o.es,l.take (min l.length len)++o.el.drop (min l.length len)⟩)])else none
    |none=>none
   |_=>none
 |_,_=>none
def evG(op:AOp)(env:Env)(H:HF)(nid:Nat)(K:AV->List Upd->Prop):Prop:=
 match op with
 | .pv op xs=> ∃r,pvF op (xs.map (opd env))=some r/\K r []
 | .mv x=>opK env x fun a=>K a []
 | .pick c a b=>opK env c fun c=>YvC c fun t=>opK env a fun a=>opK env b fun b=>bsp t (K a []) (K b [])
 | .box x=>opK env x fun a=>YuJ a fun cs=>0<cs.length/\cs.length<=maxEl/\K (.ptr nid 0 0) [.push (some ⟨cs.length,[cs]⟩)]
 | .alloc z=>K (.ptr nid 0 0) [.push (some ⟨z.length,[z.map zc]⟩)]
 | .build z parts=>Yvb (z.map zc) env parts fun cs=>K (.agg cs) []
 | .bsl es z n parts=>Yup es (List.replicate n (z.map zc)) env parts fun l=>K (match l with| []=>.emp|_=>.rd es l) []
 | .load g n x=>opK env x fun p=>match p with
   | .rp cs=>Yul g n cs fun a=>K a []
   | .ptr a i j=>objK H a fun o=> ∃e,o.el[i]?=some e/\Yul g n (e.drop j) fun a=>K a []
   |_=>False
 | .loadR g n x=>opK env x fun p=>match p with
   | .rp cs=>Yul g n cs fun a=>K a []
   |_=>False
 | .store n x y=>opK env x fun p=>opK env y fun y=>match p with
   | .ptr a i j=>objK H a fun o=> ∃e,o.el[i]?=some e/\YuJ y fun cs=>cs.length=n/\j+n<=e.length/\K .u [.set a (some ⟨o.es,o.el.set i (splice e j cs)⟩)]
   |_=>False
 | .nilc x=>opK env x fun p=>match p with
   | .rp cs=>K (.rp cs) []
   | .ptr a i j=>K (.ptr a i j) []
   | .clo f cs=>K (.clo f cs) []
   |_=>False
 | .bin op x y=>opK env x fun a=>opK env y fun b=>binK op a b fun r=>K (.v r) []
 | .beq ng x y=>opK env x fun a=>opK env y fun b=>YvC a fun s=>YvC b fun t=>K (.v (.bool (bif ng then !(s==t)else s==t))) []
 | .eqa ng ks x y=>opK env x fun a=>opK env y fun b=> ∃cs ds r,a= .agg cs/\b= .agg ds/\eqL ks cs ds=some r/\K (.v (.bool (bif ng then !r else r))) []
 | .not x=>opK env x fun a=>YvC a fun b=>K (.v (.bool !b)) []
 | .neg x=>opK env x fun a=> ∃k n,a= .v (.int k n)/\K (.v (.int k (k.wrap (0-n)))) []
 | .conv k x=>opK env x fun a=>intK a fun n=>K (.v (.int k (k.wrap n))) []
 | .cvs x=>opK env x fun a=>strK a fun s=>K (.v (.string s)) []
 | .fad off x=>opK env x fun p=>match p with
   | .rp cs=>K (.rp (cs.drop off)) []
   | .ptr a i j=>K (.ptr a i (j+off)) []
   |_=>False
 | .fld g off n x=>opK env x fun a=> ∃cs,a= .agg cs/\off<=cs.length/\Yul g n (cs.drop off) fun a=>K a []
 | .iad es x i=>opK env x fun a=>opK env i fun i=>intK i fun n=>match a with
   | .rd es' l=>es'=es/\0<=n/\ ∃e,l[n.toNat]?=some e/\K (.rp e) []
   | .ref a off len=>objK H a fun o=>wd o.es=es/\off+len<=o.el.length/\0<=n/\n<len/\K (.ptr a (off+n.toNat) 0) []
   |_=>False
 | .iada es len x i=>opK env x fun p=>opK env i fun i=>intK i fun n=>0<=n/\n< (len:Int)/\match p with
   | .rp cs=>K (.rp (cs.drop (n.toNat*es))) []
   | .ptr a i j=>K (.ptr a i (j+n.toNat*es)) []
   |_=>False
 | .idx x i=>opK env x fun a=>opK env i fun i=>strK a fun s=>intK i fun n=>0<=n/\ ∃b,s[n.toNat]?=some b/\K (.v (.int .u8 b.toNat)) []
 | .slcS x lo hi=>opK env x fun a=>strK a fun s=>slB env lo 0 fun l=>slB env hi s.size fun h=>l<=h/\h<=s.size/\K (.v (.string (s.extract l h))) []
 | .slcR es0 x lo hi=>opK env x fun a=>match a with
   | .rd es l=>es=es0/\slB env lo 0 fun i=>slB env hi l.length fun h=>i<=h/\h<=l.length/\K (.rd es ((l.take h).drop i)) []
   | .ref a off len=>slB env lo 0 fun i=>slB env hi len fun h=>i=0/\h<=len/\K (.ref a off h) []
   | .emp=>slB env lo 0 fun i=>slB env hi 0 fun h=>i=0/\h=0/\K .emp []
   |_=>False
 | .ext x i=>opK env x fun a=> ∃l,a= .tup l/\ ∃b,l[i]?=some b/\K b []
 | .lenS x=>opK env x fun a=>strK a fun s=>K (.v (.int .i64 (s.size:Nat))) []
 | .len x=>opK env x fun a=>match a with
   | .rd _ l=>K (.v (.int .i64 (l.length:Nat))) []
   | .ref _ _ len=>K (.v (.int .i64 (len:Nat))) []
   | .emp=>K (.v (.int .i64 0)) []
   |_=>False
 | .app es s x=>opK env s fun s=>opK env x fun x=>match x with
   | .rd es' l=>es'=es/\appK es s l H nid K
   | .emp=>appK es s [] H nid K
   |_=>False
 | .mksl es z n c=>opK env n fun n=>opK env c fun c=>intK n fun n=>intK c fun c=>0<=n/\n<=c/\c<=(maxEl:Nat)/\
   K (.ref nid 0 n.toNat) [.push (some ⟨es,List.replicate n.toNat (z.map zc)⟩)]
 | .call _ _=>False
 | .dyn _ _=>False
 | .dynP _ _=>False
 | .callN _ _ _=>False
 | .mkf f caps=>K (.clo f (caps.map (opd env))) []
 | .px op xs=> ∃v us,xF op (xs.map (opd env)) H nid=some (v,us)/\K v us
def MkC(C:Ctx)(f:Nat)(args:List AV)(o:AObj)(len:Nat):Prop:=
 0<o.es/\ (∀a∈args,NR a)/\ (∀e∈o.el,∀x∈e,NR x)/\ ∀n,C.C f args (List.replicate n none) (.ref n 0 len) (List.replicate n none++[some o])
def mkV(d:Bool)(o:AObj)(nid len:Nat):AV:=
 match d with
 |true=>.rd (wd o.es) o.el
 |false=>.ref nid 0 len
def mkO(d:Bool)(o:AObj):Option AObj:=
 match d with
 |true=>none
 |false=>some o
def Yu0(o:AObj):Prop:= ∀e∈o.el,∀x∈e,∃v,x=AV.v v
def evOp(C:Ctx)(op:AOp)(env:Env)(H:Heap)(K:AV->Heap->Prop):Prop:=
 match op with
 | .call f args=>Yvc C f (args.map (opd env)) H K
 | .dyn x args=>opK env x fun a=> ∃f cs,a= .clo f cs/\Yvc C f (args.map (opd env)++cs) H K
 | .dynP x args=>opK env x fun a=> ∃f cs,a= .clo f cs/\C.pf f=true/\Yvc C f (args.map (opd env)++cs) H K
 | .callN f args d=> ∃args1 args' o len,All2 (Bor (hf H)) (args.map (opd env)) args1/\ (args1=args.map (opd env)\/Yu0 o)/\All2 Coe args1 args'/\MkC C f args' o len/\ (d=true->len=o.el.length)/\K (mkV d o H.length len) (H++[mkO d o])
 |op=>evG op env (hf H) H.length fun v us=>K v (Yt1 H us)
def put(env:Env)(d:Option Nat)(v:AV):Env:=
 match d with
 |some d=>(d,v)::env
 |none=>env
def AOp.touched:AOp->List Opd
 | .load _ _ x| .store _ x _| .iad _ x _=>[x]
 | .app _ s _=>[s]
 | .call _ args=>args
 | .callN _ args _=>args
 | .dynP x args=>x::args
 | .px op xs=>xs.take op.look
 |_=>[]
def nm1(a:Nat):AV->Prop
 | .ref b _ _=>a=b
 | .agg cs=> ∃off len,AV.ref a off len∈cs
 |_=>False
def YvW(n0:Nat->Prop):AV->Prop
 | .ptr a _ _=> ¬n0 a
 | .np a=> ¬n0 a
 | .ref a _ _=> ¬n0 a
 | .clo _ cs=> ∀i c,c∈cs->nm1 i c-> ¬n0 i
 | .agg cs=> ∀i off len,AV.ref i off len∈cs-> ¬n0 i
 |_=>True
def YvF(n0:Nat->Prop):AV->Prop
 | .ref a _ _=>n0 a
 | .ptr a _ _=>n0 a
 | .np a=>n0 a
 | .clo _ _=>False
 | .agg _=>False
 |_=>True
def YuC(n0:Nat->Prop)(env:Env):List Opd->Prop
 | []=>True
 |x::r=>opK env x (YvW n0)/\YuC n0 env r
def nwC(n0:Nat->Prop)(env:Env):AOp->Prop
 | .app _ s _=>opK env s (YvF n0)
 | .store _ x _=>opK env x (YvF n0)
 | .px op xs=> ∀x∈xs.take op.look,opK env x (YvF n0)
 | .call _ _=>True
 |_=>False
def AOp.isCall:AOp->Bool
 | .call _ _=>true
 |_=>false
def Yu5(C:Ctx)(n0:Nat->Prop)(old nw:Bool)(op:AOp)(env:Env)(H:Heap)(K:AV->Heap->Prop):Prop:=
 (old=true->YuC n0 env op.touched)/\ (nw=true->nwC n0 env op)/\evOp C op env H fun v H'=>(nw=true->op.isCall=true-> ∀a,¬n0 a->hf H' a=hf H a)/\K v H'
def evAI(C:Ctx)(n0:Nat->Prop)(i:AI)(K:ASt->Prop)(st:ASt):Prop:=
 match i.guard with
 |none=>Yu5 C n0 i.old i.nw i.op st.env st.heap fun v H=>K ⟨put st.env i.dst v,H,st.base⟩
 |some (g,true)=>opK st.env (.t g) fun a=>Yv7 a (fun b=>
  bsp b (Yu5 C n0 i.old i.nw i.op ((g,.v (.bool true))::st.env) st.heap fun v H=>K ⟨put ((g,.v (.bool true))::st.env) i.dst v,H,st.base⟩)
   (K ⟨put ((g,.v (.bool false))::st.env) i.dst (.v undef),st.heap,st.base⟩)) (K ⟨put st.env i.dst (.v undef),st.heap,st.base⟩)
 |some (g,false)=>opK st.env (.t g) fun a=>Yv7 a (fun b=>
  bsp b (K ⟨put ((g,.v (.bool true))::st.env) i.dst (.v undef),st.heap,st.base⟩)
   (Yu5 C n0 i.old i.nw i.op ((g,.v (.bool false))::st.env) st.heap fun v H=>K ⟨put ((g,.v (.bool false))::st.env) i.dst v,H,st.base⟩)) (K ⟨put st.env i.dst (.v undef),st.heap,st.base⟩)
def Yuy(C:Ctx)(n0:Nat->Prop):List AI->(ASt->Prop)->ASt->Prop
 | [],K,st=>K st
 |i::r,K,st=>evAI C n0 i (fun s=>Yuy C n0 r K s) st
inductive Ex where
 |nor
 |exit (id:Nat)
 |ret
theorem YeD(C:Ctx)(n0:Nat->Prop)(op:AOp)(env:Env)(H:Heap)(K:AV->Heap->Prop):Yu5 C n0 false false op env H K=evOp C op env H K:=by simp[Yu5]
theorem YlC(C:Ctx)(n0:Nat->Prop)(d:Option Nat)(op:AOp)(o w:Bool)(K:ASt->Prop)(env:Env)(H:Heap)(b0:Nat):
  evAI C n0 ⟨d,op,none,o,w⟩ K ⟨env,H,b0⟩=Yu5 C n0 o w op env H (fun v H=>K ⟨put env d v,H,b0⟩):=rfl
theorem YlD(A B:Prop):bsp true A B=A:=by simp[bsp]
theorem YlE(A B:Prop):bsp false A B=B:=by simp[bsp]
end Go.Abs
namespace Go.Abs
open Go
def ofV:Value->AV
 | .agg cs=>if cs.all (·.oneCell')then .agg (cs.toList.map zc)else .u
 | .tuple vs=>.tup (vs.toList.map zc)
 | .slice none 0 0=>.emp
 |v=>.v v
def YtP(fm:FM):Operand->Opd
 | .tmp t=>.t t
 | .const v=>.c (ofV v)
 | .global g=>.c (.v (.pointer (some ⟨g,0,none⟩)))
 | .func f=>.c (.clo (fm f) [])
def aggT(P:Program)(t:TypeId):Option Bool:=
 match P.underlying t with
 |some (.struct _)=>some true
 |some (.array _ _)=>some true
 |some _=>some false
 |none=>none
def YtR(P:Program)(t:TypeId):Option Nat:=(P.info? t).map (·.size)
def Yt3(P:Program)(t:TypeId):Option (List Value):=
 match P.info? t with
 |some i=>match i.zero with
  |some z=>if z.cells.size=i.size/\0<i.size/\i.size<=1048576/\i.bytes<=1024/\z.cells.all (·.oneCell')then some z.cells.toList else none
  |none=>none
 |none=>none
def YtL(P:Program)(f:FuncId):Bool:=
 match P.funcs[f]? with
 |some fn=>fn.body.isSome&& !(fn.name== "runtime.NumGoroutine")
 |none=>false
def YuM(lf:TypeId->Option (List Nat)):List Field->Nat->Option (List Nat)
 | [],_=>some []
 |f::r,e=>if f.name≠ "_" /\f.offset=e then
   match lf f.type with
   |some l=>match YuM lf r (e+l.length)with
    |some l'=>some (l++l')
    |none=>none
   |none=>none
  else none
def Yuz(P:Program):Nat->TypeId->Option (List Nat)
 |0,_=>none
 |d+1,t=>match P.underlying t with
  |some .bool=>some [0]
  |some (.int _)=>some [1]
  |some .string=>some [2]
  |some (.struct fs)=>if P.stoodInHeld t then none else
   match YuM (Yuz P d) fs.toList 0 with
   |some l=>if YtR P t=some l.length then some l else none
   |none=>none
  |_=>none
def hint(l:List (String×Nat))(o:Oper):Bool:=match o.dst with
 |some d=>l.any fun p=>p.1==o.pos&&Yxr p.2 d
 |none=>false
def mapT(P:Program)(t:TypeId):Option (Bool×Nat×TypeId):=
 match P.underlying t with
 |some (.map k e)=>match P.underlying k with
  |some .string=>(aggT P e).map fun g=>(true,bif g then 2 else 1,e)
  |some (.int _)=>(aggT P e).map fun g=>(false,bif g then 2 else 1,e)
  |_=>none
 |_=>none
def trOp(P:Program)(fm:FM)(o:Oper):Option AOp:=
 let x:=YtP fm
 match o.op with
 | .move a=>some (.mv (x a))
 | .assign a=>some (.mv (x a))
 | .pick c a b=>some (.pick (x c) (x a) (x b))
 | .alloc e=>if e=fm.bt then(Yt3 P e).bind fun z=>match z with
   | [.pointer none,.slice none 0 0]=>some (.px .bld [])
   |_=>some (.alloc z)
   else(Yt3 P e).map .alloc
 | .box _ a=>some (.box (x a))
 | .build t parts=>match P.underlying t,Yt3 P t with
   |some (.struct fs),some z=>
    (parts.toList.mapM fun(p:Nat×Operand)=>(fs[p.1]?).bind fun f=>(YtR P f.type).map fun s=>(f.offset,s,x p.2)).bind fun ps=>
     if(fs.toList.all fun f=>(YtR P f.type).isSome)then some (.build z ps)else none
   |some (.array _ e),some z=>(YtR P e).map fun s=>.build z (parts.toList.map fun p=>(p.1*s,s,x p.2))
   |_,_=>none
 | .buildSlice t len parts=>match P.underlying t with
   |some (.slice e)=>(Yt3 P e).bind fun z=>if hint fm.own o&& (parts.toList.map (·.1)==List.range len)&&decide (0<len)&&decide (len*z.length<=2^24)then(if e=fm.bu then(if z.length=1 then some (.px .litb (parts.toList.map fun p=>x p.2))else none)else some (.px (.lit z.length) (parts.toList.map fun p=>x p.2)))else if len*z.length<=2^24 then some (.bsl z.length z len (parts.toList.map fun p=>(p.1,x p.2)))else none
   |_=>none
 | .load t a=>(aggT P t).bind fun g=>(YtR P t).map fun n=>.load g n (x a)
 | .store t a b=>(YtR P t).map fun n=>.store n (x a) (x b)
 | .nilCheck a=>some (.nilc (x a))
 | .binOp op t a b _=>match op with
   | .eql=>match P.underlying t with
     |some (.slice _)=>match b with
      | .const (.slice none 0 0)=>some (.pv (.isn false) [x a])
      |_=>none
     |some (.pointer _)=>match b with
      | .const (.pointer none)=>some (.pv (.isp false) [x a])
      |_=>none
     |some (.interface _)=>match b with
      | .const .nilIface=>some (.pv (.isi false) [x a])
      |_=>none
     |some .bool=>some (.beq false (x a) (x b))
     |some (.int _)=>some (.bin .eql (x a) (x b))
     |some .string=>some (.bin .eql (x a) (x b))
     |some (.struct _)=>if P.eqGuardType P.depth t then none else(Yuz P 9 t).map fun l=>.eqa false l (x a) (x b)
     |_=>none
   | .neq=>match P.underlying t with
     |some (.slice _)=>match b with
      | .const (.slice none 0 0)=>some (.pv (.isn true) [x a])
      |_=>none
     |some (.pointer _)=>match b with
      | .const (.pointer none)=>some (.pv (.isp true) [x a])
      |_=>none
     |some (.interface _)=>match b with
      | .const .nilIface=>some (.pv (.isi true) [x a])
      |_=>none
     |some .bool=>some (.beq true (x a) (x b))
     |some (.int _)=>some (.bin .neq (x a) (x b))
     |some .string=>some (.bin .neq (x a) (x b))
     |some (.struct _)=>if P.eqGuardType P.depth t then none else(Yuz P 9 t).map fun l=>.eqa true l (x a) (x b)
     |_=>none
   |op=>some (.bin op (x a) (x b))
 | .unOp .not _ a=>some (.not (x a))
 | .unOp .neg _ a=>some (.neg (x a))
 | .convert s d a=>match P.underlying s,P.underlying d with
   |some (.int _),some (.int k)=>some (.conv k (x a))
   |some .string,some .string=>some (.cvs (x a))
   |some .string,some (.slice e)=>match P.underlying e with
    |some (.int .u8)=>some (.pv .sbyt [x a])
    |_=>none
   |some (.slice e),some .string=>match P.underlying e with
    |some (.int .u8)=>some (.px .bstr [x a])
    |_=>none
   |_,_=>none
 | .fieldAddr s a f=>match P.underlying s with
   |some (.struct fs)=>(fs[f]?).bind fun fd=>(YtR P fd.type).bind fun n=>if n=0 then none else some (.fad fd.offset (x a))
   |_=>none
 | .field s a f=>match P.underlying s with
   |some (.struct fs)=>(fs[f]?).bind fun fd=>(aggT P fd.type).bind fun g=>(YtR P fd.type).map fun n=>.fld g fd.offset n (x a)
   |_=>none
 | .indexAddr t a i=>match P.underlying t with
   |some (.slice e)=>(YtR P e).map fun s=>.iad s (x a) (x i)
   |some (.array n e)=>(YtR P e).map fun s=>.iada s n (x a) (x i)
   |_=>none
 | .index t a i=>match P.underlying t with
   |some .string=>some (.idx (x a) (x i))
   |_=>none
 | .slice t a lo hi none=>match P.underlying t with
   |some .string=>some (.slcS (x a) (lo.map x) (hi.map x))
   |some (.slice e)=>(YtR P e).map fun n=>.slcR n (x a) (lo.map x) (hi.map x)
   |_=>none
 | .slice t a (some lo) (some hi) (some mx)=>match P.underlying t with
   |some (.slice e)=>(YtR P e).map fun _=>.pv .emz [x a,x lo,x hi,x mx]
   |_=>none
 | .extract a i=>some (.ext (x a) i)
 | .makeSlice t n c=>match P.underlying t with
   |some (.slice e)=>(Yt3 P e).map fun z=>.mksl z.length z (x n) (x c)
   |_=>none
 | .makeMap t none=>(mapT P t).bind fun m=>(YtR P m.2.2).map fun n=>.px (.mkm m.2.1 (n+2)) []
 | .lookup t m k ok=>(mapT P t).bind fun q=>((P.info? q.2.2).bind (·.zero)).map fun z=>.px (.mget q.1 q.2.1 ok) [x m,x k,.c (ofV z)]
 | .mapUpdate t m k v=>(mapT P t).bind fun q=>(YtR P q.2.2).map fun n=>.px (.mput q.1 q.2.1 (n+2)) [x m,x k,x v]
 | .range t m=>(mapT P t).map fun _=>.px .mrng [x m]
 | .next i false=>some (.px .mnxt [x i])
 | .entry i=>some (.px .ment [x i])
 | .makeFunc (.func f) first caps=>if first.isEmpty then some (.mkf (fm f) (caps.toList.map x))else none
 | .call c=>match c.callee with
   | .builtin .len=>match(c.argTypes[0]?).bind P.underlying,c.args.toList with
     |some .string,[a]=>some (.lenS (x a))
     |some (.slice _),[a]=>some (.len (x a))
     |some (.map _ _),[a]=>some (.px .mlen [x a])
     |_,_=>none
   | .builtin .delete=>match(c.argTypes[0]?).bind (mapT P),c.args.toList with
     |some q,[m,k]=>(YtR P q.2.2).map fun n=>.px (.mdel q.1 (n+2)) [x m,x k]
     |_,_=>none
   | .builtin .copy=>match c.argTypes.toList,c.args.toList with
     | [t,t'],[d,s]=>match P.underlying t,P.underlying t' with
       |some (.slice e),some (.slice _)=>(YtR P e).map fun n=>.px (.cpy n) [x d,x s]
       |_,_=>none
     |_,_=>none
   | .builtin .append=>match c.argTypes.toList,c.args.toList with
     | [t,t'],[s,a]=>if t=t' then match P.underlying t with
       |some (.slice e)=>(Yt3 P e).bind fun z=>if e=fm.bu then(if z.length=1 then some (.px (if hint fm.dat o then .appDb else .appb) [x s,x a])else none)else some (if hint fm.dat o then .px (.appD z.length) [x s,x a]else .app z.length (x s) (x a))
       |_=>none
       else match P.underlying t,P.underlying t' with
        |some (.slice e),some .string=>match Yt3 P e with
         |some [.int .u8 _]=>if e=fm.bu then some (.px .apps [x s,x a])else none
         |_=>none
        |_,_=>none
     |_,_=>none
   | .builtin .min=>if c.args.size=0 then none else some (.pv (.mm false) (c.args.toList.map x))
   | .builtin .max=>if c.args.size=0 then none else some (.pv (.mm true) (c.args.toList.map x))
   | .value (.func f)=>if YtL P f then some (.call (fm f) (c.args.toList.map x))else match P.funcs[f]? with
     |some fn=>if fn.body.isSome|| !(fn.origin== "")then none else if fn.name= "math/bits.Add64" then some (.pv .add64 (c.args.toList.map x))else if fn.name= "math/bits.Sub64" then some (.pv .sub64 (c.args.toList.map x))else none
     |none=>none
   | .value (.tmp t)=>some (.dyn (.t t) (c.args.toList.map x))
   |_=>none
 |_=>none
def trAI(P:Program)(fm:FM)(n:Nat)(ops:Array Oper)(o:Oper):Option AI:=
 match trOp P fm o with
 |none=>none
 |some op=>
  if(match o.dst with|some d=>decide (d<n)|none=>true)then
   match o.guard with
   |none=>some ⟨o.dst,op,none,false,false⟩
   |some (j,want)=>match(ops[j]?).bind (·.dst)with
    |some g=>if g<n then some ⟨o.dst,op,some (g,want),false,false⟩else none
    |none=>none
  else none
def Yt7{α β:Type}(f:α->Option β):List α->Option (List β)
 | []=>some []
 |a::r=>match f a,Yt7 f r with
  |some b,some bs=>some (b::bs)
  |_,_=>none
def Opd.tmps:Opd->List Nat
 | .t n=>[n]
 | .c _=>[]
def AOp.uses:AOp->List Nat
 | .mv x| .box x| .load _ _ x| .loadR _ _ x| .nilc x| .not x| .neg x| .conv _ x| .cvs x| .fad _ x| .fld _ _ _ x| .ext x _| .len x| .lenS x=>x.tmps
 | .pick c a b=>c.tmps++a.tmps++b.tmps
 | .alloc _=>[]
 | .pv _ xs=>xs.flatMap Opd.tmps
 | .build _ ps=>ps.flatMap fun p=>p.2.2.tmps
 | .bsl _ _ _ ps=>ps.flatMap fun p=>p.2.tmps
 | .store _ x y| .bin _ x y| .beq _ x y| .eqa _ _ x y| .iad _ x y| .iada _ _ x y| .idx x y| .app _ x y| .mksl _ _ x y=>x.tmps++y.tmps
 | .slcS x lo hi| .slcR _ x lo hi=>x.tmps++(match lo with|some o=>o.tmps|none=>[])++(match hi with|some o=>o.tmps|none=>[])
 | .call _ args=>args.flatMap Opd.tmps
 | .dyn x args| .dynP x args=>x.tmps++args.flatMap Opd.tmps
 | .callN _ args _=>args.flatMap Opd.tmps
 | .mkf _ args=>args.flatMap Opd.tmps
 | .px _ xs=>xs.flatMap Opd.tmps
def AI.uses(i:AI):List Nat:=i.op.uses++(match i.guard with|some (g,_)=>[g]|none=>[])
def AOp.touch:AOp->Bool
 | .pv .. | .mv _| .pick .. | .build .. | .bsl .. | .bin .. | .beq .. | .eqa .. | .not _| .neg _| .conv .. | .cvs _| .fad .. | .fld .. | .idx .. | .slcS .. | .slcR .. | .ext .. | .mkf .. | .loadR .. | .box _| .alloc _| .mksl .. | .nilc _| .len _| .lenS _| .iada .. =>false
 | .px op _=>Yxu 0 op.look
 |_=>true
def AOp.eff(pf:Nat->Bool):AOp->Bool
 | .store .. | .app .. | .dyn .. =>true
 | .call f _=> !pf f
 | .px op _=>op.eff
 |_=>false
def AOp.news(pf:Nat->Bool):AOp->Bool
 | .box _| .alloc _| .app .. | .mksl .. | .dyn .. | .callN .. =>true
 | .call f _=> !pf f
 | .px op _=>op.news
 |_=>false
def AOp.wild(pf:Nat->Bool):AOp->Bool
 | .dyn .. =>true
 | .call f _=> !pf f
 |_=>false
def AOp.deep:AOp->Bool
 | .px op _=>op.deep
 |_=>false
def Yv8(x y:AI):Bool:=
 (match x.dst with|some d=> !(y.uses.contains d)&&y.dst !=some d|none=>true)&&
 (match y.dst with|some d=> !(x.uses.contains d)|none=>true)
def AOp.isApp:AOp->Bool
 | .app .. =>true
 |_=>false
def Yv9(pf:Nat->Bool)(x y:AI):Bool:=
 (!(x.op.wild pf&& (y.op.touch||y.op.news pf))|| (x.nw&&y.old&& !(y.op.eff pf)&& !(y.op.news pf)))&&
 (!(y.op.wild pf&& (x.op.touch||x.op.news pf))|| (y.nw&&x.old&& !(x.op.eff pf)&& !(x.op.news pf)))&&
 (!(x.op.eff pf&&y.op.touch)|| (x.nw&&y.old))&& (!(y.op.eff pf&&x.op.touch)|| (y.nw&&x.old))&&
 (!(x.op.news pf&&y.op.touch)||y.old)&& (!(y.op.news pf&&x.op.touch)|| (x.old||x.op.isApp))
def Yvn(pf:Nat->Bool)(x y:AI):Bool:=(!x.op.deep&& !y.op.deep)&& (Yv8 x y&&Yv9 pf x y)
def ancs:List Oper->List Nat->List Nat
 | [],acc=>acc
 |o::r,acc=>ancs r (acc++[o.after.toList.foldl (fun s e=>if Region.binds .any e then s|||2^e.on|||acc.getD e.on 0 else s) 0])
def Yuh(pf:Nat->Bool)(an:List Nat)(is:List AI):Bool:=
 (List.range is.length).all fun i=>(List.range i).all fun j=>(an.getD i 0).testBit j||
  (match is[j]?,is[i]? with|some x,some y=>Yvn pf x y|_,_=>false)
def Ywv(pf:Nat->Bool)(lt:Bool)(x y:AI):Bool×Bool:=
 (x.op.touch&& (y.op.news pf&& (lt|| !x.op.isApp)||y.op.eff pf),(match x.op with| .app .. =>true| .store .. =>true| .px op _=>op.eff|_=>false)&&y.op.touch)
def YtV(pf:Nat->Bool)(an:List Nat)(is:List AI):List AI:=
 is.zipIdx.map fun(x,i)=>
  is.zipIdx.foldl (fun(s:AI) (p:AI×Nat)=>
   if p.2=i then s
   else if(an.getD (max i p.2) 0).testBit (min i p.2)then s
   else let m:=Ywv pf (Yxu p.2 i) x p.1;{s with old:=s.old||m.1,nw:=s.nw||m.2}) x
def YvA(pf:Nat->Bool)(an:List Nat)(is:List AI):List AI:=
 (YtV pf an is).map fun x=>{x with nw:=x.nw|| (match x.op with| .call f _=> !pf f|_=>false)}
def AOp.isPut:AOp->Bool
 | .px op _=>match op with| .mput .. =>true|_=>false
 |_=>false
def readOnly(is:List AI):List AI:=
 is.map fun i=>match i.op with| .load g n x=>{i with op:=.loadR g n x}|_=>i
def YuN(is:List AI):List AI:=
 is.map fun i=>match i.op with| .dyn x as=>{i with op:=.dynP x as}|_=>i
def Yuq(pf:Nat->Bool)(dd:Nat->Bool)(is:List AI):List AI:=
 is.map fun i=>match i.op with| .call f as=>if pf f then i else{i with op:=.callN f as (match i.dst with|some d=>dd d|none=>false)}|_=>i
def Yur(pf:Nat->Bool)(mk:Bool)(dd:Nat->Bool)(an:List Nat)(is:List AI):Option (List AI):=
 if is.any (fun i=>i.op.deep)then none
 else if mk&&Yuh pf an (YtV pf an (Yuq pf dd is))then some (YtV pf an (Yuq pf dd is))
 else if Yuh pf an is then some is
 else if Yuh pf an (YtV pf an is)then some (YtV pf an is)
 else if((is.any fun i=>i.op.isPut)||dd 1000000)&&Yuh pf an (YvA pf an is)then some (YvA pf an is)
 else if Yuh pf an (YtV pf an (readOnly is))then some (YtV pf an (readOnly is))
 else if Yuh pf an (YtV pf an (YuN is))then some (YtV pf an (YuN is))
 else if Yuh pf an (YtV pf an (Yuq pf dd is))then some (YtV pf an (Yuq pf dd is))
 else none
def YuD:List Oper->Nat->Bool
 | [],_=>true
 |o::r,i=>(o.after.toList.all fun e=> !Region.binds .any e||decide (e.on<i))&&YuD r (i+1)
def mkAt(fm:FM)(ops:Array Oper):Bool:=ops.toList.any fun o=>fm.mks.contains o.pos
def ddAt(fm:FM)(ops:Array Oper)(d:Nat):Bool:=(Yxr d 1000000&&ops.toList.any fun o=>fm.own.contains (o.pos,1000000))||ops.toList.any fun o=>o.dst==some d&&fm.dat.contains (o.pos,d)
def mkPl(fm:FM)(ops:Array Oper):Bool:=ops.toList.any fun o=>fm.own.contains (o.pos,1000001)
def Yww(P:Program)(fm:FM)(pf:Nat->Bool)(n:Nat)(ops:Array Oper)(draw:Bool):Option (List AI):=
 match Yt7 (trAI P fm n ops) ops.toList with
 |none=>none
 |some is=>if draw then(if YuD ops.toList 0 then Yur pf (mkAt fm ops) (ddAt fm ops) (ancs ops.toList []) is else none)else if mkPl fm ops then some (Yuq pf (ddAt fm ops) is)else some is
def tr(P:Program)(fm:FM)(pf:Nat->Bool)(n:Nat):Code->Option ACode
 | .skip=>some .skip
 | .region _ ops draw=>match Yww P fm pf n ops draw with
   |some is=>some (.reg is)
   |none=>some .bad
 | .seq a b=>match tr P fm pf n a,tr P fm pf n b with
   |some x,some y=>some (.seq x y)
   |_,_=>none
 | .cond c a b=>match tr P fm pf n a,tr P fm pf n b with
   |some x,some y=>some (.cond (YtP fm c) x y)
   |_,_=>none
 | .block id b=>(tr P fm pf n b).map (.blk id)
 | .loop b=>(tr P fm pf n b).map .loop
 | .exit id=>some (.exit id)
 | .ret=>some .ret
 |_=>some .bad
end Go.Abs
namespace Go.Abs
open Go
def ER(fm:FM)(w:World)(L:Nat->Loc)(a:Act)(env:Env):Prop:= ∀t,VR fm w L (a.tmps.getD t undef) (YtM env t)
def appU(h:HF)(nid:Nat):Upd->HF
 | .set a o=>fun b=>if b=a then some o else h b
 | .push o=>fun b=>if b=nid then some o else h b
def appF(h:HF)(nid:Nat):List Upd->HF
 | []=>h
 |u::r=>appF (appU h nid u) nid r
def OpPost(fm:FM)(w:World)(L:Nat->Loc)(h':HF)(v:AV)(x:Value)(w':World):Prop:=
 ∃L',Keep L w w'/\LStep L L' w.heap.size/\HR fm w' L' h'/\VR fm w' L' x v
section
variable{fm:FM}{w:World}{L:Nat->Loc}
theorem OpPost.same{h:HF}(hr:HR fm w L h){x:Value}{v:AV}(hv:VR fm w L x v):OpPost fm w L h v x w:=
 ⟨L,Keep.refl _ _,LStep.refl _ _,hr,hv⟩
theorem Yae{x y:Value}(h:VR fm w L x (.v y)):x=y:=by cases h;rfl
theorem Yde(x:Value):VR fm w L x (zc x):=by
 unfold zc
 split
 ·exact .emp _
 ·exact .v _
theorem Ygg(x:Value):VR fm w L x (ofV x):=by
 unfold ofV
 split
 ·rename_i cs
  split
  ·rename_i hall
   have hj: ∀j a,(cs.toList.map zc)[j]?=some a->a=zc (cs.getD j undef)/\j<cs.size:=by
    intro j a ha
    rw[YwR]at ha
    cases hc:cs.toList[j]? with
    |none=>simp[hc]at ha
    |some y=>
     rw[hc]at ha
     obtain⟨hlt,he⟩:=YwP.1 hc
     have hlt':j<cs.size:=by simpa using hlt
     refine⟨?_,hlt'⟩
     simp at ha
     rw[<-ha]
     simp[Array.getD,hlt']
     rw[<-he];simp
   refine .agg cs _ (by simp) (fun j a ha=> ?_) (fun j a ha=> ?_)
   ·obtain⟨_,hlt⟩:=hj j a ha
    rw[Array.all_eq_true]at hall
    have:=hall j hlt
    simpa[Array.getD,hlt]using this
   ·rw[(hj j a ha).1];exact Yde _
  ·exact .u _
 ·rename_i vs
  refine .tup vs _ (by simp) (fun j a ha=> ?_)
  rw[YwR]at ha
  cases hc:vs.toList[j]? with
  |none=>simp[hc]at ha
  |some y=>
   rw[hc]at ha
   obtain⟨hlt,he⟩:=YwP.1 hc
   have hlt':j<vs.size:=by simpa using hlt
   simp at ha
   rw[<-ha]
   have:vs.getD j undef=y:=by simp[Array.getD,hlt'];rw[<-he];simp
   rw[this];exact Yde _
 ·exact .emp none
 ·exact .v x
theorem Yad{a:Act}{env:Env}(he:ER fm w L a env)(x:Operand):VR fm w L (a.eval x) (opd env (YtP fm x)):=by
 cases x with
 |tmp t=>exact he t
 |const v=>exact Ygg v
 |global g=>exact .v _
 |func f=>exact .clo f #[] [] rfl (fun j a h=>by simp at h)
def CR(fm:FM)(w:World)(L:Nat->Loc)(xs:Array Value)(cs:List AV):Prop:=
 xs.size=cs.length/\ ∀j c,cs[j]?=some c->(xs.getD j undef).oneCell'=true/\VR fm w L (xs.getD j undef) c
theorem Yau{x:Value}{c:AV}(h1:x.oneCell'=true)(h:VR fm w L x c):CR fm w L #[x] [c]:=by
 refine⟨rfl,fun j d hd=> ?_⟩
 cases j with
 |zero=>simp at hd;subst hd;exact⟨h1,h⟩
 |succ j=>simp at hd
theorem YlF{x:Value}(h:x.oneCell'=true):x.cells= #[x]:=by cases x<;>first|rfl|simp[Value.oneCell']at h
theorem Ydf{x:Value}{av:AV}(h:VR fm w L x av){cs:List AV}(hc:cellsOf av=some cs):CR fm w L x.cells cs:=by
 cases h with
 |v x=>
  simp only[cellsOf]at hc
  split at hc
  ·rename_i h1;simp at hc;subst hc;rw[YlF h1];exact Yau h1 (.v x)
  ·simp at hc
 |u x=>simp[cellsOf]at hc
 |emp A=>simp[cellsOf]at hc;subst hc;exact Yau rfl (.emp A)
 |rd0 A es c=>simp[cellsOf]at hc;subst hc;exact Yau rfl (.rd0 A es c)
 |rd b o c es l vals hne hes hes0 hlc hb hbs hcc h1 hr=>
  simp[cellsOf]at hc;subst hc;exact Yau rfl (.rd b o c es l vals hne hes hes0 hlc hb hbs hcc h1 hr)
 |rp b o cs' vals hb hbs hcc h1 hr=>simp[cellsOf]at hc;subst hc;exact Yau rfl (.rp b o cs' vals hb hbs hcc h1 hr)
 |refAt g es cap a off len h hl=>simp[cellsOf]at hc;subst hc;exact Yau rfl (.refAt g es cap a off len h hl)
 |refNil A a b h hA=>simp[cellsOf]at hc;subst hc;exact Yau rfl (.refNil A a b h hA)
 |refDead A c a off len h hl=>simp[cellsOf]at hc;subst hc;exact Yau rfl (.refDead A c a off len h hl)
 |ptrAt g es cap a i j h=>simp[cellsOf]at hc;subst hc;exact Yau rfl (.ptrAt g es cap a i j h)
 |ptrDead ad a i j h=>simp[cellsOf]at hc;subst hc;exact Yau rfl (.ptrDead ad a i j h)
 |npAt g a v h ht hv=>simp[cellsOf]at hc;subst hc;rcases hv with rfl|rfl<;>exact Yau rfl (.npAt g a _ h ht (by simp))
 |npDead p a h=>simp[cellsOf]at hc;subst hc;exact Yau rfl (.npDead p a h)
 |mpAt g a h=>simp[cellsOf]at hc;subst hc;exact Yau rfl (.mpAt g a h)
 |itAt g a h=>simp[cellsOf]at hc;subst hc;exact Yau rfl (.itAt g a h)
 |mpDead p a h=>simp[cellsOf]at hc;subst hc;exact Yau rfl (.mpDead p a h)
 |agg xs cs' hs h1 h=>simp[cellsOf]at hc;subst hc;exact⟨hs,fun j c hj=>⟨h1 j c hj,h j c hj⟩⟩
 |tup xs cs' hs h=>simp[cellsOf]at hc
 |clo f xs cs' hs h=>simp[cellsOf]at hc;subst hc;exact Yau rfl (.clo f xs cs' hs h)
 |er t p=>simp[cellsOf]at hc;subst hc;exact Yau rfl (.er t p)
theorem CR.mono{w':World}{L':Nat->Loc}{xs:Array Value}{cs:List AV}(h:CR fm w L xs cs)(hk:Keep L w w')(hs:LStep L L' w.heap.size):
  CR fm w' L' xs cs:=⟨h.1,fun j c hc=>⟨(h.2 j c hc).1,(h.2 j c hc).2.mono hk hs⟩⟩
theorem CR.agg{xs:Array Value}{cs:List AV}(h:CR fm w L xs cs):VR fm w L (.agg xs) (.agg cs):=
 .agg xs cs h.1 (fun j c hc=>(h.2 j c hc).1) (fun j c hc=>(h.2 j c hc).2)
theorem Ygh(z:List Value)(h: ∀x∈z,x.oneCell'=true):CR fm w L z.toArray (z.map zc):=by
 refine⟨by simp,fun j c hc=> ?_⟩
 rw[YwR]at hc
 cases hz:z[j]? with
 |none=>simp[hz]at hc
 |some y=>
  simp[hz]at hc
  subst hc
  obtain⟨hlt,he⟩:=YwP.1 hz
  have:z.toArray.getD j undef=y:=by simp[Array.getD,hlt,he]
  rw[this]
  exact⟨h y (he▸Yxa hlt),Yde y⟩
def RR(fm:FM)(w:World)(L:Nat->Loc)(es:Nat)(xs:Array Value)(l:List (List AV)):Prop:=
 ∀i e j c,l[i]?=some e->e[j]?=some c->(xs.getD (i*es+j) undef).oneCell'=true/\VR fm w L (xs.getD (i*es+j) undef) c
theorem YeE{os:Nat}{h:HF}{nid:Nat}(hr:HR fm w L h)(hn:h nid=none){w':World}{cur:Array Value}{ty:TypeId}{es cap:Nat}{el:List (List AV)}
  (hw:w'.heap=w.heap.push (.cells cur ty (0,0))) (hos:w'.os=w.os) (htape:w'.tape=w.tape) (hout:w'.output=w.output)
  (hes:0<es) (hlc:el.length<=cap) (hcm:cap<=maxLen) (hel: ∀e∈el,e.length=es) (hsz:cur.size=cap*es) (hrr:RR fm w L es cur el) (hwd:wd os=es) (hty:os=0->ty=fm.bu):
  Keep L w w'/\LStep L (fun a=>if a=nid then .cells w.heap.size es cap else L a) w.heap.size/\
   HR fm w' (fun a=>if a=nid then .cells w.heap.size es cap else L a) (appU h nid (.push (some ⟨os,el⟩))):=by
 have hnf:L nid= .fresh:=(hr.fresh nid).2 hn
 have hk:Keep L w w':=⟨hos,htape,hout,by rw[hw];simp,fun b hb _=>by rw[hw,Array.getElem?_push,if_neg (by omega)],fun b t h=>h.of (by rw[hw,Array.getElem?_push,if_neg (by have:=h.lt;omega)])⟩
 have hownc: ∀b,OwnC (fun a=>if a=nid then .cells w.heap.size es cap else L a) b->OwnC L b\/w.heap.size<=b:=fun b hb=>by
  rcases hb with⟨a,e,c,hac⟩| ⟨a,i,hac⟩
  ·dsimp only at hac
   by_cases e:a=nid
   ·simp[e]at hac;right;omega
   ·simp[e]at hac;exact .inl (.inl ⟨a,_,_,hac⟩)
  ·dsimp only at hac
   by_cases e:a=nid
   ·simp[e]at hac
   ·simp[e]at hac;exact .inl (.inr ⟨a,i,hac⟩)
 have hls:LStep L (fun a=>if a=nid then .cells w.heap.size es cap else L a) w.heap.size:=by
  refine⟨fun a ha=> ?_,fun b hb=> ?_,hownc⟩
  ·by_cases e:a=nid
   ·subst e;exact absurd hnf ha
   ·simp[e]
  ·rcases hb with hb| ⟨a,ha⟩
   ·exact(hownc b hb).imp .inl id
   ·by_cases e:a=nid
    ·simp[e]at ha
    ·simp[e]at ha;exact .inl (.inr ⟨a,ha⟩)
 refine⟨hk,hls,?_⟩
 have hlt: ∀a g e c,L a= .cells g e c->g<w.heap.size:=by
  intro a g e c hac
  obtain⟨o,ho⟩:=hr.live a (.inl ⟨g,e,c,hac⟩)
  have:=hr.obj a o ho
  rw[hac]at this
  obtain⟨_,_,_,_,_,cur',ty',hg,_⟩:=this
  exact(YxT.1 hg).1
 refine⟨fun a o hao=> ?_,fun a ha=> ?_,fun a=> ?_,fun a b g e c e' c' ha hb=> ?_,fun a g ha=>by
  by_cases e:a=nid
  ·simp[e]at ha
  ·simp[e]at ha;exact⟨Yxw (hr.hid a g ha).1 hk.size,fun hc=>(hownc g hc).elim (hr.hid a g ha).2 (fun h=>by have:=(hr.hid a g ha).1;omega)⟩,fun a o g es' cap' h1 h2 h3=> ?_,fun a i g ha=>by
  by_cases e:a=nid
  ·simp[e]at ha
  ·simp only[e,if_false]at ha
   obtain⟨⟨o,ho⟩,k⟩:=hr.mps a i g ha
   refine⟨⟨o,by simp[appU,e,ho]⟩,fun b j hb=> ?_⟩
   by_cases e2:b=nid
   ·simp[e2]at hb
   ·simp only[e2,if_false]at hb;exact k b j hb,hr.tab.mono hk hownc⟩
 ·by_cases e:a=nid
  ·subst e
   simp[appU]at hao
   subst hao
   simp only[if_true]
   refine⟨hwd.symm,hes,hlc,hcm,hel,cur,ty,?_,hsz,fun i e' j x hi hj=> ?_⟩
   ·rw[hw];simp
   ·exact⟨(hrr i e' j x hi hj).1,(hrr i e' j x hi hj).2.mono hk hls⟩
  ·simp[appU,e]at hao
   have hobj:=hr.obj a o hao
   simp only[e,if_false]
   revert hobj
   cases hL:L a with
   |fresh=>exact id
   |dead=>exact id
   |nil=>exact id
   |hid g=>exact id
   |cells g es' cap'=>
    rintro⟨h0,h1,h2,h3,h4,cur',ty',h5,h6,h7⟩
    refine⟨h0,h1,h2,h3,h4,cur',ty',?_,h6,fun i e' j x hi hj=>⟨(h7 i e' j x hi hj).1,(h7 i e' j x hi hj).2.mono hk hls⟩⟩
    rw[hw,Array.getElem?_push,if_neg (by have:=hlt a g es' cap' hL;omega)];exact h5
   |mp i g=>
    intro hm
    exact YaW hm hk hls (fun ob h1=>by rw[hw,Array.getElem?_push,if_neg (by have:=hr.mpl hL;omega)];exact h1)
 ·by_cases e:a=nid
  ·subst e;exact⟨⟨os,el⟩,by simp[appU]⟩
  ·simp only[e,if_false]at ha
   obtain⟨o,ho⟩:=hr.live a ha
   exact⟨o,by simp[appU,e,ho]⟩
 ·by_cases e:a=nid
  ·subst e;simp[appU]
  ·simp only[e,if_false,appU];exact hr.fresh a
 ·by_cases e1:a=nid<;>by_cases e2:b=nid
  ·rw[e1,e2]
  ·simp only[e1,if_true]at ha;simp only[e2,if_false]at hb
   have:=hlt b g _ _ hb;injection ha;omega
  ·simp only[e2,if_true]at hb;simp only[e1,if_false]at ha
   have:=hlt a g _ _ ha;injection hb;omega
  ·simp only[e1,if_false]at ha;simp only[e2,if_false]at hb
   exact hr.inj a b g _ _ _ _ ha hb
 ·by_cases e:a=nid
  ·subst e
   simp[appU]at h1
   subst h1
   simp only[if_true]at h3
   injection h3 with h3 _ _;subst h3
   exact⟨cur,(0,0),by rw[hw,<-hty h2];simp⟩
  ·simp[appU,e]at h1
   simp only[e,if_false]at h3
   exact hk.typ _ _ (hr.byt a o g es' cap' h1 h2 h3)
theorem YeF{h:HF}{nid:Nat}(hr:HR fm w L h)(hn:h nid=none){w':World}{cur:Array Value}{ty:TypeId}{es cap:Nat}{el:List (List AV)}
  (hw:w'.heap=w.heap.push (.cells cur ty (0,0))) (hos:w'.os=w.os) (htape:w'.tape=w.tape) (hout:w'.output=w.output)
  (hes:0<es) (hlc:el.length<=cap) (hcm:cap<=maxLen) (hel: ∀e∈el,e.length=es) (hsz:cur.size=cap*es) (hrr:RR fm w L es cur el):
  Keep L w w'/\LStep L (fun a=>if a=nid then .cells w.heap.size es cap else L a) w.heap.size/\
   HR fm w' (fun a=>if a=nid then .cells w.heap.size es cap else L a) (appU h nid (.push (some ⟨es,el⟩))):=
 YeE hr hn hw hos htape hout hes hlc hcm hel hsz hrr (Yay hes) (fun h=>absurd h (by omega))
end
end Go.Abs
namespace Go.Abs
open Go
section
variable{P:Program}{fm:FM}{w:World}{L:Nat->Loc}
theorem Ybx{t:TypeId}{g:Bool}(h:aggT P t=some g)(w:World):(isAgg t).run P w= .ok g w:=by
 unfold aggT at h
 cases hu:P.underlying t with
 |none=>simp_all
 |some d=>
  rw[hu]at h
  cases d<;>simp at h<;>subst h<;>simp[isAgg,run_underlying hu]
theorem YaH{t:TypeId}{n:Nat}(h:YtR P t=some n)(w:World):(sizeOf t).run P w= .ok n w:=by
 unfold YtR at h
 cases hi:P.info? t with
 |none=>simp_all
 |some i=>simp[hi]at h;simp[sizeOf,typeInfo,hi,h]
theorem Ya3(b o j:Nat):(⟨b,o,none⟩:Addr).add j=⟨b,o+j,none⟩:=by unfold Addr.add;simp
theorem YeG{t:TypeId}{g:Bool}{n:Nat}(hg:aggT P t=some g)(hn:YtR P t=some n){b o:Nat}{cs:List AV}{vals:Nat->Value}
  (hc: ∀j x,cs[j]?=some x->w.cell? ⟨b,o+j,none⟩=some (vals j))
  (h1: ∀j x,cs[j]?=some x->(vals j).oneCell'=true)
  (hr: ∀j x,cs[j]?=some x->VR fm w L (vals j) x) {K:AV->Prop} (hev:Yul g n cs K):
  ∃x v,(loadVar t ⟨b,o,none⟩).run P w= .ok x w/\K v/\VR fm w L x v:=by
 cases g with
 |true=>
  obtain⟨hle,hk⟩:=hev
  refine⟨.agg ((List.range n).map vals).toArray,_,?_,hk,?_⟩
  ·simp only[loadVar,Sem.run_bind,Ybx hg,Result.andThen_ok,if_true,YaH hn]
   rw[run_loadCells w _ n vals (fun j hj=>by
    rw[Ya3]
    have hlt:j<cs.length:=by omega
    simp_all)]
   rfl
  ·refine .agg _ _ (by simp_all) (fun j a ha=> ?_) (fun j a ha=> ?_)
   all_goals
    rw[Yw8]at ha
    split at ha
    ·rename_i hj
     first
      |simp_all
      |simp_all
    ·cases ha
 |false=>
  obtain⟨c,hc0,hk⟩:=hev
  refine⟨vals 0,c,?_,hk,hr 0 c hc0⟩
  have:=hc 0 c hc0
  simp only[Nat.add_zero]at this
  simp[loadVar,Ybx hg,this]
theorem Ygi: ∀(ks:List Nat) {ks':List Nat} {as bs:List AV} {r:Bool},eqL (ks++ks') as bs=some r->
  ∃a1 a2 b1 b2 r1 r2,as=a1++a2/\bs=b1++b2/\a1.length=ks.length/\b1.length=ks.length/\eqL ks a1 b1=some r1/\eqL ks' a2 b2=some r2/\r=(r1&&r2)
 | [],ks',as,bs,r,h=>⟨[],as,[],bs,true,r,rfl,rfl,rfl,rfl,rfl,h,by simp⟩
 |k::ks,ks',as,bs,r,h=>by
  cases as with
  |nil=>trivial
  |cons a as=>
   cases bs with
   |nil=>trivial
   |cons b bs=>
    simp only[Yxg,eqL]at h
    cases he:eqAV k a b with
    |none=>simp_all
    |some x=>
     cases hr:eqL (ks++ks') as bs with
     |none=>simp_all
     |some y=>
      obtain⟨a1,a2,b1,b2,r1,r2,e1,e2,l1,l2,h1,h2,e3⟩:=Ygi ks hr
      exact⟨a::a1,a2,b::b1,b2,x&&r1,r2,by grind,by grind,by grind,by grind,by simp[eqL,he,h1],h2,by grind⟩
theorem Ycw: ∀{ks:List Nat} {as bs:List AV} {r:Bool},eqL ks as bs=some r->as.length=ks.length/\bs.length=ks.length
 | [],[],[],_,_=>⟨rfl,rfl⟩
 | [],a::as,_,_,h=>by trivial
 | [],[],b::bs,_,h=>by trivial
 |k::ks,[],_,_,h=>by trivial
 |k::ks,a::as,[],_,h=>by trivial
 |k::ks,a::as,b::bs,r,h=>by
  simp only[eqL]at h
  cases he:eqAV k a b with
  |none=>simp_all
  |some x=>
   cases hr:eqL ks as bs with
   |none=>simp_all
   |some y=>
    have:=Ycw hr
    simp_all
def CRo(fm:FM)(w:World)(L:Nat->Loc)(xs:Array Value)(o:Nat)(cs:List AV):Prop:=
 o+cs.length<=xs.size/\ ∀j c,cs[j]?=some c->VR fm w L (xs.getD (o+j) undef) c
theorem CRo.append{xs:Array Value}{o:Nat}{a b:List AV}(h:CRo fm w L xs o (a++b)):CRo fm w L xs o a/\CRo fm w L xs (o+a.length) b:=by
 obtain⟨h1,h2⟩:=h
 simp at h1
 refine⟨⟨by omega,fun j c hc=>h2 j c (by grind)⟩,by omega,fun j c hc=> ?_⟩
 have:=h2 (a.length+j) c (by grind)
 grind
theorem YbS{xs:Array Value}{j:Nat}(h:j<xs.size):xs[j]?=some (xs.getD j undef):=by
 simp_all
theorem YeH{xs:Array Value}{o n j:Nat}(h:o+n<=xs.size)(hj:j<n):(xs.extract o (o+n)).getD j undef=xs.getD (o+j) undef:=by
 rw[YxS,YxS,Array.getElem?_extract]
 simp_all
theorem YeI{t:TypeId}{xs:Array Value}{o:Nat}(hg:aggT P t=some false)(h:o<xs.size)(w:World):
  (part t xs o).run P w= .ok (xs.getD o undef) w:=by
 simp only[part,Sem.run_bind,Ybx hg,Result.andThen_ok,Bool.false_eq_true,if_false]
 simp_all
theorem YlG(d k:Nat): ∀(t:TypeId) (ks:List Nat),Yuz P d t=some ks-> ∀(xs ys:Array Value) (o:Nat) (as bs:List AV) (r:Bool),
  CRo fm w L xs o as->CRo fm w L ys o bs->eqL ks as bs=some r->
  ∃a b,(part t xs o).run P w= .ok a w/\ (part t ys o).run P w= .ok b w/\ (Op.equalIn (k+d) t a b).run P w= .ok r w:=by
 induction d with
 |zero=>intro t ks h;trivial
 |succ d ih=>
  intro t ks hl xs ys o as bs r hx hy he
  unfold Yuz at hl
  have leaf: ∀(kd:Nat) (x y:AV),ks=[kd]-> ∃a b,as=[a]/\bs=[b]/\eqAV kd a b=some r:=by
   intro kd _ _ e
   subst e
   obtain⟨l1,l2⟩:=Ycw he
   match as,bs,l1,l2 with
   | [a],[b],_,_=>
     simp only[eqL]at he
     grind
  cases hu:P.underlying t with
  |none=>simp_all
  |some dsc=>
   rw[hu]at hl
   have one:aggT P t=some false-> ∀a b,as=[a]->bs=[b]->(part t xs o).run P w= .ok (xs.getD o undef) w/\ (part t ys o).run P w= .ok (ys.getD o undef) w/\
     VR fm w L (xs.getD o undef) a/\VR fm w L (ys.getD o undef) b:=by
    intro hg a b ea eb
    subst ea;subst eb
    have hx1:=hx.1;have hy1:=hy.1
    simp at hx1 hy1
    refine⟨?_,?_,by simpa using hx.2 0 a rfl,by simpa using hy.2 0 b rfl⟩
    ·exact YeI hg (by omega) w
    ·exact YeI hg (by omega) w
   cases dsc with
   |bool=>
    simp at hl
    obtain⟨a,b,ea,eb,hab⟩:=leaf 0 .u .u hl.symm
    obtain⟨p1,p2,v1,v2⟩:=one (by simp[aggT,hu]) a b ea eb
    match a,b,hab with
    | .v (.bool x),.v (.bool y),hab=>
      simp[eqAV]at hab
      refine⟨_,_,p1,p2,?_⟩
      rw[Yae v1,Yae v2,<-hab]
      exact run_equalIn_bool' w (k+d) t x y hu
   |int kk=>
    simp at hl
    obtain⟨a,b,ea,eb,hab⟩:=leaf 1 .u .u hl.symm
    obtain⟨p1,p2,v1,v2⟩:=one (by simp[aggT,hu]) a b ea eb
    match a,b,hab with
    | .v (.int k1 x),.v (.int k2 y),hab=>
      simp[eqAV]at hab
      obtain⟨e,hab⟩:=hab
      subst e
      refine⟨_,_,p1,p2,?_⟩
      rw[Yae v1,Yae v2,<-hab]
      exact run_equalIn_int w (k+d) t k1 kk x y hu
   |string=>
    simp at hl
    obtain⟨a,b,ea,eb,hab⟩:=leaf 2 .u .u hl.symm
    obtain⟨p1,p2,v1,v2⟩:=one (by simp[aggT,hu]) a b ea eb
    match a,b,hab with
    | .v (.string x),.v (.string y),hab=>
      simp[eqAV]at hab
      refine⟨_,_,p1,p2,?_⟩
      rw[Yae v1,Yae v2,<-hab]
      exact run_equalIn_string w (k+d) t x y hu
   |struct fs=>
    simp only at hl
    split at hl
    ·cases hl
    ·rename_i hst
     cases hlf:YuM (Yuz P d) fs.toList 0 with
     |none=>simp_all
     |some l=>
      simp only[hlf]at hl
      split at hl
      ·rename_i hsz
       simp at hl
       subst hl
       obtain⟨l1,l2⟩:=Ycw he
       have hg:aggT P t=some true:=by simp[aggT,hu]
       refine⟨.agg (xs.extract o (o+l.length)),.agg (ys.extract o (o+l.length)),?_,?_,?_⟩
       ·simp[part,Ybx hg,YaH hsz]
       ·simp[part,Ybx hg,YaH hsz]
       ·have hfo:P.fieldsOf t=fs:=by simp[Program.fieldsOf,hu]
        have hx1:=hx.1;have hy1:=hy.1
        rw[show k+(d+1)=(k+d)+1 from rfl,run_equalIn_agg w (k+d) t _ _ (by simp_all) (by simp_all),hfo]
        have key: ∀(fl:List Field) (e:Nat) (kl:List Nat) (a2 b2:List AV) (r2:Bool),YuM (Yuz P d) fl e=some kl->eqL kl a2 b2=some r2->
          CRo fm w L (xs.extract o (o+l.length)) e a2->CRo fm w L (ys.extract o (o+l.length)) e b2->
          (Op.eqFields (k+d) (xs.extract o (o+l.length)) (ys.extract o (o+l.length)) fl).run P w= .ok r2 w:=by
         intro fl
         induction fl with
         |nil=>
          intro e kl a2 b2 r2 h1 h2 _ _
          simp[YuM]at h1
          subst h1
          obtain⟨m1,m2⟩:=Ycw h2
          match a2,b2,m1,m2 with
          | [],[],_,_=>simp[eqL]at h2;subst h2;rfl
         |cons f fl ihf=>
          intro e kl a2 b2 r2 h1 h2 c1 c2
          simp only[YuM]at h1
          split at h1
          ·rename_i hf
           obtain⟨hname,hoff⟩:=hf
           cases hl1:Yuz P d f.type with
           |none=>simp_all
           |some l1=>
            cases hl2:YuM (Yuz P d) fl (e+l1.length)with
            |none=>simp_all
            |some l2=>
             simp[hl1,hl2]at h1
             subst h1
             obtain⟨p1,p2,q1,q2,r1,r3,e1,e2,n1,n2,g1,g2,e3⟩:=Ygi l1 h2
             subst e1;subst e2;subst e3
             obtain⟨c1a,c1b⟩:=c1.append
             obtain⟨c2a,c2b⟩:=c2.append
             obtain⟨va,vb,ra,rb,re⟩:=ih f.type l1 hl1 _ _ e p1 q1 r1 c1a c2a g1
             simp only[Op.eqFields,hname,ne_eq,not_false_eq_true,if_true,Sem.run_bind,hoff,ra,rb,re,Result.andThen_ok,Sem.run_ite]
             cases r1 with
             |false=>simp
             |true=>
              grind
          trivial
        refine key fs.toList 0 l as bs r hlf he ?_ ?_
        ·refine⟨by simp_all,fun j c hc=> ?_⟩
         have hj:=(YwP.1 hc).1
         rw[Yxx,YeH (by omega) (by omega)]
         exact hx.2 j c hc
        ·refine⟨by simp_all,fun j c hc=> ?_⟩
         have hj:=(YwP.1 hc).1
         rw[Yxx,YeH (by omega) (by omega)]
         exact hy.2 j c hc
      trivial
   |_=>trivial
end
end Go.Abs
namespace Go.Abs
open Go Go.RowKit
section
variable{P:Program}{fm:FM}{w:World}{L:Nat->Loc}
theorem HR.blk{h:HF}(hr:HR fm w L h){a g e c:Nat}(ha:L a= .cells g e c):g<w.heap.size:=by
 obtain⟨o,ho⟩:=hr.live a (.inl ⟨g,e,c,ha⟩)
 have:=hr.obj a o ho
 rw[ha]at this
 obtain⟨_,_,_,_,_,cur',ty',hg,_⟩:=this
 grind
theorem Yby{h:HF}(hr:HR fm w L h)(a:Nat)(n:Nat)(hnh: ∀g,L a≠ .hid g):
  LStep L (fun b=>if b=a then .dead else L b) n/\HR fm w (fun b=>if b=a then .dead else L b) (fun b=>if b=a then some none else h b):=by
 have hownc: ∀b,OwnC (fun b=>if b=a then .dead else L b) b->OwnC L b:=fun b hb=>by
  rcases hb with⟨c,e,k,hc⟩| ⟨c,i,hc⟩
  ·by_cases ec:c=a
   ·simp_all
   ·simp[ec]at hc;exact .inl ⟨c,_,_,hc⟩
  ·by_cases ec:c=a
   ·simp_all
   ·simp[ec]at hc;exact .inr ⟨c,i,hc⟩
 have hls: ∀n,LStep L (fun b=>if b=a then .dead else L b) n:=fun n=>by
  refine⟨fun b hb=> ?_,fun b hb=> ?_,fun b hb=>.inl (hownc b hb)⟩
  ·grind
  ·rcases hb with hb| ⟨c,hc⟩
   ·exact .inl (.inl (hownc b hb))
   ·by_cases ec:c=a
    ·simp_all
    ·simp[ec]at hc;exact .inl (.inr ⟨c,hc⟩)
 refine⟨hls n,fun b o' hb=> ?_,fun b hb=> ?_,fun b=> ?_,fun b c g e k e' k' h1 h2=> ?_,fun b g hb=>by
  by_cases e:b=a
  ·simp_all
  ·simp[e]at hb;exact⟨(hr.hid b g hb).1,fun hc=>(hr.hid b g hb).2 (hownc g hc)⟩,fun b o' g es' cap' h1 h2 h3=>by
  by_cases e:b=a
  ·simp_all
  ·simp[e]at h1 h3;exact hr.byt b o' g es' cap' h1 h2 h3,fun b i g hb=>by
  by_cases e:b=a
  ·simp_all
  ·simp only[e,if_false]at hb
   obtain⟨⟨o,ho⟩,k⟩:=hr.mps b i g hb
   grind,hr.tab.loc fun b _=>hownc b⟩
 ·by_cases e:b=a
  ·simp_all
  ·simp[e]at hb
   have hobj:=hr.obj b o' hb
   simp only[e,if_false]
   revert hobj
   cases hL:L b with
   |fresh=>exact id
   |dead=>exact id
   |nil=>exact id
   |hid g=>exact id
   |cells g es' cap'=>
    rintro⟨h0,h1,h2,h3,h4,cur',ty',h5,h6,h7⟩
    exact⟨h0,h1,h2,h3,h4,cur',ty',h5,h6,fun i e' j x hi hj=>⟨(h7 i e' j x hi hj).1,(h7 i e' j x hi hj).2.mono (Keep.refl _ _) (hls _)⟩⟩
   |mp i g=>exact fun hm=>YaW hm (Keep.refl _ _) (hls _) (fun _ h=>h)
 ·by_cases e:b=a
  ·simp_all
  ·simp only[e,if_false]at hb
   obtain⟨o',ho'⟩:=hr.live b hb
   simp_all
 ·by_cases e:b=a
  ·simp[e]
  ·simp only[e,if_false];exact hr.fresh b
 ·by_cases e1:b=a
  ·simp_all
  ·by_cases e2:c=a
   ·simp_all
   ·simp only[e1,e2,if_false]at h1 h2
    exact hr.inj b c g _ _ _ _ h1 h2
theorem Ygj{h:HF}(hr:HR fm w L h){a nid:Nat}{o:AObj}(ha:h a=some (some o))(hn:h nid=none):
  LStep L (fun b=>if b=nid then L a else if b=a then .dead else L b) w.heap.size/\
   HR fm w (fun b=>if b=nid then L a else if b=a then .dead else L b) (fun b=>if b=nid then some (some o)else if b=a then some none else h b):=by
 have hne:a≠nid:=fun e=>by simp_all
 have hnf:L nid= .fresh:=(hr.fresh nid).2 hn
 have hnh: ∀g,L a≠ .hid g:=fun g e=>by have:=hr.obj a o ha;rw[e]at this;trivial
 have hownc: ∀b,OwnC (fun b=>if b=nid then L a else if b=a then .dead else L b) b->OwnC L b:=fun b hb=>by
  rcases hb with⟨c,e,k,hc⟩| ⟨c,i,hc⟩
  ·by_cases e1:c=nid
   ·simp only[e1,if_true]at hc;exact .inl ⟨a,_,_,hc⟩
   ·by_cases ec:c=a
    ·simp_all
    ·simp only[e1,ec,if_false]at hc;exact .inl ⟨c,_,_,hc⟩
  ·by_cases e1:c=nid
   ·simp only[e1,if_true]at hc;exact .inr ⟨a,i,hc⟩
   ·by_cases ec:c=a
    ·simp_all
    ·simp only[e1,ec,if_false]at hc;exact .inr ⟨c,i,hc⟩
 have hls:LStep L (fun b=>if b=nid then L a else if b=a then .dead else L b) w.heap.size:=by
  refine⟨fun b hb=> ?_,fun b hb=> ?_,fun b hb=>.inl (hownc b hb)⟩
  ·grind
  ·rcases hb with hb| ⟨c,hc⟩
   ·exact .inl (.inl (hownc b hb))
   ·by_cases e1:c=nid
    ·simp_all
    ·by_cases ec:c=a
     ·simp_all
     ·simp only[e1,ec,if_false]at hc;exact .inl (.inr ⟨c,hc⟩)
 have conv: ∀(loc:Loc) (o':AObj),ObjR fm w L loc o'->ObjR fm w (fun b=>if b=nid then L a else if b=a then .dead else L b) loc o':=by
  intro loc o'
  cases loc with
  |fresh=>exact id
  |dead=>exact id
  |nil=>exact id
  |hid g=>exact id
  |cells g es' cap'=>
   rintro⟨h0,h1,h2,h3,h4,cur',ty',h5,h6,h7⟩
   exact⟨h0,h1,h2,h3,h4,cur',ty',h5,h6,fun i e' j x hi hj=>⟨(h7 i e' j x hi hj).1,(h7 i e' j x hi hj).2.mono (Keep.refl _ _) hls⟩⟩
  |mp i g=>exact fun hm=>YaW hm (Keep.refl _ _) hls (fun _ h=>h)
 refine⟨hls,fun b o' hb=> ?_,fun b hb=> ?_,fun b=> ?_,fun b c g e k e' k' h1 h2=> ?_,fun b g hb=>by
  by_cases e1:b=nid
  ·simp_all
  ·by_cases e:b=a
   ·simp_all
   ·simp only[e1,e,if_false]at hb;exact⟨(hr.hid b g hb).1,fun hc=>(hr.hid b g hb).2 (hownc g hc)⟩,fun b o' g es' cap' h1 h2 h3=>by
  by_cases e1:b=nid
  ·simp only[e1,if_true,Option.some.injEq]at h1 h3;subst h1;exact hr.byt a o g es' cap' ha h2 h3
  ·by_cases e:b=a
   ·simp_all
   ·simp only[e1,e,if_false]at h1 h3;exact hr.byt b o' g es' cap' h1 h2 h3,fun b i g hb=>by
  by_cases e1:b=nid
  ·subst e1
   simp only[if_true]at hb
   refine⟨⟨o,by simp⟩,fun c j hc=> ?_⟩
   by_cases e2:c=b
   ·omega
   ·by_cases e3:c=a
    ·simp_all
    ·simp only[e2,e3,if_false]at hc
     exact absurd ((hr.mps a i g hb).2 c j hc).symm e3
  ·by_cases e:b=a
   ·simp_all
   ·simp only[e1,e,if_false]at hb
    obtain⟨⟨o',ho'⟩,k⟩:=hr.mps b i g hb
    grind,hr.tab.loc fun b _=>hownc b⟩
 ·by_cases e1:b=nid
  ·simp only[e1,if_true]at hb
   injection hb with hb;injection hb with hb;subst hb
   simp only[e1,if_true]
   exact conv _ _ (hr.obj a o ha)
  ·by_cases e:b=a
   ·simp_all
   ·simp only[e1,e,if_false]at hb⊢
    exact conv _ _ (hr.obj b o' hb)
 ·by_cases e1:b=nid
  ·simp_all
  ·by_cases e:b=a
   ·simp_all
   ·simp only[e1,e,if_false]at hb
    obtain⟨o',ho'⟩:=hr.live b hb
    simp_all
 ·by_cases e1:b=nid
  ·simp only[e1,if_true]
   constructor
   ·intro hf;have:=hr.obj a o ha;rw[hf]at this;trivial
   simp
  ·by_cases e:b=a
   ·simp_all
   ·simp only[e1,e,if_false];exact hr.fresh b
 ·by_cases e1:b=nid<;>by_cases e2:c=nid
  ·omega
  ·simp only[e1,if_true]at h1
   by_cases e3:c=a
   ·simp_all
   ·simp only[e2,e3,if_false]at h2
    exact absurd (hr.inj c a g _ _ _ _ h2 h1) e3
  ·simp only[e2,if_true]at h2
   by_cases e3:b=a
   ·simp_all
   ·simp only[e1,e3,if_false]at h1
    exact absurd (hr.inj b a g _ _ _ _ h1 h2) e3
  ·by_cases e3:b=a
   ·simp_all
   ·by_cases e4:c=a
    ·simp_all
    ·simp only[e1,e2,e3,e4,if_false]at h1 h2
     exact hr.inj b c g _ _ _ _ h1 h2
theorem YlH{g:Nat}{cur cur':Array Value}{ty:TypeId}{fr:Nat×Nat}(hg:w.heap[g]?=some (.cells cur ty fr)){b:Nat}{t:TypeId}(h:TyAt w b t):TyAt (w.setRow g cur') b t:=by
 by_cases e:b=g
 ·subst e
  obtain⟨c,f,h⟩:=h
  rw[hg]at h;injection h with h;injection h with _ h2 h3;subst h2
  refine⟨cur',fr,?_⟩
  simp[World.setRow,Array.getElem?_modify,hg]
 ·exact h.of (setRow_other w g b cur' e)
theorem Ydg{h:HF}(hr:HR fm w L h){a g es cap:Nat}{o:AObj}(ha:h a=some (some o))(hL:L a= .cells g es cap){cur cur':Array Value}{ty:TypeId}
  (hg:w.heap[g]?=some (.cells cur ty (0,0))) (hsz:cur'.size=cap*es) {el:List (List AV)} (hlc:el.length<=cap) (hel: ∀e∈el,e.length=es)
  (hrr:RR fm w L es cur' el):
  Keep L w (w.setRow g cur')/\HR fm (w.setRow g cur') L (fun b=>if b=a then some (some ⟨o.es,el⟩)else h b):=by
 have hk:Keep L w (w.setRow g cur'):=⟨rfl,rfl,rfl,by simp,fun b hb ho=>setRow_other w g b cur' (fun e=>ho (e▸ .inl ⟨a,es,cap,hL⟩)),fun b t ht=>YlH hg ht⟩
 have hobja:=hr.obj a o ha
 rw[hL]at hobja
 obtain⟨hwd,hes,_,hcm,_⟩:=hobja
 refine⟨hk,fun b o' hb=> ?_,fun b hb=> ?_,fun b=> ?_,hr.inj,fun b g hb=>by simpa using hr.hid b g hb,fun b o' g' es' cap' h1 h2 h3=>hk.typ _ _ (by
  by_cases e:b=a
  ·subst e
   simp at h1;subst h1
   exact hr.byt b o g' es' cap' ha h2 h3
  ·simp[e]at h1;exact hr.byt b o' g' es' cap' h1 h2 h3),fun b i g' hb=>by
  obtain⟨⟨o',ho'⟩,k⟩:=hr.mps b i g' hb
  grind,hr.tab.mono hk fun _ h=>.inl h⟩
 ·by_cases e:b=a
  ·subst e
   simp at hb
   subst hb
   rw[hL]
   exact⟨hwd,hes,hlc,hcm,hel,cur',ty,setRow_heap w g cur cur' ty _ hg,hsz,fun i e' j x hi hj=>⟨(hrr i e' j x hi hj).1,(hrr i e' j x hi hj).2.mono hk (LStep.refl _ _)⟩⟩
  ·simp[e]at hb
   have hobj:=hr.obj b o' hb
   revert hobj
   cases hLb:L b with
   |fresh=>exact id
   |dead=>exact id
   |nil=>exact id
   |hid g=>exact id
   |cells g' es' cap'=>
    rintro⟨h0,h1,h2,h3,h4,cur2,ty',h5,h6,h7⟩
    refine⟨h0,h1,h2,h3,h4,cur2,ty',?_,h6,fun i e' j x hi hj=>⟨(h7 i e' j x hi hj).1,(h7 i e' j x hi hj).2.mono hk (LStep.refl _ _)⟩⟩
    rw[setRow_other w g g' cur' (fun eg=>e (hr.inj b a g _ _ _ _ (by rw[<-eg];exact hLb) hL))]
    exact h5
   |mp i g'=>
    intro hm
    obtain⟨_,hm1,hm2⟩:=hr.mpb hLb
    exact YaW hm hk (LStep.refl _ _) (fun ob h1=>by
     rw[setRow_other w g g' cur' (fun eg=>by grind)]
     exact h1)
 ·by_cases e:b=a
  ·simp_all
  ·obtain⟨o',ho'⟩:=hr.live b hb
   simp_all
 ·by_cases e:b=a
  ·simp_all
  ·simp only[e,if_false];exact hr.fresh b
theorem YbT{h:HF}{nid:Nat}(hr:HR fm w L h)(hn:h nid=none){es:Nat}(n:Nat)(bb:Bool)(hbb:es=0->bb=true):
  LStep L (fun a=>if a=nid then .nil bb else L a) n/\HR fm w (fun a=>if a=nid then .nil bb else L a) (appU h nid (.push (some ⟨es,[]⟩))):=by
 have hnf:L nid= .fresh:=(hr.fresh nid).2 hn
 have hownc: ∀b,OwnC (fun a=>if a=nid then .nil bb else L a) b->OwnC L b:=fun b hb=>by
  rcases hb with⟨a,e,c,hac⟩| ⟨a,i,hac⟩
  ·by_cases e:a=nid
   ·simp_all
   ·simp[e]at hac;exact .inl ⟨a,_,_,hac⟩
  ·by_cases e:a=nid
   ·simp_all
   ·simp[e]at hac;exact .inr ⟨a,i,hac⟩
 have hls: ∀n,LStep L (fun a=>if a=nid then .nil bb else L a) n:=fun n=>by
  refine⟨fun a ha=> ?_,fun b hb=> ?_,fun b hb=>.inl (hownc b hb)⟩
  ·grind
  ·rcases hb with hb| ⟨a,ha⟩
   ·exact .inl (.inl (hownc b hb))
   ·by_cases e:a=nid
    ·simp_all
    ·simp[e]at ha;exact .inl (.inr ⟨a,ha⟩)
 refine⟨hls n,fun a o hao=> ?_,fun a ha=> ?_,fun a=> ?_,fun a b g e c e' c' ha hb=> ?_,fun a g ha=>by
  by_cases e:a=nid
  ·simp_all
  ·simp[e]at ha;exact⟨(hr.hid a g ha).1,fun hc=>(hr.hid a g ha).2 (hownc g hc)⟩,fun b o' g es' cap' h1 h2 h3=>by
  by_cases e:b=nid
  ·simp_all
  ·simp[appU,e]at h1 h3;exact hr.byt b o' g es' cap' h1 h2 h3,fun a i g ha=>by
  by_cases e:a=nid
  ·simp_all
  ·simp only[e,if_false]at ha
   obtain⟨⟨o,ho⟩,k⟩:=hr.mps a i g ha
   refine⟨⟨o,by simp[appU,e,ho]⟩,fun b j hb=> ?_⟩
   grind,hr.tab.loc fun b _=>hownc b⟩
 ·by_cases e:a=nid
  ·subst e
   simp[appU]at hao
   subst hao
   simp only[if_true]
   trivial
  ·simp[appU,e]at hao
   have hobj:=hr.obj a o hao
   simp only[e,if_false]
   revert hobj
   cases hL:L a with
   |fresh=>exact id
   |dead=>exact id
   |nil=>exact id
   |hid g=>exact id
   |cells g es' cap'=>
    rintro⟨h0,h1,h2,h3,h4,cur',ty',h5,h6,h7⟩
    exact⟨h0,h1,h2,h3,h4,cur',ty',h5,h6,fun i e' j x hi hj=>⟨(h7 i e' j x hi hj).1,(h7 i e' j x hi hj).2.mono (Keep.refl _ _) (hls _)⟩⟩
   |mp i g=>exact fun hm=>YaW hm (Keep.refl _ _) (hls _) (fun _ h=>h)
 ·by_cases e:a=nid
  ·subst e;exact⟨⟨es,[]⟩,by simp[appU]⟩
  ·simp only[e,if_false]at ha
   obtain⟨o,ho⟩:=hr.live a ha
   exact⟨o,by simp[appU,e,ho]⟩
 ·by_cases e:a=nid
  ·subst e;simp[appU]
  ·simp only[e,if_false,appU];exact hr.fresh a
 ·by_cases e1:a=nid
  ·simp_all
  ·by_cases e2:b=nid
   ·simp_all
   ·simp only[e1,e2,if_false]at ha hb
    exact hr.inj a b g _ _ _ _ ha hb
theorem YeJ(w:World)(L:Nat->Loc)(o:Obj):Keep L w (w.alloc o):=
 ⟨rfl,rfl,rfl,by simp,fun b hb _=>Below.heap_alloc w o b hb,fun b t h=>h.of (Below.heap_alloc w o b h.lt)⟩
theorem YlI{h:HF}(hr:HR fm w L h)(o:Obj):HR fm (w.alloc o) L h:=
 hr.mono (YeJ w L o) (fun b hb _=>Below.heap_alloc w o b hb)
end
end Go.Abs
namespace Go.Abs
open Go Go.RowKit
section
variable{P:Program}{fm:FM}{w:World}{L:Nat->Loc}
theorem Yvo(off:Nat): ∀(vs:List Value) (k:Nat) (R:Array Value),
  ((vs.zipIdx k).foldl (fun cs p=>cs.setIfInBounds (off+p.2) p.1) R).size=R.size/\
  ∀j,j<R.size->((vs.zipIdx k).foldl (fun cs p=>cs.setIfInBounds (off+p.2) p.1) R).getD j undef=
   if off+k<=j/\j<off+k+vs.length then vs.getD (j-off-k) undef else R.getD j undef
 | [],k,R=>⟨rfl,fun j hj=>by simp;omega⟩
 |v::vs,k,R=>by
  obtain⟨h1,h2⟩:=Yvo off vs (k+1) (R.setIfInBounds (off+k) v)
  simp only[List.zipIdx_cons,List.foldl_cons]
  refine⟨by simp_all,fun j hj=> ?_⟩
  rw[h2 j (by simp_all)]
  by_cases hc:off+(k+1)<=j/\j<off+(k+1)+vs.length
  ·grind
  ·rw[if_neg hc]
   by_cases hj2:j=off+k
   ·simp_all
   ·rw[if_neg (by grind)]
    have:(R.setIfInBounds (off+k) v)[j]?=R[j]?:=by grind
    simp_all
theorem YlJ(off:Nat)(v:Value)(R:Array Value):v.cells.zipIdx.foldl (fun cs (p:Value×Nat)=>cs.setIfInBounds (off+p.2) p.1) R=
  (v.cells.toList.zipIdx 0).foldl (fun cs p=>cs.setIfInBounds (off+p.2) p.1) R:=by
 rw[<-Array.foldl_toList,Array.toList_zipIdx]
theorem Ygk(place:Nat->Option (Nat×Nat))(R:Array Value)(i:Nat)(v:Value)(rest:List (Nat×Value)){off n:Nat}(hp:place i=some (off,n))
  (hs:v.cells.size=n) (hb:off+n<=R.size):
  Instr.fill place R ((i,v)::rest)=Instr.fill place ((v.cells.toList.zipIdx 0).foldl (fun cs p=>cs.setIfInBounds (off+p.2) p.1) R) rest:=by
 rw[<-YlJ]
 simp only[Instr.fill,hp]
 grind
theorem Ygl(xs:Array Value)(j:Nat):xs.toList.getD j undef=xs.getD j undef:=by
 simp
theorem YlK{R:Array Value}{l cs:List AV}{v:Value}{off:Nat}(hR:CR fm w L R l)(hv:CR fm w L v.cells cs)(hb:off+cs.length<=l.length):
  CR fm w L ((v.cells.toList.zipIdx 0).foldl (fun cs p=>cs.setIfInBounds (off+p.2) p.1) R) (splice l off cs):=by
 obtain⟨h1,h2⟩:=Yvo off v.cells.toList 0 R
 have hl:(splice l off cs).length=l.length:=by simp[splice];omega
 refine⟨by rw[h1,hl,hR.1],fun j c hc=> ?_⟩
 have hjl:j<l.length:=by grind
 rw[h2 j (by rw[hR.1];omega)]
 have hvs:v.cells.toList.length=cs.length:=by simpa using hv.1
 simp only[splice]at hc
 by_cases hin:off<=j/\j<off+cs.length
 ·rw[if_pos (by omega)]
  rw[show j-off-0=j-off by omega,Ygl]
  rw[Yw9,Yw0 (by grind),YwU (by grind)]at hc
  have:j-(List.take off l).length=j-off:=by grind
  rw[this]at hc
  exact hv.2 _ c hc
 ·rw[if_neg (by omega)]
  by_cases hlt:j<off
  ·rw[Yw9,YwU (by grind),Yw8,if_pos hlt]at hc
   exact hR.2 j c hc
  ·rw[Yw0 (by grind),Yxh]at hc
   have:off+cs.length+(j-(List.take off l++cs).length)=j:=by grind
   rw[this]at hc
   exact hR.2 j c hc
theorem Ygm{a:Act}{env:Env}(he:ER fm w L a env)(place:Nat->Option (Nat×Nat)): ∀(ps:List (Nat×Operand)) (aps:List (Nat×Nat×Opd)) (R:Array Value) (l:List AV)
  (K:List AV->Prop),ps.length=aps.length->(∀(k:Nat) (p:Nat×Operand) (q:Nat×Nat×Opd),ps[k]?=some p->aps[k]?=some q->place p.1=some (q.1,q.2.1)/\q.2.2=YtP fm p.2)->
  CR fm w L R l->Yvb l env aps K->
  ∃R' cs,Instr.fill place R (ps.map fun p=>(p.1,a.eval p.2))=some R'/\CR fm w L R' cs/\K cs
 | [],[],R,l,K,_,_,hR,hk=>⟨R,l,rfl,hR,hk⟩
 | [],_::_,_,_,_,h,_,_,_=>by grind
 |_::_,[],_,_,_,h,_,_,_=>by grind
 |p::ps,(off,n,x)::aps,R,l,K,hlen,hcor,hR,hk=>by
  obtain⟨hp,hx⟩:=hcor 0 p (off,n,x) rfl rfl
  subst hx
  obtain⟨cs,hcs,hn,hb,hk⟩:=hk
  have hv:=Ydf (Yad he p.2) hcs
  have hsz:(a.eval p.2).cells.size=n:=by rw[hv.1,hn]
  simp only[YwS]
  rw[Ygk place R p.1 (a.eval p.2) _ hp hsz (by rw[hR.1];exact hb)]
  exact Ygm he place ps aps _ _ K (by simp_all) (fun k p q h1 h2=>hcor (k+1) p q (by trivial) (by trivial))
   (YlK hR hv (by omega)) hk
def ERo(fm:FM)(w:World)(L:Nat->Loc)(es:Nat)(R:Array Value)(l:List (List AV)):Prop:=
 R.size=l.length*es/\ (∀e∈l,e.length=es)/\RR fm w L es R l
theorem YlL{es:Nat}{R:Array Value}{l:List (List AV)}{cs:List AV}{v:Value}{i:Nat}(hR:ERo fm w L es R l)(hv:CR fm w L v.cells cs)
  (hn:cs.length=es) (hi:i<l.length):
  ERo fm w L es ((v.cells.toList.zipIdx 0).foldl (fun cs p=>cs.setIfInBounds (i*es+p.2) p.1) R) (l.set i cs):=by
 obtain⟨h1,h2⟩:=Yvo (i*es) v.cells.toList 0 R
 obtain⟨hs,hes,hrr⟩:=hR
 have hvs:v.cells.toList.length=es:=by rw[<-hn];simpa using hv.1
 refine⟨by simp_all,fun e he=> ?_,fun k e j c hk hc=> ?_⟩
 ·grind
 ·have hkl:k<l.length:=by grind
  have hjl:=(YwP.1 hc).1
  have hel:e.length=es:=by
   grind
  have hb1:(k+1)*es<=l.length*es:=YxA es hkl
  have hb2:(i+1)*es<=l.length*es:=YxA es hi
  rw[YxB]at hb1 hb2
  rw[h2 (k*es+j) (by omega)]
  by_cases hki:k=i
  ·subst hki
   rw[if_pos (by omega),Ygl,show k*es+j-k*es-0=j by omega]
   rw[Yw4 hkl]at hk
   injection hk with hk
   subst hk
   exact hv.2 j c hc
  ·rw[if_neg]
   ·rw[YwV (fun e=>hki e.symm)]at hk
    exact hrr k e j c hk hc
   ·rcases Nat.lt_or_gt_of_ne hki with h|h
    ·have:(k+1)*es<=i*es:=YxA es h
     grind
    ·have:(i+1)*es<=k*es:=YxA es h
     grind
theorem Ygn{es:Nat}{env:Env}: ∀(aps:List (Nat×Opd)) (l:List (List AV)) (K:List (List AV)->Prop),Yup es l env aps K->
  Yup es l env aps fun l'=>K l'/\l'.length=l.length
 | [],l,K,h=>⟨h,rfl⟩
 | (i,x)::aps,l,K,h=>by
   obtain⟨cs,hcs,hn,hi,hk⟩:=h
   refine⟨cs,hcs,hn,hi,?_⟩
   have:=Ygn aps (l.set i cs) K hk
   simp_all
theorem YeK{a:Act}{env:Env}(he:ER fm w L a env){es:Nat}: ∀(ps:List (Nat×Operand)) (R:Array Value) (l:List (List AV))
  (K:List (List AV)->Prop),ERo fm w L es R l->Yup es l env (ps.map fun p=>(p.1,YtP fm p.2)) K->
  ∃R' l',Instr.fill (fun i=>some (i*es,es)) R (ps.map fun p=>(p.1,a.eval p.2))=some R'/\ERo fm w L es R' l'/\K l'
 | [],R,l,K,hR,hk=>⟨R,l,rfl,hR,hk⟩
 |p::ps,R,l,K,hR,hk=>by
  obtain⟨cs,hcs,hn,hi,hk⟩:=hk
  have hv:=Ydf (Yad he p.2) hcs
  have hsz:(a.eval p.2).cells.size=es:=by rw[hv.1,hn]
  have hb2:(p.1+1)*es<=l.length*es:=YxA es hi
  rw[YxB]at hb2
  simp only[YwS]
  rw[Ygk _ R p.1 (a.eval p.2) _ rfl hsz (by rw[hR.1];omega)]
  exact YeK he ps _ _ K (YlL hR hv hn hi) hk
theorem YeL(z:Array Value)(n:Nat)(h1: ∀x∈z.toList,x.oneCell'=true):
  ERo fm w L z.size ((Array.range (n*z.size)).map (z[· % z.size]!)) (List.replicate n (z.toList.map zc)):=by
 refine⟨by simp,fun e he=> ?_,fun i e j c hi hj=> ?_⟩
 ·simp_all
 ·rw[Yxp]at hi
  split at hi
  ·rename_i hin
   injection hi with hi
   subst hi
   cases hz:z.toList[j]? with
   |none=>simp_all
   |some y=>
    simp[hz]at hj
    subst hj
    obtain⟨hlt,hy⟩:=YwP.1 hz
    have hlt':j<z.size:=by trivial
    have hb:(i+1)*z.size<=n*z.size:=YxA _ hin
    have hr:((Array.range (n*z.size)).map (z[· % z.size]!)).getD (i*z.size+j) undef=y:=by
     have hidx:i*z.size+j< ((Array.range (n*z.size)).map (z[· % z.size]!)).size:=by grind
     have hm:(i*z.size+j) % z.size=j:=by rw[Nat.mul_comm,Nat.mul_add_mod];exact Nat.mod_eq_of_lt hlt'
     simp_all
    rw[hr]
    exact⟨h1 y (hy▸Yxa hlt),Yde y⟩
  trivial
end
end Go.Abs
namespace Go.Abs
open Go Go.RowKit
section
variable{P:Program}{fm:FM}{w:World}{L:Nat->Loc}
theorem Ybi{t:TypeId}{z:List Value}(h:Yt3 P t=some z):
  ∃i z0,P.info? t=some i/\i.zero=some z0/\z0.cells.toList=z/\z0.cells.size=i.size/\i.size=z.length/\0<z.length/\z.length<=1048576/\i.bytes<=1024/\ ∀x∈z,x.oneCell'=true:=by
 unfold Yt3 at h
 cases hi:P.info? t with
 |none=>simp_all
 |some i=>
  cases hz:i.zero with
  |none=>simp_all
  |some z0=>
   simp only[hi,hz]at h
   split at h
   ·rename_i hc
    obtain⟨h1,h2,h3,h4,h5⟩:=hc
    injection h with h
    subst h
    refine⟨i,z0,rfl,hz,rfl,h1,by grind,by simp_all,by simp_all,h4,fun x hx=> ?_⟩
    obtain⟨j,hj,e⟩:=List.getElem_of_mem hx
    grind
   trivial
theorem Ycx{a b:List Value}{k:Nat}(h:k<a.length):(a++b).toArray.getD k undef=a.getD k undef:=by
 rw[YxS];grind
theorem Ydh{a b:List Value}{k:Nat}:(a++b).toArray.getD (a.length+k) undef=b.getD k undef:=by
 rw[YxS];grind
theorem getD_append_r'{a b:List Value}{n k:Nat}(h:a.length=n):(a++b).toArray.getD (n+k) undef=b.getD k undef:=by
 subst h;exact Ydh
theorem Ygo{es:Nat}{cur A:Array Value}{el l:List (List AV)}(hel: ∀e∈el,e.length=es)(h0:RR fm w L es cur el)
  (hA1: ∀k,k<el.length*es->A.getD k undef=cur.getD k undef)
  (hA2: ∀i e j c,l[i]?=some e->e[j]?=some c->(A.getD ((el.length+i)*es+j) undef).oneCell'=true/\VR fm w L (A.getD ((el.length+i)*es+j) undef) c):
  RR fm w L es A (el++l):=by
 intro i e j c hi hj
 by_cases h:i<el.length
 ·rw[YwU h]at hi
  have he:=hel e (YwQ hi)
  have hjl:=(YwP.1 hj).1
  have hb:(i+1)*es<=el.length*es:=YxA _ h
  rw[YxB]at hb
  rw[hA1 _ (by omega)]
  exact h0 i e j c hi hj
 grind
def flat(es m:Nat)(vals:Nat->Nat->Value):List Value:=(List.range (m*es)).map fun k=>vals (k/es) (k % es)
theorem Ygp{es m:Nat}{vals:Nat->Nat->Value}{i j:Nat}(hi:i<m)(hj:j<es):(flat es m vals).getD (i*es+j) undef=vals i j:=by
 have hb:(i+1)*es<=m*es:=YxA _ hi
 rw[YxB]at hb
 have hlt:i*es+j<m*es:=by omega
 have h1:(i*es+j)/es=i:=by rw[Nat.mul_comm,Nat.mul_add_div (by omega),Nat.div_eq_of_lt hj];omega
 have h2:(i*es+j) % es=j:=by rw[Nat.mul_comm,Nat.mul_add_mod,Nat.mod_eq_of_lt hj]
 simp[flat,List.getD,YwR,Yxb hlt,h1,h2]
theorem Ygq{x:Value}{es:Nat}{l:List (List AV)}(h:VR fm w L x (.rd es l))(hne:l≠ []):
  ∃(b o c:Nat) (vals:Nat->Nat->Value),x= .slice (some ⟨b,o,none⟩) l.length c/\0<es/\ (∀e∈l,e.length=es)/\
   (∀i j,i<l.length->j<es->w.cell? ⟨b,o+i*es+j,none⟩=some (vals i j)/\ (vals i j).oneCell'=true)/\
   (∀i e j y,l[i]?=some e->e[j]?=some y->VR fm w L (vals i j) y):=by
 cases h with
 |rd0 A es c=>trivial
 |rd b o c es l vals hne hes hes0 hlc hb hbs hc h1 hr=>
  refine⟨b,o,c,vals,rfl,hes0,hes,fun i j hi hj=> ?_,hr⟩
  have he:=hes _ (Yxa hi)
  have hj':=YwO (show j< (l[i]).length by omega)
  simp_all
theorem Ygr{b o es m:Nat}{vals:Nat->Nat->Value}(hes:0<es)
  (h: ∀i j,i<m->j<es->w.cell? ⟨b,o+i*es+j,none⟩=some (vals i j)/\ (vals i j).oneCell'=true):
  (flat es m vals).length=m*es/\ (∀j u,(flat es m vals)[j]?=some u->w.cell? ((⟨b,o,none⟩:Addr).add j)=some u)/\ ∀u∈flat es m vals,u.oneCell'=true:=by
 have key: ∀k,k<m*es->k/es<m/\k % es<es/\k/es*es+k % es=k:=fun k hk=>
  ⟨(Nat.div_lt_iff_lt_mul hes).2 hk,Nat.mod_lt _ hes,by rw[Nat.mul_comm];exact Nat.div_add_mod k es⟩
 refine⟨by simp[flat],fun j u hu=> ?_,fun u hu=> ?_⟩
 ·have hj:j<m*es:=by have:=(YwP.1 hu).1;simpa[flat]using this
  simp[flat,YwR,Yxb hj]at hu
  obtain⟨k1,k2,k3⟩:=key j hj
  have:=(h _ _ k1 k2).1
  rw[Nat.add_assoc,k3]at this
  rw[Ya3,this,hu]
 ·simp only[flat,Yw3,List.mem_range]at hu
  grind
theorem Ygs{os:Nat}{h:HF}{nid:Nat}(hr:HR fm w L h)(hn:h nid=none){e:TypeId}{es need old:Nat}{olds news:List Value}{z:Value}{el l:List (List AV)}
  (hwd:wd os=es) (hty:os=0->e=fm.bu) (hes:0<es) (hz:z.cells.size=es) (hlo:olds.length=el.length*es) (hln:news.length=l.length*es) (hneed:need=el.length+l.length) (hm:need<=maxEl)
  (hel: ∀e∈el,e.length=es) (hl: ∀e∈l,e.length=es) (h0:RR fm w L es olds.toArray el)
  (h2: ∀i e j c,l[i]?=some e->e[j]?=some c->(news.getD (i*es+j) undef).oneCell'=true/\VR fm w L (news.getD (i*es+j) undef) c):
  ∃L',Keep L w (w.drew.alloc (.cells (olds.toArray++news.toArray++Builtin.zeroCells z.cells (grownCap w need old e-need)) e))/\
   LStep L L' w.heap.size/\
   HR fm (w.drew.alloc (.cells (olds.toArray++news.toArray++Builtin.zeroCells z.cells (grownCap w need old e-need)) e)) L' (appU h nid (.push (some ⟨os,el++l⟩)))/\
   VR fm (w.drew.alloc (.cells (olds.toArray++news.toArray++Builtin.zeroCells z.cells (grownCap w need old e-need)) e)) L'
    (.slice (some ⟨w.heap.size,0,none⟩) need (grownCap w need old e)) (.ref nid 0 need):=by
 have hge:=grownCap_ge w need old e
 have hml:need<=maxLen:=by simp only[maxEl,maxLen]at hm⊢;omega
 have hcm:=grownCap_le_maxLen w need old e hml
 have hsz:(olds.toArray++news.toArray++Builtin.zeroCells z.cells (grownCap w need old e-need)).size=grownCap w need old e*es:=by
  simp only[Array.size_append,List.size_toArray,size_zeroCells,hz,hlo,hln,<-YxB]
  simp_all
 have hget: ∀k,(olds.toArray++news.toArray++Builtin.zeroCells z.cells (grownCap w need old e-need)).getD k undef=
   (olds++(news++(Builtin.zeroCells z.cells (grownCap w need old e-need)).toList)).toArray.getD k undef:=by
  intro k
  congr 1
  simp
 obtain⟨hk,hls,hhr⟩:=YeE (os:=os) (w':=w.drew.alloc (.cells (olds.toArray++news.toArray++Builtin.zeroCells z.cells (grownCap w need old e-need)) e)) hr hn
  (cap:=grownCap w need old e) (el:=el++l) rfl rfl rfl rfl hes (by simp_all) hcm
  (fun e' he'=>(Yxi.1 he').elim (hel e') (hl e')) hsz
  (Ygo (cur:=olds.toArray) hel h0 (fun k hk=>by
   rw[hget,Ycx (by omega)]
   simp)
   (fun i e' j c hi hj=>by
    have hil:=(YwP.1 hi).1
    have hjl:=(YwP.1 hj).1
    have hee:=hl e' (YwQ hi)
    have hb:(i+1)*es<=l.length*es:=YxA _ hil
    rw[YxB]at hb
    have e1:(el.length+i)*es+j=olds.length+(i*es+j):=by grind
    rw[hget,e1,Ydh]
    grind)) hwd hty
 refine⟨_,hk,hls,hhr,?_⟩
 have:=VR.refAt (fm:=fm) (w:=w.drew.alloc (.cells (olds.toArray++news.toArray++Builtin.zeroCells z.cells (grownCap w need old e-need)) e))
  (L:=fun a=>if a=nid then .cells w.heap.size es (grownCap w need old e)else L a) w.heap.size es (grownCap w need old e) nid 0 need (by simp) (by omega)
 simp_all
structure SrcOK(P:Program)(w:World)(t2:TypeId)(sz:Nat)(vx:Value)(n:Nat)(news:List Value):Prop where
 ut:(∃e,P.underlying t2=some (.slice e))\/P.underlying t2=some .string
 len: ∀W:World,(Builtin.lenOf vx).run P W= .ok n W
 cells: ∀W:World,W.heap=w.heap->(Builtin.firstCells sz n vx).run P W= .ok news.toArray W
 nl:news.length=n*sz
 one: ∀u∈news,u.oneCell'=true
section
variable{t t2 ty e:TypeId}{i:TypeInfo}{vx:Value}{n:Nat}{news:List Value}
theorem YlM(S:SrcOK P w t2 i.size vx n news)(ht:P.underlying t=some (.slice e))(hi:P.info? e=some i)(bt:TypeId)
  (g sLen sCap:Nat) (cur:Array Value) (hg:w.heap[g]?=some (.cells cur bt (0,0)))
  (hroom:sLen+n<=sCap) (hfit:sLen*i.size+news.length<=cur.size):
  (Builtin.append_ #[t,t2] ty #[.slice (some ⟨g,0,none⟩) sLen sCap,vx]).run P w=
   .ok (.slice (some ⟨g,0,none⟩) (sLen+n) sCap) (w.setRow g (cur.toList.take (sLen*i.size)++news++cur.toList.drop (sLen*i.size+news.length)).toArray):=by
 have hf:=S.cells w rfl
 have hst:=run_storeCells_at P g (sLen*i.size) bt news 0 cur w hg (by trivial) S.one
 simp only[Nat.add_zero]at hst
 rcases S.ut with⟨e2,hu⟩|hu<;>simp[Builtin.append_,run_underlying ht,run_underlying hu,sizeOf,typeInfo,hi,S.len,hroom,hf,Addr.add_lit,hst]
theorem Ygt(S:SrcOK P w t2 i.size vx 0 news)(ht:P.underlying t=some (.slice e))(hi:P.info? e=some i)
  (A:Option Addr) (sLen sCap:Nat) (hc:sLen<=sCap):
  (Builtin.append_ #[t,t2] ty #[.slice A sLen sCap,vx]).run P w= .ok (.slice A sLen sCap) w:=by
 have hf:=S.cells w rfl
 have hn:news=[]:=YwZ.1 (by rw[S.nl];simp)
 subst hn
 rcases S.ut with⟨e2,hu⟩|hu<;>cases A<;>simp[Builtin.append_,run_underlying ht,run_underlying hu,sizeOf,typeInfo,hi,S.len,hc,hf,storeCells]
theorem YlN(S:SrcOK P w t2 i.size vx n news)(z:Value)(ht:P.underlying t=some (.slice e))(hi:P.info? e=some i)(hz:i.zero=some z)
  (h0:0<n) (h63:(n:Int)<=9223372036854775807) (h48:n*i.bytes<=281474976710656):
  (Builtin.append_ #[t,t2] ty #[.slice none 0 0,vx]).run P w=
   .ok (.slice (some ⟨w.heap.size,0,none⟩) n (grownCap w n 0 e)) (w.drew.alloc (.cells (news.toArray++Builtin.zeroCells z.cells (grownCap w n 0 e-n)) e)):=by
 have hn:n≠0:=by omega
 have h63': ¬ (9223372036854775807< (n:Int)):=by omega
 have h48': ¬ (281474976710656<Builtin.nextslicecap n 0*i.bytes):=by rw[nextslicecap_zero h0];omega
 have hf:=S.cells w.drew rfl
 rcases S.ut with⟨e2,hu⟩|hu<;>simp[Builtin.append_,run_underlying ht,run_underlying hu,sizeOf,typeInfo,zeroValue,hi,hz,S.len,hn,h63',h48',Question.forced,run_firstCells_none,hf,newRow,grownCap]
theorem Ygu(S:SrcOK P w t2 i.size vx n news)(z:Value)(ht:P.underlying t=some (.slice e))(hi:P.info? e=some i)(hz:i.zero=some z)
  (b:Addr) (sLen sCap:Nat) (olds:List Value) (hlo:olds.length=sLen*i.size) (holds: ∀j v,olds[j]?=some v->w.cell? (b.add j)=some v)
  (hg:sCap<sLen+n) (h63:((sLen+n:Nat):Int)<=9223372036854775807) (hfit:Builtin.nextslicecap (sLen+n) sCap*i.bytes<=281474976710656):
  (Builtin.append_ #[t,t2] ty #[.slice (some b) sLen sCap,vx]).run P w=
   .ok (.slice (some ⟨w.heap.size,0,none⟩) (sLen+n) (grownCap w (sLen+n) sCap e))
    (w.drew.alloc (.cells (olds.toArray++news.toArray++Builtin.zeroCells z.cells (grownCap w (sLen+n) sCap e-(sLen+n))) e)):=by
 have hn: ¬ (sLen+n<=sCap):=by omega
 have h63': ¬ (9223372036854775807< ((sLen:Int)+(n:Int))):=by omega
 have h48': ¬ (281474976710656<Builtin.nextslicecap (sLen+n) sCap*i.bytes):=by omega
 have hf:=S.cells w.drew rfl
 have hfo:=run_firstCells_some (P:=P) w.drew i.size sLen b sLen sCap olds hlo (by trivial)
 rcases S.ut with⟨e2,hu⟩|hu<;>
 ·simp[Builtin.append_,run_underlying ht,run_underlying hu,sizeOf,typeInfo,zeroValue,hi,hz,S.len,hn,h63',h48',Question.forced,hf,hfo,newRow,grownCap]
  congr 2
  apply Array.ext'
  simp[Yw9]
end
theorem YeM{os:Nat}{t t2 ty e:TypeId}{z:List Value}(hwd:wd os=z.length)(hty:os=0->e=fm.bu)(ht:P.underlying t=some (.slice e))(hzt:Yt3 P e=some z)
  {h:HF} {nid:Nat} (hr:HR fm w L h) (hn:h nid=none) {vs vx:Value} {s:AV} {l:List (List AV)} {news:List Value}
  (hs:VR fm w L vs s) (hS:SrcOK P w t2 z.length vx l.length news)
  (hx: ∀i e j c,l[i]?=some e->e[j]?=some c->(news.getD (i*z.length+j) undef).oneCell'=true/\VR fm w L (news.getD (i*z.length+j) undef) c)
  {K:AV->List Upd->Prop} (hev:Yvz os z.length s l h nid K):
  ∃x v us w',(Builtin.append_ #[t,t2] ty #[vs,vx]).run P w= .ok x w'/\K v us/\OpPost fm w L (appF h nid us) v x w':=by
 obtain⟨i,z0,hi,hz,hzc,hzs,hil,hz0,hzm,hby,hz1⟩:=Ybi hzt
 have hzs':z0.cells.size=z.length:=by rw[hzs,hil]
 have f1:=hS.nl
 rw[hil.symm]at hS
 have hes:0<z.length:=hz0
 have emp:l.length<=maxEl->(∀e∈l,e.length=z.length)-> ∀(h':HF) (L0:Nat->Loc),HR fm w L0 h'->LStep L L0 w.heap.size->h' nid=none-> ∀A,(l=[]->os=0->A=none)->
   ∃x w',(Builtin.append_ #[t,t2] ty #[.slice A 0 0,vx]).run P w= .ok x w'/\OpPost fm w L (appU h' nid (.push (some ⟨os,l⟩))) (.ref nid 0 l.length) x w':=by
  intro hml hle h' L0 hr0 hls0 hn' A hA0
  by_cases hl0:l=[]
  ·subst hl0
   obtain⟨k1,k2⟩:=YbT hr0 hn' w.heap.size (decide (os=0)) (fun h=>by simpa using h)
   exact⟨_,w,Ygt hS ht hi A 0 0 (Yxs _),_,Keep.refl _ _,hls0.trans k1,k2,.refNil A nid (decide (os=0)) (by simp) (fun h=>hA0 rfl (by simpa using h))⟩
  ·have hlp:0<l.length:=by cases l with|nil=>exact absurd rfl hl0|cons a b=>simp
   have hbb:l.length*i.bytes<=140737488355328:=by
    have:=Nat.mul_le_mul hml hby;simp only[maxEl]at this;omega
   have hrun:(Builtin.append_ #[t,t2] ty #[.slice A 0 0,vx]).run P w=
     .ok (.slice (some ⟨w.heap.size,0,none⟩) l.length (grownCap w l.length 0 e))
      (w.drew.alloc (.cells ((([]:List Value)).toArray++news.toArray++Builtin.zeroCells z0.cells (grownCap w l.length 0 e-l.length)) e)):=by
    cases A with
    |none=>
     rw[YlN hS z0 ht hi hz hlp (by simp only[maxEl]at hml;omega) (by omega)]
     simp
    |some A=>
     have:=Ygu (ty:=ty) hS z0 ht hi hz A 0 0 [] (by simp) (by simp) (by omega)
      (by simp only[maxEl]at hml;omega) (growslice_fits (by omega) (by simpa using hbb))
     simpa using this
   obtain⟨L',k1,k2,k3,k4⟩:=Ygs (os:=os) (old:=0) (need:=l.length) (e:=e) (olds:=[]) (el:=[]) (z:=z0) hr0 hn' hwd hty hes hzs' (by simp) f1 (by simp) hml (by simp) hle
    (fun i e j c hi=>by simp at hi) (fun i e' j c hi hj=>⟨(hx i e' j c hi hj).1,(hx i e' j c hi hj).2.mono (Keep.refl _ _) hls0⟩)
   have kk:Keep L w (w.drew.alloc (.cells ((([]:List Value)).toArray++news.toArray++Builtin.zeroCells z0.cells (grownCap w l.length 0 e-l.length)) e)):=
    (Keep.refl L w).trans hls0 k1
   exact⟨_,_,hrun,L',kk,hls0.trans k2,by simpa using k3,k4⟩
 unfold Yvz at hev
 cases s with
 |emp=>
  obtain⟨hml,hle,hne0,hk⟩:=hev
  cases hs with
  |emp A=>
   obtain⟨x,w',h1,h2⟩:=emp hml hle h L hr (LStep.refl _ _) hn A (fun h1 h2=>absurd h1 (hne0 h2))
   exact⟨x,_,_,w',h1,hk,h2⟩
 |ref a off len=>
  obtain⟨o,ha,hoff,hlen,hoes,hml,hle,hk⟩:=hev
  have hne:a≠nid:=fun e=>by rw[e,hn]at ha;cases ha
  have hupd:appF h nid [.set a none,.push (some ⟨os,o.el++l⟩)]=fun b=>if b=nid then some (some ⟨os,o.el++l⟩)else if b=a then some none else h b:=by
   funext b
   simp[appF,appU]
  have fin: ∃x w',(Builtin.append_ #[t,t2] ty #[vs,vx]).run P w= .ok x w'/\OpPost fm w L (appF h nid [.set a none,.push (some ⟨os,o.el++l⟩)]) (.ref nid 0 (o.el.length+l.length)) x w':=by
   rw[hupd]
   subst hoff
   have hobj:=hr.obj a o ha
   cases hs with
   |refDead A c a off len hd hl=>rw[hd]at hobj;exact hobj.elim
   |refNil A a b hnil hA=>
    rw[hnil]at hobj
    have hel0:o.el=[]:=hobj.1
    rw[hel0]at hml
    obtain⟨k1,k2⟩:=Yby hr a w.heap.size (fun g e=>by have:=hr.obj a o ha;rw[e]at this;exact this)
    obtain⟨x,w',h1,h2⟩:=emp (by simpa using hml) hle _ _ k2 k1 (by simp[hn,Ne.symm hne]) A (fun _ h0=>hA (hobj.2 (hoes.trans h0)))
    refine⟨x,w',h1,?_⟩
    simpa[hel0,appU]using h2
   |refAt g es cap a off len hL hl=>
    rw[hL]at hobj
    obtain⟨hes1,hes0,hlc,hcm,hel,cur,bt,hg,hsz,hrr⟩:=hobj
    rw[hoes,hwd]at hes1
    subst hes1
    simp only[Nat.zero_mul,Nat.sub_zero]at*
    by_cases hl0:l=[]
    ·
     subst hl0
     obtain⟨k1,k2⟩:=Ygj hr ha hn
     refine⟨_,w,Ygt hS ht hi _ len cap (by omega),_,Keep.refl _ _,k1,?_,?_⟩
     ·have:(⟨os,o.el++[]⟩:AObj)=o:=by cases o;simp at hoes⊢;exact hoes.symm
      rw[this];exact k2
     ·have:=VR.refAt (fm:=fm) (w:=w) (L:=fun b=>if b=nid then L a else if b=a then .dead else L b) g z.length cap nid 0 len (by simp[hL]) (by omega)
      subst hlen
      simpa using this
    ·have hlp:0<l.length:=by cases l with|nil=>exact absurd rfl hl0|cons a b=>simp
     have hbb:(o.el.length+l.length)*i.bytes<=140737488355328:=by
      have:=Nat.mul_le_mul hml hby;simp only[maxEl]at this;omega
     subst hlen
     by_cases hroom:o.el.length+l.length<=cap
     ·
      have hfit:o.el.length*z.length+news.length<=cur.size:=by
       rw[f1,hsz,<-YxB];exact YxA _ hroom
      have hrun:=YlM (ty:=ty) hS ht hi bt g o.el.length cap cur hg hroom (by rw[hil];exact hfit)
      rw[hil]at hrun
      have hgetl: ∀k,k<o.el.length*z.length->
        ((cur.toList.take (o.el.length*z.length)++news++cur.toList.drop (o.el.length*z.length+news.length)).toArray).getD k undef=cur.getD k undef:=by
       intro k hk'
       rw[Yw9,Ycx (by simp;omega)]
       simp only[List.getD,Yw8,if_pos hk']
       rw[YxS];simp
      have hgetr: ∀k,k<l.length*z.length->
        ((cur.toList.take (o.el.length*z.length)++news++cur.toList.drop (o.el.length*z.length+news.length)).toArray).getD (o.el.length*z.length+k) undef=news.getD k undef:=by
       intro k hk'
       have e1:(cur.toList.take (o.el.length*z.length)).length=o.el.length*z.length:=by simp;omega
       rw[Yw9]
       rw[getD_append_r' e1]
       simp only[List.getD]
       rw[YwU (by omega)]
      obtain⟨s1,s2⟩:=Ydg (cur':=(cur.toList.take (o.el.length*z.length)++news++cur.toList.drop (o.el.length*z.length+news.length)).toArray)
       (el:=o.el++l) hr ha hL hg (by simp;rw[hsz]at*;omega) (by simpa using hroom) (fun e' he'=>(Yxi.1 he').elim (hel e') (hle e'))
       (Ygo hel hrr hgetl (fun i' e' j c' hi' hj'=>by
        have hil':=(YwP.1 hi').1
        have hjl:=(YwP.1 hj').1
        have hee:=hle e' (YwQ hi')
        have hb:(i'+1)*z.length<=l.length*z.length:=YxA _ hil'
        rw[YxB]at hb
        rw[show(o.el.length+i')*z.length+j=o.el.length*z.length+(i'*z.length+j) by rw[YxB];omega,hgetr _ (by omega)]
        exact hx i' e' j c' hi' hj'))
      rw[hoes]at s2
      obtain⟨k1,k2⟩:=Ygj (a:=a) (nid:=nid) (o:=⟨os,o.el++l⟩) s2 (by simp) (by simp[Ne.symm hne,hn])
      refine⟨_,_,hrun,_,s1,by simpa using k1,?_,?_⟩
      ·have e1:(fun b=>if b=nid then some (some (⟨os,o.el++l⟩:AObj))else if b=a then some none else if b=a then some (some ⟨os,o.el++l⟩)else h b)=
         fun b=>if b=nid then some (some ⟨os,o.el++l⟩)else if b=a then some none else h b:=by
        funext b;by_cases e1:b=nid<;>by_cases e2:b=a<;>simp[e1,e2]
       rw[<-e1];exact k2
      ·have:=VR.refAt (fm:=fm) (w:=w.setRow g (cur.toList.take (o.el.length*z.length)++news++cur.toList.drop (o.el.length*z.length+news.length)).toArray)
        (L:=fun b=>if b=nid then L a else if b=a then .dead else L b) g z.length cap nid 0 (o.el.length+l.length) (by simp[hL]) (by omega)
       simpa using this
     ·
      have hcut:o.el.length*z.length<=cur.size:=by rw[hsz];exact YxA _ hlc
      have hrun:=Ygu (ty:=ty) hS z0 ht hi hz ⟨g,0,none⟩ o.el.length cap (cur.toList.take (o.el.length*z.length)) (by simp[hil];omega)
       (fun j u hu=>by
        rw[Ya3]
        rw[Yw8]at hu
        split at hu
        ·rw[cell_of_row w g _ cur bt (0,0) hg];simpa using hu
        ·cases hu)
       (by omega) (by simp only[maxEl]at hml;omega) (growslice_fits (by omega) hbb)
      obtain⟨k1,k2⟩:=Yby hr a w.heap.size (fun g e=>by have:=hr.obj a o ha;rw[e]at this;exact this)
      obtain⟨L',g1,g2,g3,g4⟩:=Ygs (os:=os) (old:=cap) (need:=o.el.length+l.length) (e:=e) (z:=z0) (olds:=cur.toList.take (o.el.length*z.length)) (el:=o.el) (news:=news) (l:=l)
       k2 (nid:=nid) (by simp[Ne.symm hne,hn]) hwd hty hes hzs' (by simp;omega) f1 rfl hml hel hle
       (fun i' e' j c' hi' hj'=>by
        have hil':=(YwP.1 hi').1
        have hjl:=(YwP.1 hj').1
        have hee:=hel e' (YwQ hi')
        have hb:(i'+1)*z.length<=o.el.length*z.length:=YxA _ hil'
        rw[YxB]at hb
        have:((cur.toList.take (o.el.length*z.length)).toArray).getD (i'*z.length+j) undef=cur.getD (i'*z.length+j) undef:=by
         rw[YxS,YxS]
         simp only[List.getElem?_toArray,Yw8]
         rw[if_pos (by omega)];simp
        rw[this]
        exact⟨(hrr i' e' j c' hi' hj').1,(hrr i' e' j c' hi' hj').2.mono (Keep.refl _ _) k1⟩)
       (fun i' e' j c' hi' hj'=>by
        exact⟨(hx i' e' j c' hi' hj').1,(hx i' e' j c' hi' hj').2.mono (Keep.refl _ _) k1⟩)
      exact⟨_,_,hrun,L',(Keep.refl L w).trans k1 g1,k1.trans g2,by simpa[appU]using g3,g4⟩
  obtain⟨x,w',hx1,hx2⟩:=fin
  exact⟨x,_,_,w',hx1,hk,hx2⟩
 |_=>exact hev.elim
theorem Ygv{t e:TypeId}(ht:P.underlying t=some (.slice e)){es:Nat}{vx:Value}{l:List (List AV)}(hx:VR fm w L vx (.rd es l))(h0:0<es):
  ∃news,SrcOK P w t es vx l.length news/\ ∀i e j c,l[i]?=some e->e[j]?=some c->(news.getD (i*es+j) undef).oneCell'=true/\VR fm w L (news.getD (i*es+j) undef) c:=by
 by_cases hl0:l=[]
 ·subst hl0
  obtain⟨X,c,rfl⟩: ∃X c,vx= .slice X 0 c:=by
   cases hx with
   |rd0 A es c=>simp
   |rd b o c es l vals hne=>trivial
  refine⟨[],⟨.inl ⟨_,ht⟩,fun W=>by rfl,fun W _=> ?_,by simp,fun u hu=>by cases hu⟩,fun i e j c hi=>by trivial⟩
  cases X<;>simp[Builtin.firstCells,loadCells,loadCellsFrom]
 ·obtain⟨b,o,c,vals,rfl,hes,hel,hcells,hvr⟩:=Ygq hx hl0
  obtain⟨f1,f2,f3⟩:=Ygr hes hcells
  refine⟨flat es l.length vals,⟨.inl ⟨_,ht⟩,fun W=>by rfl,fun W hW=> ?_,f1,f3⟩,fun i e' j c' hi hj=> ?_⟩
  ·refine run_firstCells_some (P:=P) W es l.length ⟨b,o,none⟩ l.length c _ f1 (fun j v hj=> ?_)
   have:=f2 j v hj
   simpa[World.cell?,hW]using this
  ·have hil':=(YwP.1 hi).1
   have hjl:=(YwP.1 hj).1
   have hee:=hel e' (YwQ hi)
   rw[Ygp hil' (by omega)]
   simp_all
theorem Ygw{t ty e:TypeId}{z:List Value}(ht:P.underlying t=some (.slice e))(hzt:Yt3 P e=some z)
  {h:HF} {nid:Nat} (hr:HR fm w L h) (hn:h nid=none) {vs vx:Value} {s:AV} {l:List (List AV)}
  (hs:VR fm w L vs s) (hx:VR fm w L vx (.rd z.length l)) {K:AV->List Upd->Prop} (hev:appK z.length s l h nid K):
  ∃x v us w',(Builtin.append_ #[t,t] ty #[vs,vx]).run P w= .ok x w'/\K v us/\OpPost fm w L (appF h nid us) v x w':=by
 have h0:0<z.length:=by obtain⟨i,z0,hi,hz,hzc,hzs,hil,hz0,hzm,hby,hz1⟩:=Ybi hzt;omega
 obtain⟨news,h1,h2⟩:=Ygv ht hx h0
 exact YeM (Yay h0) (fun h=>absurd h (by omega)) ht hzt hr hn hs h1 h2 hev
theorem Ydi(s:ByteArray):(strA s).length=s.size:=by
 simp[strA,ByteArray.toList_eq]
theorem YlO{t2:TypeId}(ht:P.underlying t2=some .string)(s:ByteArray):
  SrcOK P w t2 1 (.string s) (strA s).length (Lib.strCells s)/\ ∀i e j c,(strA s)[i]?=some e->e[j]?=some c->((Lib.strCells s).getD (i*1+j) undef).oneCell'=true/\VR fm w L ((Lib.strCells s).getD (i*1+j) undef) c:=by
 rw[Ydi]
 refine⟨⟨.inr ht,fun W=>by rfl,fun W _=>Lib.run_firstCells_string W 1 s,by simp[Lib.strCells_length],Lib.strCells_oneCell s⟩,fun i e j c hi hj=> ?_⟩
 unfold strA at hi
 rw[YwR,YxE]at hi
 obtain⟨b,hb,rfl⟩:=hi
 cases j with
 |succ j=>trivial
 |zero=>
  simp at hj;subst hj
  have:(Lib.strCells s).getD (i*1+0) undef= .int .u8 b.toNat:=by
   rw[ByteArray.toList_eq]at hb
   simp[Lib.strCells,List.getD,hb]
  rw[this]
  exact⟨rfl,.v _⟩
end
end Go.Abs
namespace Go.Abs
open Go Go.RowKit
section
variable{P:Program}{fm:FM}{w:World}{L:Nat->Loc}
def YvG(P:Program)(o:Oper)(a:Act)(w:World)(x:Value)(w':World):Prop:=
 (execOp a.eval o).run P w= .ok (.value x) w'\/((execOp a.eval o).run P w= .ok .skip w'/\x=undef)
def Shown(P:Program)(fm:FM)(o:Oper)(a:Act)(w:World)(L:Nat->Loc)(h:HF)(nid:Nat)(K:AV->List Upd->Prop):Prop:=
 ∃x v us w',YvG P o a w x w'/\K v us/\OpPost fm w L (appF h nid us) v x w'
theorem Shown.pure{o:Oper}{a:Act}{h:HF}{nid:Nat}{K:AV->List Upd->Prop}(hr:HR fm w L h){x:Value}{v:AV}
  (h1:(execOp a.eval o).run P w= .ok (.value x) w) (h2:K v []) (h3:VR fm w L x v):Shown P fm o a w L h nid K:=
 ⟨x,v,[],w,.inl h1,h2,OpPost.same hr h3⟩
theorem Ygx{h:HF}{nid:Nat}(hr:HR fm w L h)(hn:h nid=none)(e:TypeId){xs:Array Value}{cs:List AV}(hc:CR fm w L xs cs)(h0:0<cs.length)(_hm:cs.length<=maxEl):
  OpPost fm w L (appF h nid [.push (some ⟨cs.length,[cs]⟩)]) (.ptr nid 0 0) (.pointer (some ⟨w.heap.size,0,none⟩)) (w.alloc (.cells xs e)):=by
 obtain⟨k1,k2,k3⟩:=YeF (w':=w.alloc (.cells xs e)) (cap:=1) (es:=cs.length) (el:=[cs]) (cur:=xs) (ty:=e) hr hn rfl rfl rfl rfl h0 (by simp) (by trivial) (by simp) (by simp[hc.1])
  (fun i e j c hi hj=>by
   cases i with
   |zero=>
    simp at hi;subst hi
    simpa using hc.2 j c hj
   |succ i=>trivial)
 refine⟨_,k1,k2,k3,?_⟩
 have:=VR.ptrAt (fm:=fm) (w:=w.alloc (.cells xs e)) (L:=fun a=>if a=nid then .cells w.heap.size cs.length 1 else L a) w.heap.size cs.length 1 nid 0 0 (by simp)
 simp_all
theorem YlP{t:TypeId}{g:Bool}{n off:Nat}(hg:aggT P t=some g)(hn:YtR P t=some n){xs:Array Value}{cs:List AV}(hc:CR fm w L xs cs)(hle:off<=cs.length)
  {K:AV->Prop} (hev:Yul g n (cs.drop off) K): ∃x v,(part t xs off).run P w= .ok x w/\K v/\VR fm w L x v:=by
 cases g with
 |true=>
  obtain⟨h1,h2⟩:=hev
  simp at h1
  refine⟨.agg (xs.extract off (off+n)),_,?_,h2,?_⟩
  ·simp[part,Ybx hg,YaH hn]
  ·have hs:=hc.1
   refine CR.agg ⟨by grind,fun j c hj=> ?_⟩
   rw[Yw8]at hj
   split at hj
   ·rename_i hjn
    rw[Yxh]at hj
    rw[YeH (by omega) hjn]
    exact hc.2 _ c hj
   trivial
 |false=>
  obtain⟨c,h1,h2⟩:=hev
  rw[Yxh]at h1
  have hlt:=(YwP.1 h1).1
  exact⟨_,c,YeI hg (by rw[hc.1];omega) w,h2,(hc.2 off c h1).2⟩
theorem Ybj{x:Value}{cs:List AV}(h:VR fm w L x (.agg cs)): ∃xs,x= .agg xs/\CR fm w L xs cs:=by
 cases h with
 |agg xs cs hs h1 h=>exact⟨xs,rfl,hs,fun j c hj=>⟨h1 j c hj,h j c hj⟩⟩
theorem Ydj{x:Value}{cs:List AV}(h:VR fm w L x (.tup cs)): ∃xs,x= .tuple xs/\xs.size=cs.length/\ ∀j a,cs[j]?=some a->VR fm w L (xs.getD j undef) a:=by
 cases h with
 |tup xs cs hs h=>simp_all
theorem Ybz{x:Value}{cs:List AV}(h:VR fm w L x (.rp cs)): ∃(b o:Nat) (vals:Nat->Value),x= .pointer (some ⟨b,o,none⟩)/\ ¬YtW L b/\b<w.heap.size/\
  (∀(j:Nat) (x:AV),cs[j]?=some x->w.cell? ⟨b,o+j,none⟩=some (vals j))/\ (∀(j:Nat) (x:AV),cs[j]?=some x->(vals j).oneCell'=true)/\ (∀j x,cs[j]?=some x->VR fm w L (vals j) x):=by
 cases h with
 |rp b o cs vals hb hbs hc h1 hr=>exact⟨b,o,vals,rfl,hb,hbs,hc,h1,hr⟩
theorem Ygy{h:HF}(hr:HR fm w L h){a:Nat}{o:AObj}(ha:h a=some (some o))(hmp: ∀i g,L a≠ .mp i g){i:Nat}{e:List AV}(hi:o.el[i]?=some e):
  ∃g cap cur ty,L a= .cells g (wd o.es) cap/\0< (wd o.es)/\e.length=(wd o.es)/\w.heap[g]?=some (.cells cur ty (0,0))/\cur.size=cap*(wd o.es)/\o.el.length<=cap/\ (∀e∈o.el,e.length=(wd o.es))/\RR fm w L (wd o.es) cur o.el/\
   (i+1)*(wd o.es)<=cur.size:=by
 have hobj:=hr.obj a o ha
 cases hL:L a with
 |fresh=>rw[hL]at hobj;trivial
 |dead=>rw[hL]at hobj;trivial
 |nil=>rw[hL]at hobj;rw[show o.el=[]from hobj.1]at hi;trivial
 |hid g=>rw[hL]at hobj;trivial
 |cells g es cap=>
  rw[hL]at hobj
  obtain⟨h0,h1,h2,h3,h4,cur,ty,h5,h6,h7⟩:=hobj
  subst h0
  have hil:=(YwP.1 hi).1
  exact⟨g,cap,cur,ty,rfl,h1,h4 e (YwQ hi),h5,h6,h2,h4,h7,by rw[h6];exact YxA _ (by omega)⟩
 |mp i g=>simp_all
theorem YlQ{op:BinOp}{t:TypeId}{va vb:Value}{ea eb:Operand}{K:Value->Prop}
  (hev:binK op (.v va) (.v vb) K):
  ∃r,(do eqGuard op t ea eb va vb;binOp op t va vb:Sem Value).run P w= .ok r w/\K r:=by
 have hg: ∀(s:Sem Value),((∃k x k' y,va= .int k x/\vb= .int k' y)\/ ∃x y,va= .string x/\vb= .string y)->(do eqGuard op t ea eb va vb;s:Sem Value).run P w=s.run P w:=by
  intro s hh
  have:eqGuard op t ea eb va vb=pure ():=by
   rcases hh with⟨k,x,k',y,rfl,rfl⟩| ⟨x,y,rfl,rfl⟩<;>cases op<;>rfl
  simp_all
 unfold binK at hev
 split at hev
 ·rename_i k x k' y e1 e2
  injection e1 with e1;injection e2 with e2
  subst e1;subst e2
  rw[hg _ (.inl ⟨k,x,k',y,rfl,rfl⟩)]
  obtain⟨hk,hev⟩:=hev
  cases op<;>simp only[YuZ]at hev
  case shl=>
   obtain⟨h0,hk⟩:=hev
   refine⟨_,?_,hk⟩
   have: ¬y<0:=by omega
   simp[binOp,Op.shift,this]
  case shr=>
   obtain⟨h0,hk⟩:=hev
   refine⟨_,?_,hk⟩
   have: ¬y<0:=by omega
   simp[binOp,Op.shift,this]
  all_goals
   have hkk:k=k':=by rcases hk with h|h|h<;>first|exact h|cases h
   subst hkk
  case quo=>obtain⟨h0,hk⟩:=hev;exact⟨_,by simp[binOp,Op.intDiv,h0],hk⟩
  case rem=>obtain⟨h0,hk⟩:=hev;exact⟨_,by simp[binOp,Op.intDiv,h0],hk⟩
  all_goals
   refine⟨_,?_,hev⟩
   first
    | (simp[binOp,Op.intArith];done)
    | (simp[binOp,intBits_and,intBits_or,intBits_xor,intBits_andNot];done)
    | (simp[binOp,Op.intCmp];done)
 ·rename_i x y e1 e2
  injection e1 with e1;injection e2 with e2
  subst e1;subst e2
  rw[hg _ (.inr ⟨x,y,rfl,rfl⟩)]
  cases op<;>simp only[YuK]at hev
  case add=>
   obtain⟨h0,hk⟩:=hev
   refine⟨_,?_,hk⟩
   have:(x.size:Int)+(y.size:Int)<=9223372036854775807:=by omega
   simp[binOp,Op.stringOp,this]
  all_goals first|exact hev.elim|exact⟨_,by rfl,hev⟩
 trivial
theorem Ycy{x:Value}{f:Nat}{cs:List AV}(h:VR fm w L x (.clo f cs)): ∃g xs,x= .func (.func g) #[] xs/\fm g=f/\xs.size=cs.length/\ ∀j a,cs[j]?=some a->VR fm w L (xs.getD j undef) a:=by
 cases h with
 |clo g xs cs hs h=>grind
theorem Ydk{x:Value}{es:Nat}{l:List (List AV)}(h:VR fm w L x (.rd es l)): ∃A c,x= .slice A l.length c/\l.length<=c:=by
 cases h with
 |rd0 A es c=>simp
 |rd b o c es l vals hne hes hes0 hlc=>grind
theorem Ydl{h:HF}(hr:HR fm w L h){x:Value}{a i j:Nat}{o:AObj}(ha:h a=some (some o))(hx:VR fm w L x (.ptr a i j)):
  ∃g es cap,L a= .cells g es cap/\es=(wd o.es)/\x= .pointer (some ⟨g,i*es+j,none⟩):=by
 have hobj:=hr.obj a o ha
 cases hx with
 |ptrAt g es cap a i j h=>rw[h]at hobj;exact⟨g,es,cap,h,hobj.1,rfl⟩
 |ptrDead ad a i j h=>rw[h]at hobj;trivial
theorem Ya4{h:HF}(hr:HR fm w L h){x:Value}{a off len:Nat}{o:AObj}(ha:h a=some (some o))(hx:VR fm w L x (.ref a off len)):
  (∃g es cap,L a= .cells g es cap/\es=(wd o.es)/\off+len<=cap/\x= .slice (some ⟨g,off*es,none⟩) len (cap-off))\/(∃A b,L a= .nil b/\ (b=true->A=none)/\off=0/\len=0/\x= .slice A 0 0):=by
 have hobj:=hr.obj a o ha
 cases hx with
 |refAt g es cap a off len h hl=>rw[h]at hobj;exact .inl ⟨g,es,cap,h,hobj.1,hl,rfl⟩
 |refNil A a b h hA=>simp_all
 |refDead A c a off len h hl=>rw[h]at hobj;trivial
theorem Ydm{h:HF}(hr:HR fm w L h){x:Value}{a:Nat}{o:AObj}(ha:h a=some (some o))(hx:VR fm w L x (.np a)):
  (∃g,L a= .cells g 2 1/\TyAt w g fm.bt/\ (x= .pointer none\/x= .pointer (some ⟨g,0,none⟩)))\/(∃g,L a= .mp false g/\x= .map (some g))\/ ∃g,L a= .mp true g/\x= .pointer (some ⟨g,0,none⟩):=by
 have hobj:=hr.obj a o ha
 cases hx with
 |npAt g a v h ht hv=>simp_all
 |npDead p a h=>rw[h]at hobj;trivial
 |mpAt g a h=>simp_all
 |itAt g a h=>simp_all
 |mpDead p a h=>rw[h]at hobj;trivial
theorem YlR{op:BinOp}{a b:AV}{K:Value->Prop}(h:binK op a b K): ∃x y,a= .v x/\b= .v y:=by
 unfold binK at h
 grind
theorem YaK{x:Value}(h:VR fm w L x .emp): ∃A,x= .slice A 0 0:=by
 cases h with
 |emp A=>simp
theorem YbA{x:Value}{es:Nat}{l:List (List AV)}(h:VR fm w L x (.rd es l)):(l=[]/\ ∃A c,x= .slice A 0 c)\/
  ∃(b o c:Nat) (vals:Nat->Nat->Value),x= .slice (some ⟨b,o,none⟩) l.length c/\l≠ []/\ (∀e∈l,e.length=es)/\0<es/\l.length<=c/\ ¬YtW L b/\b<w.heap.size/\
   (∀i e j x,l[i]?=some e->e[j]?=some x->w.cell? ⟨b,o+i*es+j,none⟩=some (vals i j))/\
   (∀i e j x,l[i]?=some e->e[j]?=some x->(vals i j).oneCell'=true)/\
   (∀i e j x,l[i]?=some e->e[j]?=some x->VR fm w L (vals i j) x):=by
 cases h with
 |rd0 A es c=>simp
 |rd b o c es l vals hne hes hes0 hlc hb hbs hc h1 hr=>exact .inr ⟨b,o,c,vals,rfl,hne,hes,hes0,hlc,hb,hbs,hc,h1,hr⟩
theorem YeN{x:Value}{a i j:Nat}(h:VR fm w L x (.ptr a i j)): ∃ad,x= .pointer (some ad):=by
 cases h with
 |ptrAt g es cap a i j h=>simp
 |ptrDead ad a i j h=>simp
theorem Ygz{ad:Addr}{a i j:Nat}(n:Nat)(h:VR fm w L (.pointer (some ad)) (.ptr a i j)):VR fm w L (.pointer (some (ad.add n))) (.ptr a i (j+n)):=by
 cases h with
 |ptrAt g es cap a i j h=>
  rw[Ya3,Nat.add_assoc]
  exact .ptrAt g es cap a i (j+n) h
 |ptrDead ad a i j h=>exact .ptrDead _ a i (j+n) h
theorem YgA{x:Value}{a off len:Nat}(h:VR fm w L x (.ref a off len)): ∃A c,x= .slice A len c/\len<=c:=by
 cases h with
 |refAt g es cap a off len h hl=>grind
 |refNil A a b h hA=>simp
 |refDead A c a off len h hl=>grind
theorem YlS{A:Option Addr}{c a off len n:Nat}(hn:n<=len)(h:VR fm w L (.slice A len c) (.ref a off len)):VR fm w L (.slice A n c) (.ref a off n):=by
 cases h with
 |refAt g es cap a off len h hl=>exact .refAt g es cap a off n h (by omega)
 |refNil A a b h hA=>
  have:n=0:=by omega
  subst this;exact .refNil A a b h hA
 |refDead A c a off len h hl=>exact .refDead A c a off n h (by omega)
theorem YgB{t:TypeId}{g:Bool}{n:Nat}(hg:aggT P t=some g)(hn:YtR P t=some n){h:HF}(hr:HR fm w L h){x:Value}{a i j:Nat}{o:AObj}(ha:h a=some (some o))
  (hx:VR fm w L x (.ptr a i j)) {e:List AV} (hi:o.el[i]?=some e) {K:AV->Prop} (hev:Yul g n (e.drop j) K):
  ∃ad y v,x= .pointer (some ad)/\ (loadVar t ad).run P w= .ok y w/\K v/\VR fm w L y v:=by
 obtain⟨gb,es,cap,hL,hes,rfl⟩:=Ydl hr ha hx
 subst hes
 obtain⟨g',cap',cur,ty,hL',hes0,hel,hgb,hsz,hlc,_,hrr,hbd⟩:=Ygy hr ha (fun i g e=>by simp_all) hi
 rw[hL]at hL'
 injection hL' with e1 e2 e3
 subst e1;subst e3
 have key: ∀k x,(e.drop j)[k]?=some x->e[j+k]?=some x/\i*(wd o.es)+j+k<cur.size:=by
  grind
 obtain⟨y,v,h1,h2,h3⟩:=YeG (P:=P) hg hn (b:=gb) (o:=i*(wd o.es)+j) (cs:=e.drop j) (vals:=fun k=>cur.getD (i*(wd o.es)+j+k) undef)
  (fun k x hk=>by
   rw[cell_of_row w gb _ cur ty (0,0) hgb]
   simp_all)
  (fun k x hk=>by
   have:=hrr i e (j+k) x hi (key k x hk).1
   grind)
  (fun k x hk=>by
   have:=hrr i e (j+k) x hi (key k x hk).1
   rw[<-Nat.add_assoc]at this
   exact this.2) hev
 grind
theorem YgC{t:TypeId}{x:Operand}{a:Act}{ad:Addr}{y:Value}{dst:Option Tmp}{ty:TypeId}{pos:String}{after:Array Edge}{guard:Option (Nat×Bool)}
  (hx:a.eval x= .pointer (some ad)) (hl:(loadVar t ad).run P w= .ok y w):
  (execOp a.eval {dst,op:=.load t x,type:=ty,pos,after,guard}).run P w= .ok (.value y) w:=by
 simp[execOp,Instr.loadAt,Instr.sureAddr,hx,hl]
theorem YlT{l cs:List AV}{j:Nat}(h:j+cs.length<=l.length):(splice l j cs).length=l.length:=by simp[splice];omega
theorem YlU{l cs:List AV}{j k:Nat}{c:AV}(h:j+cs.length<=l.length)(hc:(splice l j cs)[k]?=some c):
  (j<=k/\k<j+cs.length/\cs[k-j]?=some c)\/(¬ (j<=k/\k<j+cs.length)/\l[k]?=some c):=by
 simp only[splice]at hc
 by_cases hin:j<=k/\k<j+cs.length
 ·grind
 ·right
  refine⟨hin,?_⟩
  by_cases hlt:k<j
  ·grind
  ·rw[Yw0 (by grind),Yxh]at hc
   grind
theorem YlV{t:TypeId}{n:Nat}(hn:YtR P t=some n){h:HF}(hr:HR fm w L h){x y:Value}{a i j:Nat}{o:AObj}(ha:h a=some (some o))
  (hx:VR fm w L x (.ptr a i j)) {e cs:List AV} (hi:o.el[i]?=some e) (hy:CR fm w L y.cells cs) (hcn:cs.length=n) (hje:j+n<=e.length):
  ∃ad w',x= .pointer (some ad)/\ (storeVar t ad y).run P w= .ok () w'/\Keep L w w'/\HR fm w' L (fun b=>if b=a then some (some ⟨o.es,o.el.set i (splice e j cs)⟩)else h b):=by
 obtain⟨gb,es,cap,hL,hes,rfl⟩:=Ydl hr ha hx
 subst hes
 obtain⟨g',cap',cur,ty,hL',hes0,hel,hgb,hsz,hlc,hall,hrr,hbd⟩:=Ygy hr ha (fun i g e=>by simp_all) hi
 rw[hL]at hL'
 injection hL' with e1 e2 e3
 subst e1;subst e3
 rw[YxB]at hbd
 have hys:y.cells.toList.length=n:=by rw[<-hcn];simpa using hy.1
 have hil:=(YwP.1 hi).1
 have hrun:=run_storeCells_at P gb (i*(wd o.es)+j) ty y.cells.toList 0 cur w hgb (by omega) (fun v hv=>by
  obtain⟨k,hk,e⟩:=List.getElem_of_mem hv
  have hk':k<y.cells.size:=by trivial
  have:=(hy.2 k _ (YwO (by omega))).1
  simp_all)
 simp only[Nat.add_zero]at hrun
 have hsp:(splice e j cs).length=e.length:=YlT (by omega)
 obtain⟨k1,k2⟩:=Ydg hr ha hL hgb (cur':=(cur.toList.take (i*(wd o.es)+j)++y.cells.toList++cur.toList.drop (i*(wd o.es)+j+y.cells.toList.length)).toArray)
  (by grind) (el:=o.el.set i (splice e j cs)) (by simp_all)
  (fun e' he'=>by
   grind)
  (fun i' e' j' c hi' hj'=>by
   have hgetl: ∀k,k<i*(wd o.es)+j->((cur.toList.take (i*(wd o.es)+j)++y.cells.toList++cur.toList.drop (i*(wd o.es)+j+y.cells.toList.length)).toArray).getD k undef=cur.getD k undef:=by
    intro k hk
    rw[Yw9,Ycx (by grind)]
    simp_all
   have hgetm: ∀k,k<n->((cur.toList.take (i*(wd o.es)+j)++y.cells.toList++cur.toList.drop (i*(wd o.es)+j+y.cells.toList.length)).toArray).getD (i*(wd o.es)+j+k) undef=y.cells.getD k undef:=by
    intro k hk
    rw[Yw9,getD_append_r' (by grind)]
    simp only[List.getD]
    rw[YwU (by omega),YxS]
    simp
   have hgetr: ∀k,i*(wd o.es)+j+n<=k->((cur.toList.take (i*(wd o.es)+j)++y.cells.toList++cur.toList.drop (i*(wd o.es)+j+y.cells.toList.length)).toArray).getD k undef=cur.getD k undef:=by
    intro k hk
    have hlen:(cur.toList.take (i*(wd o.es)+j)++y.cells.toList).length=i*(wd o.es)+j+n:=by grind
    obtain⟨m,rfl⟩: ∃m,k=i*(wd o.es)+j+n+m:=⟨k-(i*(wd o.es)+j+n),by omega⟩
    rw[getD_append_r' hlen,hys]
    simp
   by_cases hii:i'=i
   ·subst hii
    rw[Yw4 hil]at hi'
    injection hi' with hi'
    subst hi'
    rcases YlU (by omega) hj' with⟨p1,p2,p3⟩| ⟨p1,p3⟩
    ·rw[show i'*(wd o.es)+j'=i'*(wd o.es)+j+(j'-j) by omega,hgetm _ (by omega)]
     exact hy.2 _ c p3
    ·have hjl:=(YwP.1 p3).1
     have:((cur.toList.take (i'*(wd o.es)+j)++y.cells.toList++cur.toList.drop (i'*(wd o.es)+j+y.cells.toList.length)).toArray).getD (i'*(wd o.es)+j') undef=cur.getD (i'*(wd o.es)+j') undef:=by
      grind
     rw[this]
     exact hrr i' e j' c hi p3
   ·rw[YwV (fun e=>hii e.symm)]at hi'
    have hjl:=(YwP.1 hj').1
    have hel':=hall e' (YwQ hi')
    have:((cur.toList.take (i*(wd o.es)+j)++y.cells.toList++cur.toList.drop (i*(wd o.es)+j+y.cells.toList.length)).toArray).getD (i'*(wd o.es)+j') undef=cur.getD (i'*(wd o.es)+j') undef:=by
     rcases Nat.lt_or_gt_of_ne hii with hlt|hgt
     ·have hb:(i'+1)*(wd o.es)<=i*(wd o.es):=YxA _ hlt
      grind
     ·have hb:(i+1)*(wd o.es)<=i'*(wd o.es):=YxA _ hgt
      grind
    rw[this]
    exact hrr i' e' j' c hi' hj')
 refine⟨_,_,rfl,?_,k1,k2⟩
 have hcs:y.cells.size=n:=by trivial
 simp only[storeVar,Sem.run_bind,YaH hn,Result.andThen_ok,Sem.run_ite,hcs,ne_eq,not_true,if_false]
 trivial
end
end Go.Abs
namespace Go.Abs
open Go Go.RowKit
section
variable{P:Program}{fm:FM}{w:World}{L:Nat->Loc}
theorem cond_ok'{α:Type}{b:Bool}{x:Option α}{y:α}(h:(bif b then x else none)=some y):b=true/\x=some y:=by
 grind
theorem YgD{h:HF}(hr:HR fm w L h){a:Nat}{o:AObj}(ha:h a=some (some o)){x:Value}{len:Nat}(hl:len<=o.el.length)(hx:VR fm w L x (.ref a 0 len)):
  VR fm w (fun b=>if b=a then .dead else L b) x (.rd (wd o.es) (o.el.take len)):=by
 have hob:=hr.obj a o ha
 obtain⟨hls,_⟩:=Yby hr a w.heap.size (fun g e=>by rw[e]at hob;exact hob)
 rcases Ya4 hr ha hx with⟨g,es,cap,hL,e1,e2,rfl⟩| ⟨A,_,hL,_,_,rfl,rfl⟩
 ·subst e1
  by_cases hl0:len=0
  ·subst hl0;exact .rd0 _ _ _
  ·rw[hL]at hob
   obtain⟨_,hes,hlc,hcm,hall,cur,ty,hg,hcs,hrr⟩:=hob
   have hlt:=(YxT.1 hg).1
   have hget: ∀(i:Nat) (e:List AV),(o.el.take len)[i]?=some e->o.el[i]?=some e:=fun i e hi=>by
    grind
   have hlen:(o.el.take len).length=len:=by simp_all
   have:=VR.rd (fm:=fm) (w:=w) (L:=fun b=>if b=a then .dead else L b) g 0 cap (wd o.es) (o.el.take len) (fun i j=>cur.getD (i*(wd o.es)+j) undef)
    (fun e=>by simp_all) (fun e he=>hall e (List.mem_of_mem_take he)) hes (by omega)
    (fun ho=>by
     rcases ho with(⟨b,e,c,hb⟩| ⟨b,i,hb⟩)| ⟨b,hb⟩
     ·by_cases e1:b=a
      ·simp_all
      ·simp[e1]at hb
       exact e1 (hr.inj b a g _ _ _ _ hb hL)
     ·by_cases e1:b=a
      ·simp_all
      ·simp[e1]at hb
       obtain⟨_,hm,hn⟩:=hr.mpb hb
       grind
     ·by_cases e1:b=a
      ·simp_all
      ·simp[e1]at hb
       exact(hr.hid b g hb).2 (.inl ⟨a,_,_,hL⟩)) hlt
    (fun i e j c hi hj=>by
     have hi':=hget i e hi
     rw[cell_of_row _ _ _ cur ty (0,0) hg,Yxx]
     refine YbS ?_
     have hil:=(YwP.1 hi').1
     have hjl:=(YwP.1 hj).1
     have hee:=hall e (YwQ hi')
     have hb:(i+1)*(wd o.es)<=cap*(wd o.es):=YxA _ (by omega)
     grind)
    (fun i e j c hi hj=>(hrr i e j c (hget i e hi) hj).1)
    (fun i e j c hi hj=>(hrr i e j c (hget i e hi) hj).2.mono (Keep.refl _ _) hls)
   simp_all
 ·exact .rd0 _ _ _
theorem YgE{os es:Nat}{s:AV}{l:List (List AV)}{h:HF}{nid:Nat}{o:AObj}{us:List Upd}(hx:apX os es s l h nid=some (o,us)):
  o.es=os/\Yvz os es s l h nid (fun v us'=>v= .ref nid 0 o.el.length/\us'=us++[.push (some o)]):=by
 obtain⟨h1,hx'⟩:=cond_ok' hx
 clear hx;have hx:=hx';clear hx'
 have h1': ∀e∈l,e.length=es:=fun e he=>Yxt (Yw1.1 h1 e he)
 cases s<;>(try simp only at hx)<;>try trivial
 case emp=>
  obtain⟨h2,hx⟩:=cond_ok' hx
  injection hx with hx;injection hx with e1 e2;subst e1;subst e2
  simp at h2
  exact⟨rfl,h2.1,h1',fun h0 hl=>by simp_all,rfl,rfl⟩
 case ref a off len=>
  cases ha:h a with
  |none=>simp_all
  |some x=>
   cases x with
   |none=>simp_all
   |some o'=>
    rw[ha]at hx;obtain⟨h2,hx⟩:=cond_ok' hx
    simp at h2
    injection hx with hx;injection hx with e1 e2;subst e1;subst e2
    refine⟨rfl,o',ha,h2.1.1.1,h2.1.1.2,h2.1.2,h2.2,h1',?_,rfl⟩
    simp
theorem YeO(h:HF)(nid:Nat): ∀(us vs:List Upd),appF h nid (us++vs)=appF (appF h nid us) nid vs
 | [],_=>rfl
 |u::us,vs=>by exact YeO (appU h nid u) nid us vs
theorem YgF{w':World}{h:HF}{nid:Nat}{us:List Upd}{o:AObj}{x:Value}(hp:OpPost fm w L (appF h nid (us++[.push (some o)])) (.ref nid 0 o.el.length) x w'):
  OpPost fm w L (appF h nid (us++[.push none])) (.rd (wd o.es) o.el) x w':=by
 obtain⟨L',h1,h2,h3,h4⟩:=hp
 rw[YeO]at h3
 have ha:appF (appF h nid us) nid [.push (some o)] nid=some (some o):=by show(if nid=nid then _ else _)=_;simp
 have hob:=h3.obj nid o ha
 obtain⟨k1,k2⟩:=Yby h3 nid w.heap.size (fun g e=>by rw[e]at hob;exact hob)
 refine⟨_,h1,h2.trans k1,?_,?_⟩
 ·rw[YeO]
  have:appF (appF h nid us) nid [.push none]=fun b=>if b=nid then some none else appF (appF h nid us) nid [.push (some o)] b:=by
   funext b
   show(if b=nid then _ else _)=(if b=nid then _ else(if b=nid then _ else _))
   simp_all
  simp_all
 ·have:=YgD h3 ha (Yxs _) h4
  simp_all
theorem YgG{es:Nat}{vx:Value}{x:AV}{l:List (List AV)}(hx:VR fm w L vx x)(hl:srcA x=some l)(hes:Yux es x=true):VR fm w L vx (.rd es l):=by
 cases x<;>simp only[srcA]at hl<;>try trivial
 ·injection hl with hl;subst hl;obtain⟨A,rfl⟩:=YaK hx;exact .rd0 A _ 0
 ·injection hl with hl;subst hl;simp only[Yux]at hes;simp_all
theorem YgH{os:Nat}{t ty e:TypeId}{z:List Value}(hwd:wd os=z.length)(hty:os=0->e=fm.bu)(ht:P.underlying t=some (.slice e))(hzt:Yt3 P e=some z)
  {h:HF} {nid:Nat} (hr:HR fm w L h) (hn:h nid=none) {vs vx:Value} {s x:AV} {l:List (List AV)} {o:AObj} {us:List Upd}
  (hs:VR fm w L vs s) (hx:VR fm w L vx x) (hl:srcA x=some l) (hes:Yux z.length x=true) (hev:apX os z.length s l h nid=some (o,us)):
  ∃y w',(Builtin.append_ #[t,t] ty #[vs,vx]).run P w= .ok y w'/\o.es=os/\OpPost fm w L (appF h nid (us++[.push (some o)])) (.ref nid 0 o.el.length) y w':=by
 obtain⟨h1,h2⟩:=YgE hev
 have h0:0<z.length:=by rw[<-hwd];exact Ygf os
 obtain⟨news,g1,g2⟩:=Ygv ht (YgG hx hl hes) h0
 obtain⟨y,v,us',w',k1,⟨rfl,rfl⟩,k3⟩:=YeM (ty:=ty) hwd hty ht hzt hr hn hs g1 g2 h2
 grind
theorem YgI{os:Nat}{t ty e:TypeId}{z:List Value}(hwd:wd os=z.length)(hty:os=0->e=fm.bu)(ht:P.underlying t=some (.slice e))(hzt:Yt3 P e=some z)
  {h:HF} {nid:Nat} (hr:HR fm w L h) (hn:h nid=none) {vs vx:Value} {s x:AV} {l:List (List AV)} {o:AObj} {us:List Upd}
  (hs:VR fm w L vs s) (hx:VR fm w L vx x) (hl:srcA x=some l) (hes:Yux z.length x=true) (hev:apX os z.length s l h nid=some (o,us)):
  ∃y w',(Builtin.append_ #[t,t] ty #[vs,vx]).run P w= .ok y w'/\OpPost fm w L (appF h nid (us++[.push none])) (.rd z.length o.el) y w':=by
 obtain⟨y,w',k1,h1,k3⟩:=YgH (ty:=ty) hwd hty ht hzt hr hn hs hx hl hes hev
 refine⟨y,w',k1,?_⟩
 rw[<-hwd,<-h1]
 exact YgF k3
theorem YlW{t t2 ty e:TypeId}{z:List Value}(ht:P.underlying t=some (.slice e))(ht2:P.underlying t2=some .string)(hzt:Yt3 P e=some z)(hz1:z.length=1)(hty:e=fm.bu)
  {h:HF} {nid:Nat} (hr:HR fm w L h) (hn:h nid=none) {vs:Value} {s:AV} {x:ByteArray} {o:AObj} {us:List Upd}
  (hs:VR fm w L vs s) (hev:apX 0 1 s (strA x) h nid=some (o,us)):
  ∃y w',(Builtin.append_ #[t,t2] ty #[vs,.string x]).run P w= .ok y w'/\OpPost fm w L (appF h nid (us++[.push (some o)])) (.ref nid 0 o.el.length) y w':=by
 obtain⟨h1,h2⟩:=YgE hev
 obtain⟨g1,g2⟩:=YlO (P:=P) (fm:=fm) (w:=w) (L:=L) ht2 x
 rw[<-hz1]at h2 g1 g2
 obtain⟨y,v,us',w',k1,⟨rfl,rfl⟩,k3⟩:=YeM (os:=0) (ty:=ty) (by rw[hz1];rfl) (fun _=>hty) ht hzt hr hn hs g1 g2 h2
 grind
theorem YgJ: ∀{l:List (List AV)} {b:List UInt8},Yui l=some b->b.length=l.length/\ ∀(i:Nat) (e:List AV),l[i]?=some e-> ∃n,e=[.v (.int .u8 n)]/\b[i]?=some (UInt8.ofNat n.toNat)
 | [],b,h=>by simp only[Yui]at h;simp_all
 |e::r,b,h=>by
  simp only[Yui]at h
  split at h
  ·rename_i x xs hx hxs
   injection h with h;subst h
   obtain⟨h1,h2⟩:=YgJ hxs
   refine⟨by grind,fun i e' hi=> ?_⟩
   cases i with
   |zero=>
    simp at hi;subst hi
    unfold YvV at hx
    grind
   |succ i=>simp_all
  trivial
theorem YgK: ∀(l:List Int) (r:ByteArray),l.foldl (fun r n=>r.push (UInt8.ofNat n.toNat)) r=⟨r.data++(l.map fun n=>UInt8.ofNat n.toNat).toArray⟩
 | [],r=>by simp
 |b::l,r=>by
  simp
  rw[YgK l]
  simp
theorem YgL{src dst e:TypeId}(hs:P.underlying src=some (.slice e))(he:P.underlying e=some (.int .u8))(hd:P.underlying dst=some .string){x:Value}{l:List (List AV)}(hx:VR fm w L x (.rd 1 l)){b:List UInt8}(hb:Yui l=some b):
  (convert src dst x).run P w= .ok (.string ⟨b.toArray⟩) w:=by
 obtain⟨h1,h2⟩:=YgJ hb
 rcases YbA hx with⟨rfl,A,c,rfl⟩| ⟨g,o,c,vals,rfl,hne,hes,hes0,hlc,hb',hbs,hcl,hone,hrr⟩
 ·have hb0:b=[]:=YwZ.1 h1
  subst hb0
  rw[run_convert_bytes_string w src dst e A 0 c hs he hd]
  cases A with
  |none=>rfl
  |some A=>
   rfl
 ·rw[run_convert_bytes_string w src dst e _ l.length c hs he hd]
  have hv: ∀i e',l[i]?=some e'-> ∃n,vals i 0= .int .u8 n/\b[i]?=some (UInt8.ofNat n.toNat):=fun i e' hi=>by
   obtain⟨n,rfl,hn⟩:=h2 i e' hi
   exact⟨n,Yae (hrr i _ 0 _ hi rfl),hn⟩
  have hns: ∃ns:List Int,ns.length=l.length/\ (∀i n,ns[i]?=some n->vals i 0= .int .u8 n)/\ns.map (fun n=>UInt8.ofNat n.toNat)=b:=by
   refine⟨(List.range l.length).map fun i=>(match vals i 0 with| .int _ n=>n|_=>0),by simp,fun i n hi=> ?_,?_⟩
   ·rw[YwR,YxE]at hi
    obtain⟨k,hk,rfl⟩:=hi
    have hk1:=(YwP.1 hk).1
    have hk2:=(YwP.1 hk).2
    simp at hk1 hk2;subst hk2
    obtain⟨n,hn,_⟩:=hv i _ (YwO hk1)
    grind
   ·apply Yxc
    intro i
    by_cases hi:i<l.length
    ·obtain⟨n,hn,hbn⟩:=hv i _ (YwO hi)
     simp_all
    simp_all
  obtain⟨ns,k1,k2,k3⟩:=hns
  have hload:=run_loadCells_list (P:=P) w ⟨g,o,none⟩ (ns.map (Value.int .u8)) (fun j v hj=>by
   rw[YwR,YxE]at hj
   obtain⟨n,hn,rfl⟩:=hj
   have hjl:j<l.length:=by grind
   obtain⟨n',he',hb2⟩:=h2 j _ (YwO hjl)
   have:=hcl j _ 0 (.v (.int .u8 n')) (YwO hjl) (by simp_all)
   rw[Addr.add_lit,<-k2 j n hn]
   simp_all)
  simp only[YwY,k1]at hload
  rw[run_bytesToString w _ l.length c ns hload,YgK,k3]
  simp
theorem YlX{src dst e:TypeId}(hs:P.underlying src=some .string)(hd:P.underlying dst=some (.slice e))(he:P.underlying e=some (.int .u8)){h:HF}(hr:HR fm w L h)(s:ByteArray):
  ∃x w',(convert src dst (.string s)).run P w= .ok x w'/\Keep L w w'/\HR fm w' L h/\VR fm w' L x (.rd 1 (strA s)):=by
 refine⟨_,_,run_bytes_of_string w src dst e s hs hd he,?_⟩
 have hk:Keep L w (w.drew.alloc (.cells (bytesRow s (grownCap w s.size 0 e)) e ((bytesRow s (grownCap w s.size 0 e)).size,(bytesRow s (grownCap w s.size 0 e)).size+1))):=
  (show Keep L w w.drew from⟨rfl,rfl,rfl,Yxs _,fun _ _ _=>rfl,fun _ _ h=>h⟩).trans (LStep.refl L _) (YeJ w.drew L _)
 refine⟨hk,hr.mono hk (fun b hb _=>Below.heap_alloc w.drew _ b hb),?_⟩
 have hge:=grownCap_ge w s.size 0 e
 by_cases h0:strA s=[]
 ·have:s.size=0:=by rw[<-Ydi,h0];rfl
  rw[h0,this];exact .rd0 _ _ _
 ·have hb: ∀(i:Nat) (e':List AV),(strA s)[i]?=some e'-> ∃(hi:i<s.data.size),e'=[.v (.int .u8 (s.data[i].toNat:Int))]:=fun i e' hi=>by
   unfold strA at hi
   rw[YwR,YxE,ByteArray.toList_eq]at hi
   grind
  have:=VR.rd (fm:=fm) (w:=w.drew.alloc (.cells (bytesRow s (grownCap w s.size 0 e)) e ((bytesRow s (grownCap w s.size 0 e)).size,(bytesRow s (grownCap w s.size 0 e)).size+1))) (L:=L) w.heap.size 0 (grownCap w s.size 0 e) 1 (strA s)
   (fun i j=>match s.data[i]? with|some b=>.int .u8 (b.toNat:Int)|none=>undef) h0 (fun e' he'=>by
    obtain⟨i,hi,rfl⟩:=List.mem_iff_getElem.1 he'
    obtain⟨_,h2⟩:=hb i _ (YwO hi)
    simp_all) (by decide) (by rw[Ydi];omega)
   (fun ho=>ho.elim (fun h=>h.elim (fun⟨b,es',cap',hb⟩=>by have:=hr.blk hb;omega) (fun⟨b,i,hb⟩=>by have:=hr.mpl hb;omega)) (fun⟨b,hb⟩=>by have:=(hr.hid b _ hb).1;omega)) (by simp)
   (fun i e' j c hi hj=>by
    obtain⟨h1,rfl⟩:=hb i e' hi
    have hj0:j=0:=by
     grind
    subst hj0
    have:=World.cell?_alloc_mark w.drew (bytesRow s (grownCap w s.size 0 e)) e ((bytesRow s (grownCap w s.size 0 e)).size,(bytesRow s (grownCap w s.size 0 e)).size+1) i
    rw[bytesRow_at s _ i h1]at this
    simp
    rw[YxV h1]
    trivial)
   (fun i e' j c hi hj=>by obtain⟨h1,rfl⟩:=hb i e' hi;rw[YxV h1];rfl)
   (fun i e' j c hi hj=>by
    obtain⟨h1,rfl⟩:=hb i e' hi
    have hj0:j=0:=by
     grind
    subst hj0
    simp at hj;subst hj
    rw[YxV h1];exact .v _)
  rw[Ydi]at this
  trivial
theorem YlY{h:HF}{nid:Nat}(hr:HR fm w L h)(hn:h nid=none):
  OpPost fm w L (appF h nid [.push (some ⟨2,[[.np nid,.v (.slice none 0 0)]]⟩)]) (.ptr nid 0 0) (.pointer (some ⟨w.heap.size,0,none⟩)) (w.alloc (.cells #[.pointer none,.slice none 0 0] fm.bt)):=by
 obtain⟨k1,k2,k3⟩:=YeF (w':=w.alloc (.cells #[.pointer none,.slice none 0 0] fm.bt)) (cap:=1) (es:=2) (el:=[[.u,.v (.slice none 0 0)]]) (cur:= #[.pointer none,.slice none 0 0]) (ty:=fm.bt) hr hn rfl rfl rfl rfl (by decide) (by simp) (by trivial) (by simp) (by simp)
  (fun i e j c hi hj=>by
   match i,hi with
   |0,hi=>
    simp at hi;subst hi
    match j,hj with
    |0,hj=>simp at hj;subst hj;exact⟨rfl,.u _⟩
    |1,hj=>simp at hj;subst hj;exact⟨rfl,.v _⟩
    |j+2,hj=>trivial
   |i+1,hi=>trivial)
 refine⟨_,k1,k2,⟨fun b o hb=> ?_,fun b hb=> ?_,fun b=> ?_,k3.inj,k3.hid,fun b o g es' cap' h1 h2 h3=> ?_,fun b i g hb=>by
  obtain⟨⟨o,ho⟩,k⟩:=k3.mps b i g hb
  refine⟨?_,k⟩
  by_cases e:b=nid
  ·simp_all
  ·exact⟨o,by simpa[appF,appU,e]using ho⟩,k3.tab⟩,?_⟩
 ·by_cases e:b=nid
  ·subst e
   simp[appF,appU]at hb;subst hb
   have hg:(w.alloc (.cells #[.pointer none,.slice none 0 0] fm.bt)).heap[w.heap.size]?=some (.cells #[.pointer none,.slice none 0 0] fm.bt (0,0)):=heap_alloc_new w _
   simp only[if_true]
   refine⟨rfl,by decide,by simp,by trivial,by simp,_,_,hg,rfl,fun i e j c hi hj=> ?_⟩
   match i,hi with
   |0,hi=>
    simp at hi;subst hi
    match j,hj with
    |0,hj=>simp at hj;subst hj;exact⟨rfl,.npAt w.heap.size b _ (by simp) ⟨_,_,hg⟩ (.inl rfl)⟩
    |1,hj=>simp at hj;subst hj;exact⟨rfl,.v _⟩
    |j+2,hj=>trivial
   |i+1,hi=>trivial
  ·exact k3.obj b o (by simpa[appF,appU,e]using hb)
 ·obtain⟨o,ho⟩:=k3.live b hb
  by_cases e:b=nid
  ·exact⟨_,by simp[appF,appU,e];rfl⟩
  ·exact⟨o,by simpa[appF,appU,e]using ho⟩
 ·have:=k3.fresh b
  by_cases e:b=nid
  ·simp[appF,appU,e]
  ·simpa[appF,appU,e]using this
 ·by_cases e:b=nid
  ·subst e;simp[appF,appU]at h1;grind
  ·exact k3.byt b o g es' cap' (by simpa[appF,appU,e]using h1) h2 h3
 ·have:=VR.ptrAt (fm:=fm) (w:=w.alloc (.cells #[.pointer none,.slice none 0 0] fm.bt)) (L:=fun a=>if a=nid then .cells w.heap.size 2 1 else L a) w.heap.size 2 1 nid 0 0 (by simp)
  trivial
theorem YgM: ∀{xs:List AV} {l:List (List AV)},cellsAll xs=some l->l.length=xs.length
 | [],l,h=>by simp only[cellsAll]at h;simp_all
 |a::r,l,h=>by
  simp only[cellsAll]at h
  split at h
  ·rename_i hl;injection h with h;subst h;simp[YgM hl]
  trivial
theorem YgN{env:Env}{es:Nat}: ∀(xs:List Opd) (l cur:List (List AV)) (n:Nat) (K:List (List AV)->Prop),cellsAll (xs.map (opd env))=some l->(∀e∈l,e.length=es)->n+xs.length<=cur.length->K (cur.take n++l++cur.drop (n+xs.length))->
  Yup es cur env (xs.zipIdx n|>.map fun p=>(p.2,p.1)) K
 | [],l,cur,n,K,h,_,_,hk=>by
   injection h with h;subst h
   simpa[Yup]using hk
 |x::xs,l,cur,n,K,h,hes,hn,hk=>by
  simp only[YwS,cellsAll]at h
  split at h
  ·rename_i cs l' hcs hl
   injection h with h;subst h
   simp at hn
   refine⟨cs,hcs,hes cs (by simp),by omega,?_⟩
   refine YgN xs l' (cur.set n cs) (n+1) K hl (fun e he=>hes e (Yxj _ he)) (by grind) ?_
   have e1:(cur.set n cs).take (n+1)=cur.take n++[cs]:=by
    rw[List.take_set,List.take_succ_eq_append_getElem (by omega)]
    rw[List.set_append_right _ _ (by grind)]
    have:min n cur.length=n:=by omega
    simp_all
   have e2:(cur.set n cs).drop (n+1+xs.length)=cur.drop (n+(xs.length+1)):=by
    rw[List.drop_set_of_lt (by omega)]
    grind
   simp_all
  trivial
theorem YgO{fn:Func}{n:String}(hn:fn.name=n)(ho:fn.origin= "")(h:(Extern.allNextRows.lookup n,Extern.allNextRows.lookup "")=(none,none)):Extern.findNext fn=none:=by
 injection h with h1 h2
 unfold Extern.findNext
 grind
theorem YgP{fn:Func}{n:String}{g:Array Value->Sem Value}(hn:fn.name=n)(h1:Extern.allGenericRows.lookup n=none)(h2:Extern.allTypedRows.lookup n=none)(h3:Extern.allRows.lookup n=some g):Extern.find fn=some g:=by
 unfold Extern.find
 grind
def Yvt:Array Value->Sem Value:=fun args=>do
 let(x,y,c)<-Extern.MathBitsCarry.three "Add64" args
 pure (Extern.MathBitsCarry.pair ((x+y+c) % Extern.MathBitsCarry.m64) ((x+y+c)/Extern.MathBitsCarry.m64))
def Yvu:Array Value->Sem Value:=fun args=>do
 let(x,y,b)<-Extern.MathBitsCarry.three "Sub64" args
 pure (Extern.MathBitsCarry.pair ((x+Extern.MathBitsCarry.m64-y-b) % Extern.MathBitsCarry.m64) (if x<y+b then 1 else 0))
theorem YlZ(x y c:Int)(hc:c.toNat<=1)(w:World):(Yvt #[.int .u64 x,.int .u64 y,.int .u64 c]).run P w= .ok (.tuple #[.int .u64 (YuA x y c).1,.int .u64 (YuA x y c).2]) w:=by
 match c,hc with
 | .ofNat 0,_=>rfl
 | .ofNat 1,_=>rfl
 | .ofNat (n+2),hc=>trivial
 | .negSucc m,_=>rfl
theorem Yl0(x y c:Int)(hc:c.toNat<=1)(w:World):(Yvu #[.int .u64 x,.int .u64 y,.int .u64 c]).run P w= .ok (.tuple #[.int .u64 (YuB x y c).1,.int .u64 (YuB x y c).2]) w:=by
 match c,hc with
 | .ofNat 0,_=>rfl
 | .ofNat 1,_=>rfl
 | .ofNat (n+2),hc=>trivial
 | .negSucc m,_=>rfl
theorem YgQ{xs:List AV}{vs:List Value}{a b c:Value}(hx:xs=[.v a,.v b,.v c])(hl:vs.length=xs.length)(hv: ∀(j:Nat) (c:AV) (y:Value),xs[j]?=some c->vs[j]?=some y->VR fm w L y c):vs=[a,b,c]:=by
 subst hx
 match vs,hl with
 | [p,q,r],_=>rw[Yae (hv 0 _ p rfl rfl),Yae (hv 1 _ q rfl rfl),Yae (hv 2 _ r rfl rfl)]
theorem YgR(k:IntKind)(x y:Int):VR fm w L (.tuple #[.int k x,.int k y]) (.tup [.v (.int k x),.v (.int k y)]):=by
 refine .tup _ _ rfl (fun j a hj=> ?_)
 match j,hj with
 |0,hj=>simp at hj;subst hj;exact .v _
 |1,hj=>simp at hj;subst hj;exact .v _
 |j+2,hj=>trivial
theorem Yl1(xs:List AV)(vs:List Value)(r:AV)(h:pvF .add64 xs=some r)(hl:vs.length=xs.length)(hv: ∀(j:Nat) (c:AV) (y:Value),xs[j]?=some c->vs[j]?=some y->VR fm w L y c): ∃y,(Yvt vs.toArray).run P w= .ok y w/\VR fm w L y r:=by
 unfold pvF at h
 split at h<;>try(rename_i hc;cases hc;done)
 case _ x y c _ _=>
  split at h
  ·rename_i hc
   injection h with h;subst h
   have hvs:=YgQ rfl hl hv
   subst hvs
   refine⟨_,?_,YgR _ _ _⟩
   exact YlZ _ _ _ hc w
  trivial
 trivial
theorem Yl2(xs:List AV)(vs:List Value)(r:AV)(h:pvF .sub64 xs=some r)(hl:vs.length=xs.length)(hv: ∀(j:Nat) (c:AV) (y:Value),xs[j]?=some c->vs[j]?=some y->VR fm w L y c): ∃y,(Yvu vs.toArray).run P w= .ok y w/\VR fm w L y r:=by
 unfold pvF at h
 split at h<;>try(rename_i hc;cases hc;done)
 case _ x y c _ _=>
  split at h
  ·rename_i hc
   injection h with h;subst h
   have hvs:=YgQ rfl hl hv
   subst hvs
   refine⟨_,?_,YgR _ _ _⟩
   exact Yl0 _ _ _ hc w
  trivial
 trivial
end
end Go.Abs
namespace Go.Abs
open Go Go.RowKit
section
variable{P:Program}{fm:FM}{w:World}{L:Nat->Loc}
theorem Ycz{h:HF}(hr:HR fm w L h){a g:Nat}{i:Bool}{o o':AObj}(ha:h a=some (some o))(hL:L a= .mp i g){ob:Obj}(hnc: ∀c t f,ob≠ .cells c t f){w':World}
  (hw:w'.heap=w.heap.setIfInBounds g ob) (hos:w'.os=w.os) (htape:w'.tape=w.tape) (hout:w'.output=w.output) (h0:o'.es≠0)
  (hnew:Keep L w w'->w'.heap[g]?=some ob->ObjR fm w' L (.mp i g) o'):
  Keep L w w'/\HR fm w' L (fun b=>if b=a then some (some o')else h b):=by
 obtain⟨ob0,hg0,hn0⟩:=hr.mpb hL
 have hlt:=hr.mpl hL
 have hother: ∀b,b≠g->w'.heap[b]?=w.heap[b]?:=fun b hb=>by grind
 have hk:Keep L w w':=by
  refine⟨hos,htape,hout,by simp_all,fun b hb ho=>hother b (fun e=>ho (e▸ .inr ⟨a,i,hL⟩)),fun b t ht=>ht.of (hother b (fun e=> ?_))⟩
  obtain⟨c,f,ht⟩:=ht
  simp_all
 have hself:w'.heap[g]?=some ob:=by simp_all
 refine⟨hk,fun b o2 hb=> ?_,fun b hb=> ?_,fun b=> ?_,hr.inj,fun b g' hb=> ?_,fun b o2 g' es cap h1 h2 h3=> ?_,fun b j g' hb=> ?_,hr.tab.mono hk fun _ h=>.inl h⟩
 ·by_cases e:b=a
  ·simp_all
  ·simp[e]at hb
   have hobj:=hr.obj b o2 hb
   revert hobj
   cases hLb:L b with
   |fresh=>exact id
   |dead=>exact id
   |nil=>exact id
   |hid g=>exact id
   |cells g' es' cap'=>
    rintro⟨h0,h1,h2,h3,h4,cur',ty',h5,h6,h7⟩
    refine⟨h0,h1,h2,h3,h4,cur',ty',?_,h6,fun i e' j x hi hj=>⟨(h7 i e' j x hi hj).1,(h7 i e' j x hi hj).2.mono hk (LStep.refl _ _)⟩⟩
    grind
   |mp j g'=>
    intro hm
    exact YaW hm hk (LStep.refl _ _) (fun ob' h1=>by
     rw[hother g' (fun e'=>e ((hr.mps b j g' hLb).2 a i (by simp_all)))];exact h1)
 ·by_cases e:b=a
  ·simp_all
  ·obtain⟨o2,ho⟩:=hr.live b hb
   simp_all
 ·by_cases e:b=a
  ·simp_all
  ·simp only[e,if_false];exact hr.fresh b
 ·have:=hr.hid b g' hb
  simp_all
 ·by_cases e:b=a
  ·simp_all
  ·simp[e]at h1;exact hk.typ _ _ (hr.byt b o2 g' es cap h1 h2 h3)
 ·obtain⟨⟨o2,ho⟩,k⟩:=hr.mps b j g' hb
  grind
theorem YgS{h:HF}{nid:Nat}(hr:HR fm w L h)(hn:h nid=none){i:Bool}{o:AObj}{ob:Obj}(hnc: ∀c t f,ob≠ .cells c t f){w':World}
  (hw:w'.heap=w.heap.push ob) (hos:w'.os=w.os) (htape:w'.tape=w.tape) (hout:w'.output=w.output) (h0:o.es≠0)
  (hnew: ∀L',Keep L w w'->LStep L L' w.heap.size->L' nid= .mp i w.heap.size->w'.heap[w.heap.size]?=some ob->ObjR fm w' L' (.mp i w.heap.size) o):
  ∃L',L' nid= .mp i w.heap.size/\Keep L w w'/\LStep L L' w.heap.size/\HR fm w' L' (appU h nid (.push (some o))):=by
 have hnf:L nid= .fresh:=(hr.fresh nid).2 hn
 have hother: ∀b,b<w.heap.size->w'.heap[b]?=w.heap[b]?:=fun b hb=>by grind
 have hk:Keep L w w':=⟨hos,htape,hout,by simp_all,fun b hb _=>hother b hb,fun b t h=>h.of (hother b h.lt)⟩
 have hownc: ∀b,OwnC (fun a=>if a=nid then .mp i w.heap.size else L a) b->OwnC L b\/w.heap.size<=b:=fun b hb=>by
  rcases hb with⟨a,e,c,hac⟩| ⟨a,j,hac⟩
  ·dsimp only at hac
   by_cases e:a=nid
   ·simp_all
   ·simp[e]at hac;exact .inl (.inl ⟨a,_,_,hac⟩)
  ·dsimp only at hac
   by_cases e:a=nid
   ·simp_all
   ·simp[e]at hac;exact .inl (.inr ⟨a,j,hac⟩)
 have hls:LStep L (fun a=>if a=nid then .mp i w.heap.size else L a) w.heap.size:=by
  refine⟨fun a ha=> ?_,fun b hb=> ?_,hownc⟩
  ·grind
  ·rcases hb with hb| ⟨a,ha⟩
   ·exact(hownc b hb).imp .inl id
   ·by_cases e:a=nid
    ·simp_all
    ·simp[e]at ha;exact .inl (.inr ⟨a,ha⟩)
 have hcl: ∀a g e c,L a= .cells g e c->g<w.heap.size:=fun a g e c hac=>hr.blk hac
 refine⟨_,if_pos rfl,hk,hls,fun a o' hao=> ?_,fun a ha=> ?_,fun a=> ?_,fun a b g e c e' c' ha hb=> ?_,fun a g ha=> ?_,fun a o' g es' cap' h1 h2 h3=> ?_,fun a j g ha=> ?_,hr.tab.mono hk hownc⟩
 ·by_cases e:a=nid
  ·subst e
   simp[appU]at hao
   simp_all
  ·simp[appU,e]at hao
   have hobj:=hr.obj a o' hao
   simp only[e,if_false]
   revert hobj
   cases hL:L a with
   |fresh=>exact id
   |dead=>exact id
   |nil=>exact id
   |hid g=>exact id
   |cells g es' cap'=>
    rintro⟨h0,h1,h2,h3,h4,cur',ty',h5,h6,h7⟩
    refine⟨h0,h1,h2,h3,h4,cur',ty',?_,h6,fun i e' j x hi hj=>⟨(h7 i e' j x hi hj).1,(h7 i e' j x hi hj).2.mono hk hls⟩⟩
    grind
   |mp j g=>
    intro hm
    exact YaW hm hk hls (fun ob h1=>by grind)
 ·by_cases e:a=nid
  ·simp_all
  ·simp only[e,if_false]at ha
   obtain⟨o',ho⟩:=hr.live a ha
   exact⟨o',by simp[appU,e,ho]⟩
 ·by_cases e:a=nid
  ·subst e;simp[appU]
  ·simp only[e,if_false,appU];exact hr.fresh a
 ·by_cases e1:a=nid
  ·simp_all
  ·by_cases e2:b=nid
   ·simp_all
   ·simp only[e1,if_false]at ha;simp only[e2,if_false]at hb
    exact hr.inj a b g _ _ _ _ ha hb
 ·by_cases e:a=nid
  ·simp_all
  ·simp[e]at ha
   exact⟨Yxw (hr.hid a g ha).1 hk.size,fun hc=>(hownc g hc).elim (hr.hid a g ha).2 (fun h=>by have:=(hr.hid a g ha).1;omega)⟩
 ·by_cases e:a=nid
  ·simp_all
  ·simp[appU,e]at h1;simp only[e,if_false]at h3
   exact hk.typ _ _ (hr.byt a o' g es' cap' h1 h2 h3)
 ·by_cases e:a=nid
  ·subst e
   simp only[if_true]at ha
   injection ha with _ hg
   refine⟨⟨o,by simp[appU]⟩,fun b j' hb=> ?_⟩
   by_cases e2:b=a
   ·omega
   ·simp only[e2,if_false]at hb
    have:=hr.mpl hb;omega
  ·simp only[e,if_false]at ha
   obtain⟨⟨o',ho⟩,k⟩:=hr.mps a j g ha
   refine⟨⟨o',by simp[appU,e,ho]⟩,fun b j' hb=> ?_⟩
   by_cases e2:b=nid
   ·simp only[e2,if_true]at hb
    injection hb with _ hg
    have:=hr.mpl ha;omega
   grind
theorem Yl3{o:AObj}{c:Int}{el:List (List AV)}{tags:List AV}(h:mapO o=some (c,el,tags)): ∃(R:AV),o.el=[.v (.int .i64 c)::R::tags]/\Yvd R=some el/\ (o.es=3\/o.es=4):=by
 unfold mapO at h
 split at h
 ·rename_i c' R tags' he
  split at h
  ·rename_i el' hR
   obtain⟨h1,h2⟩:=cond_ok' h
   simp_all
  trivial
 trivial
theorem YbU{h:HF}(hr:HR fm w L h){a:Nat}{o:AObj}{c:Int}{el:List (List AV)}{tags:List AV}(ha:h a=some (some o))(hm:mapO o=some (c,el,tags)){x:Value}(hx:VR fm w L x (.np a)):
  ∃g es n,x= .map (some g)/\c=((n:Nat):Int)/\L a= .mp false g/\w.heap[g]?=some (.map es n)/\MR fm w L (o.es-2) es el/\Asc es n/\ (o.es=3\/o.es=4)/\ ∀t∈tags,VR fm w L (.bool false) t:=by
 obtain⟨R,he,hR,hes⟩:=Yl3 hm
 have hobj:=hr.obj a o ha
 rcases Ydm hr ha hx with⟨g,hL,_,_⟩| ⟨g,hL,rfl⟩| ⟨g,hL,rfl⟩
 ·rw[hL]at hobj
  obtain⟨h0,_⟩:=hobj
  rcases hes with e|e<;>rw[e]at h0<;>cases h0
 ·rw[hL]at hobj
  obtain⟨h0,es,clock,c0,R',tags',h1,h2,h3,h4,h5,h6⟩:=hobj
  rw[he]at h2
  injection h2 with h2 _
  injection h2 with h2 h7
  injection h7 with h7 h8
  subst h2;subst h7;subst h8
  have:=Yae h3
  injection this with _ this
  subst this
  rcases h6 with rfl| ⟨wd,el',rfl,h6⟩
  ·cases hR
  ·simp only[Yvd]at hR;grind
 ·rw[hL]at hobj
  have:=hobj.1
  omega
theorem YgT{h:HF}(hr:HR fm w L h){a g:Nat}{o:AObj}{c:Int}{el:List (List AV)}{tags:List AV}(ha:h a=some (some o))(hm:mapO o=some (c,el,tags))(hx:VR fm w L (.map (some g)) (.np a)):
  ∃es n,c=((n:Nat):Int)/\L a= .mp false g/\w.heap[g]?=some (.map es n)/\MR fm w L (o.es-2) es el/\Asc es n:=by
 obtain⟨g',es,n,e,h0,h1,h2,h3,h4,_⟩:=YbU hr ha hm hx
 grind
theorem Yl4{ks:Bool}{d:TypeDesc}{k k':Value}{r:Bool}(hd:(ks=true/\d= .string)\/(ks=false/\ ∃q,d= .int q))(h:YvE ks k k'=some r):Instr.sameNow d k k'=some r/\ (r=true->k=k'):=by
 unfold YvE at h
 split at h
 ·rename_i k1 a k2 b
  rcases hd with⟨rfl,rfl⟩| ⟨rfl,q,rfl⟩
  ·cases h
  ·refine⟨h,fun hr=> ?_⟩
   simp_all
 ·rename_i a b
  rcases hd with⟨rfl,rfl⟩| ⟨rfl,q,rfl⟩
  ·refine⟨h,fun hr=> ?_⟩
   injection h with h
   rw[hr]at h
   rw[(MapKept.bytes_beq a b).1 h]
  trivial
 trivial
theorem YgU{ks:Bool}{d:TypeDesc}{k:Value}(hd:(ks=true/\d= .string)\/(ks=false/\ ∃q,d= .int q)): ∀(el:List (List AV)) (esl:List MapEntry) (i:Nat),esl.length=el.length->
  (∀(j:Nat) (e:List AV),el[j]?=some e-> ∃(m:MapEntry) (b kk:AV) (r:List AV),esl[j]?=some m/\e=b::kk::r/\VR fm w L m.key kk)->
  (Yt2 ks k el i=some none->Instr.findNow d k esl i=some none)/\
  (∀p r,Yt2 ks k el i=some (some (p,r))-> ∃n m b kk,p=i+n/\el[n]?=some (b::kk::r)/\esl[n]?=some m/\m.key=k/\Instr.findNow d k esl i=some (some (p,m.val)))
 | [],[],i,_,_=>⟨fun _=>rfl,fun p r h=>by simp[Yt2]at h⟩
 | [],_::_,i,h,_=>by grind
 |_::_,[],i,h,_=>by grind
 |e::el,m0::esl,i,hl,hrow=>by
  obtain⟨m,b,kk,r0,h1,rfl,h3⟩:=hrow 0 e rfl
  simp at h1;subst h1
  have ih:=YgU (k:=k) hd el esl (i+1) (by simp_all) (fun j e he=>by simpa using hrow (j+1) e (by trivial))
  cases kk with
  |v k'=>
   have hk':=Yae h3
   simp only[Yt2,Instr.findNow]
   rw[hk']
   cases hs:YvE ks k k' with
   |none=>simp
   |some t=>
    obtain⟨g1,g2⟩:=Yl4 hd hs
    rw[g1]
    cases t with
    |true=>
     simp_all
    |false=>
     refine⟨fun h=>ih.1 h,fun p r h=> ?_⟩
     obtain⟨n,m,b',kk,q1,q2,q3,q4,q5⟩:=ih.2 p r h
     exact⟨n+1,m,b',kk,by omega,by trivial,by trivial,q4,q5⟩
  |_=>exact⟨fun h=>by trivial,fun p r h=>by trivial⟩
theorem MR.find{kd:Nat}{es:Array MapEntry}{el:List (List AV)}(h:MR fm w L kd es el){ks:Bool}{d:TypeDesc}{k:Value}(hd:(ks=true/\d= .string)\/(ks=false/\ ∃q,d= .int q)):
  (Yt2 ks k el 0=some none->Instr.findNow d k es.toList 0=some none)/\
  (∀p r,Yt2 ks k el 0=some (some (p,r))-> ∃m b kk,el[p]?=some (b::kk::r)/\es[p]?=some m/\m.key=k/\Instr.findNow d k es.toList 0=some (some (p,m.val))/\MV fm w L kd m.val r):=by
 obtain⟨h1,h2⟩:=YgU (fm:=fm) (w:=w) (L:=L) (k:=k) hd el es.toList 0 (by simpa using h.len) (fun j e he=>by
  obtain⟨m,b,kk,r,k1,k2,k3,k4,_⟩:=h.row j e he
  grind)
 refine⟨h1,fun p r hp=> ?_⟩
 obtain⟨n,m,b,kk,q1,q2,q3,q4,q5⟩:=h2 p r hp
 have:p=n:=by omega
 subst this
 obtain⟨m',b',kk',r',k1,k2,k3,k4,k5⟩:=h.row p _ q2
 grind
theorem Ydn{kt:TypeId}{ks:Bool}{d:TypeDesc}{k:Value}(hd:(ks=true/\d= .string)\/(ks=false/\ ∃q,d= .int q))(hu:P.underlying kt=some d)(hk:keyK ks k=true)(e:Bool)(n:Nat)(w:World):
  (Instr.checkKey e (n+1) kt k).run P w= .ok () w:=by
 unfold Instr.checkKey
 simp only[Sem.run_bind,run_underlying hu,Result.andThen]
 rcases hd with⟨rfl,rfl⟩| ⟨rfl,q,rfl⟩<;>cases k<;>simp_all[keyK]
theorem Yl5{ks:Bool}{k:Value}(hk:keyK ks k=true)(w:World):(Instr.keyThatStays k k).run P w= .ok k w:=by
 have:Instr.sameBits 10000 k k=true:=by
  cases k<;>simp[keyK]at hk<;>simp[Instr.sameBits,MapKept.bytes_beq]
 simp[Instr.keyThatStays,this]
theorem Ydo{t:TypeId}{q:Bool×Nat×TypeId}(h:mapT P t=some q): ∃k d g,P.underlying t=some (.map k q.2.2)/\P.underlying k=some d/\ ((q.1=true/\d= .string)\/(q.1=false/\ ∃q,d= .int q))/\aggT P q.2.2=some g/\q.2.1=(bif g then 2 else 1):=by
 unfold mapT at h
 split at h
 ·rename_i k e hu
  split at h
  ·rename_i hk
   cases hg:aggT P e with
   |none=>simp_all
   |some g=>
    grind
  ·rename_i q' hk
   cases hg:aggT P e with
   |none=>simp_all
   |some g=>
    grind
  trivial
 trivial
theorem YgV{kd:Nat}{r:List AV}{v:AV}{x:Value}(h:mval kd r=some v)(hm:MV fm w L kd x r):VR fm w L x v:=by
 rcases hm with⟨rfl,a,rfl,h1,h2⟩| ⟨rfl,xs,rfl,h2⟩
 ·simp only[mval]at h;simp_all
 ·simp only[mval]at h;simp_all
theorem Yl6{kd:Nat}{r:List AV}{v:AV}{x:Value}(h:Yu4 kd v=some r)(hx:VR fm w L x v):MV fm w L kd x r:=by
 unfold Yu4 at h
 split at h
 ·injection h with h;subst h
  obtain⟨xs,rfl,_⟩:=Ybj hx
  exact .inr ⟨rfl,xs,rfl,hx⟩
 ·cases h
 ·rename_i hna
  split at h
  ·rename_i c hc
   injection h with h;subst h
   have hv:v=c:=by
    cases v<;>simp[cellsOf]at hc<;>first|exact hc|exact hc.2|skip
    simp_all
   subst hv
   refine .inl ⟨rfl,v,rfl,?_,hx⟩
   cases v with
   |v y=>
    have:=Yae hx
    subst this
    simp only[cellsOf]at hc
    simp_all
   |u=>trivial
   |tup=>trivial
   |agg cs=>simp_all
   |np a=>cases hx<;>first|rfl|skip
          rename_i hv _;rcases hv with rfl|rfl<;>rfl
   |_=>cases hx<;>rfl
  trivial
 trivial
end
end Go.Abs
namespace Go.Abs
open Go Go.RowKit
section
variable{P:Program}{fm:FM}{w:World}{L:Nat->Loc}
theorem Yl7{h:HF}{nid:Nat}(hr:HR fm w L h)(hn:h nid=none){kd:Nat}(hkd:kd=1\/kd=2)(wd:Nat):
  OpPost fm w L (appF h nid [.push (some ⟨kd+2,[.v (.int .i64 0):: .rd wd []::List.replicate kd (.v (.bool false))]⟩)]) (.np nid) (.map (some w.heap.size)) (w.alloc (.map #[] 0)):=by
 obtain⟨L',k1,k2,k3,k4⟩:=YgS (i:=false) (o:=⟨kd+2,[.v (.int .i64 0):: .rd wd []::List.replicate kd (.v (.bool false))]⟩) (ob:=.map #[] 0) hr hn (fun c t f e=>by cases e) (w':=w.alloc (.map #[] 0)) rfl rfl rfl rfl (by simp)
  (fun L' _ _ _ hg=>⟨by simp_all, #[],0,.v (.int .i64 0),_,_,hg,rfl,.v _,fun t ht=>by rw[(List.mem_replicate.1 ht).2];exact .v _,⟨fun i e hi=>by trivial,fun i j e f _ hi=>by trivial⟩,.inr ⟨wd,[],rfl,rfl,fun i e hi=>by trivial⟩⟩)
 exact⟨L',k2,k3,k4,.mpAt _ _ k1⟩
theorem YgW{ok:Bool}{v:AV}{x:Value}{is:Bool}(hv:VR fm w L x v):VR fm w L (if ok then .tuple #[x,.bool is]else x) (mres ok v is):=by
 cases ok with
 |false=>trivial
 |true=>
  refine .tup _ _ rfl (fun j a hj=> ?_)
  match j,hj with
  |0,hj=>simp_all
  |1,hj=>simp at hj;subst hj;exact .v _
  |j+2,hj=>trivial
theorem Yl8{h:HF}(hr:HR fm w L h){t:TypeId}{q:Bool×Nat×TypeId}(hq:mapT P t=some q){z:Value}(hz:(P.info? q.2.2).bind (·.zero)=some z){a:Nat}{o:AObj}{c:Int}{el:List (List AV)}{tags:List AV}(ha:h a=some (some o))(hm:mapO o=some (c,el,tags)){x:Value}(hx:VR fm w L x (.np a))
  {k:Value} (hk:keyK q.1 k=true) (hes:o.es=q.2.1+2) {ok:Bool}:
  (∀p r v,Yt2 q.1 k el 0=some (some (p,r))->mval q.2.1 r=some v-> ∃y,(Instr.lookup t x k ok).run P w= .ok y w/\VR fm w L y (mres ok v true))/\
  (Yt2 q.1 k el 0=some none-> ∃y,(Instr.lookup t x k ok).run P w= .ok y w/\VR fm w L y (mres ok (ofV z) false)):=by
 obtain⟨kt,d,g,hu,hku,hd,hag,hkd⟩:=Ydo hq
 obtain⟨gb,es,n,rfl,rfl,hL,hg,hmr,_⟩:=YbU hr ha hm hx
 have hes':o.es-2=q.2.1:=by omega
 have hzv:(zeroValue q.2.2).run P w= .ok z w:=by
  cases hi:P.info? q.2.2 with
  |none=>simp_all
  |some i=>
   simp only[hi,YxG]at hz
   simp[zeroValue,typeInfo,hi,hz]
 obtain⟨f1,f2⟩:=hmr.find (k:=k) hd
 refine⟨fun p r v hf hv=> ?_,fun hf=> ?_⟩
 ·obtain⟨m,b,kk,q1,q2,q3,q4,q5⟩:=f2 p r hf
  refine⟨_,?_,YgW (YgV hv (hes'▸q5))⟩
  have hfk:=MapKept.run_findKey (P:=P) (w:=w) hku q4
  have hck:=Ydn (P:=P) hd hku hk es.isEmpty 9999 w
  unfold Instr.lookup
  simp only[Sem.run_bind,run_underlying hu,Result.andThen,MapKept.run_getObj_map hg,Sem.run_pure]
  simp_all
 ·refine⟨_,?_,YgW (Ygg z)⟩
  have hfk:=MapKept.run_findKey (P:=P) (w:=w) hku (f1 hf)
  have hck:=Ydn (P:=P) hd hku hk es.isEmpty 9999 w
  unfold Instr.lookup
  simp only[Sem.run_bind,run_underlying hu,Result.andThen,MapKept.run_getObj_map hg,Sem.run_pure]
  simp_all
theorem MR.modify{kd:Nat}{es:Array MapEntry}{el:List (List AV)}(h:MR fm w L kd es el){p:Nat}{m:MapEntry}(hm:es[p]?=some m){x:Value}{r:List AV}(hv:MV fm w L kd x r):
  MR fm w L kd (es.modify p fun e=>{e with key:=m.key,val:=x}) (el.modify p (putE (.v m.key) r)):=by
 have hget: ∀j,(es.modify p fun e=>{e with key:=m.key,val:=x})[j]?=if p=j then(es[j]?).map (fun e=>{e with key:=m.key,val:=x})else es[j]?:=fun j=>by
  grind
 refine⟨by simpa using h.len,fun i e hi=> ?_⟩
 rw[List.getElem?_modify]at hi
 rw[Option.map_eq_map,YxE]at hi
 obtain⟨e0,h0,he⟩:=hi
 obtain⟨m',b,k,r',k1,rfl,k3,k4,k5⟩:=h.row i e0 h0
 by_cases hp:p=i
 ·subst hp
  rw[hm]at k1;injection k1 with k1;subst k1
  simp only[if_true]at he
  refine⟨{m with val:=x},b,.v m.key,r,by simp_all,he.symm,k3,.v _,hv⟩
 grind
theorem Asc.modify{es:Array MapEntry}{c:Nat}(h:Asc es c)(p:Nat)(k x:Value):Asc (es.modify p fun e=>{e with key:=k,val:=x}) c:=by
 have born: ∀(j:Nat) (e:MapEntry),(es.modify p fun e=>{e with key:=k,val:=x})[j]?=some e-> ∃e0,es[j]?=some e0/\e0.born=e.born:=fun j e hj=>by
  grind
 refine⟨fun i e hi=> ?_,fun i j e f hij hi hj=> ?_⟩
 ·obtain⟨e0,g1,g2⟩:=born i e hi
  rw[<-g2];exact h.1 i e0 g1
 ·obtain⟨e0,g1,g2⟩:=born i e hi
  obtain⟨f0,g3,g4⟩:=born j f hj
  rw[<-g2,<-g4]
  exact h.2 i j e0 f0 hij g1 g3
theorem MR.push{kd:Nat}{es:Array MapEntry}{el:List (List AV)}(h:MR fm w L kd es el)(c:Nat){k x:Value}{r:List AV}(hv:MV fm w L kd x r):
  MR fm w L kd (es.push {key:=k,val:=x,born:=c}) (el++[.v (.int .i64 (c:Nat)):: .v k::r]):=by
 have hl:=h.len
 refine⟨by grind,fun i e hi=> ?_⟩
 by_cases hin:i<el.length
 ·rw[YwU hin]at hi
  obtain⟨m,b,kk,r',k1,k2,k3,k4,k5⟩:=h.row i e hi
  grind
 ·have hie:i=el.length:=by
   grind
  subst hie
  simp at hi;subst hi
  exact⟨_,_,_,r,by rw[Array.getElem?_push,if_pos hl.symm],rfl,.v _,.v _,hv⟩
theorem Asc.push{es:Array MapEntry}{c:Nat}(h:Asc es c)(k x:Value):Asc (es.push {key:=k,val:=x,born:=c}) (c+1):=by
 refine⟨fun i e hi=> ?_,fun i j e f hij hi hj=> ?_⟩
 ·rw[Array.getElem?_push]at hi
  split at hi
  ·grind
  ·exact Nat.lt_succ_of_lt (h.1 i e hi)
 ·rw[Array.getElem?_push]at hi hj
  have hj':j<es.size\/j=es.size:=by
   grind
  rw[if_neg (by omega)]at hi
  by_cases hje:j=es.size
  ·rw[if_pos hje]at hj;injection hj with hj;subst hj
   exact h.1 i e hi
  ·rw[if_neg hje]at hj
   exact h.2 i j e f hij hi hj
theorem YgX{es:Array MapEntry}{p:Nat}(hp:p<es.size)(j:Nat):(es.eraseIdxIfInBounds p)[j]?=if j<p then es[j]? else es[j+1]?:=by
 grind
theorem MR.erase{kd:Nat}{es:Array MapEntry}{el:List (List AV)}(h:MR fm w L kd es el){p:Nat}(hp:p<es.size):
  MR fm w L kd (es.eraseIdxIfInBounds p) (el.eraseIdx p):=by
 have hl:=h.len
 refine⟨by grind,fun i e hi=> ?_⟩
 rw[List.getElem?_eraseIdx]at hi
 split at hi
 ·rename_i hip
  obtain⟨m,b,k,r,k1,k2⟩:=h.row i e hi
  grind
 ·rename_i hip
  obtain⟨m,b,k,r,k1,k2⟩:=h.row _ e hi
  grind
theorem Asc.erase{es:Array MapEntry}{c:Nat}(h:Asc es c){p:Nat}(hp:p<es.size):Asc (es.eraseIdxIfInBounds p) c:=by
 refine⟨fun i e hi=> ?_,fun i j e f hij hi hj=> ?_⟩
 ·rw[YgX hp]at hi
  split at hi
  ·exact h.1 _ e hi
  ·exact h.1 _ e hi
 ·rw[YgX hp]at hi hj
  split at hi<;>split at hj
  ·exact h.2 _ _ e f hij hi hj
  ·exact h.2 _ _ e f (by omega) hi hj
  ·omega
  ·exact h.2 _ _ e f (by omega) hi hj
theorem MV.keep{kd:Nat}{x:Value}{r:List AV}{w':World}(h:MV fm w L kd x r)(hk:Keep L w w'):MV fm w' L kd x r:=h.mono hk (LStep.refl _ _)
theorem Yl9{h:HF}(hr:HR fm w L h){t:TypeId}{q:Bool×Nat×TypeId}(hq:mapT P t=some q)(wd:Nat){a:Nat}{o:AObj}{c:Int}{el:List (List AV)}{tags:List AV}(ha:h a=some (some o))(hm:mapO o=some (c,el,tags)){x:Value}(hx:VR fm w L x (.np a))
  {k:Value} (hk:keyK q.1 k=true) (hes:o.es=q.2.1+2) {v:AV} {y:Value} (hy:VR fm w L y v) {r:List AV} (hv:Yu4 q.2.1 v=some r):
  (∀p r',Yt2 q.1 k el 0=some (some (p,r'))-> ∃w',(Instr.mapUpdate t x k y).run P w= .ok () w'/\Keep L w w'/\HR fm w' L (fun b=>if b=a then some (some ⟨o.es,[.v (.int .i64 c):: .rd wd (el.modify p (putE (.v k) r))::tags]⟩)else h b))/\
  (Yt2 q.1 k el 0=some none-> ∃w',(Instr.mapUpdate t x k y).run P w= .ok () w'/\Keep L w w'/\HR fm w' L (fun b=>if b=a then some (some ⟨o.es,[.v (.int .i64 (c+1)):: .rd wd (el++[.v (.int .i64 c):: .v k::r])::tags]⟩)else h b)):=by
 obtain⟨kt,d,g,hu,hku,hd,hag,hkd⟩:=Ydo hq
 obtain⟨gb,es,n,rfl,rfl,hL,hg,hmr,hasc,hes12,htag⟩:=YbU hr ha hm hx
 have hes':o.es-2=q.2.1:=by omega
 have h0:o.es≠0:=by omega
 have hmv:=Yl6 hv hy
 obtain⟨f1,f2⟩:=hmr.find (k:=k) hd
 have hck:=Ydn (P:=P) hd hku hk false 9999 w
 refine⟨fun p r' hf=> ?_,fun hf=> ?_⟩
 ·obtain⟨m,b,kk,q1,q2,q3,q4,q5⟩:=f2 p r' hf
  have hfk:=MapKept.run_findKey (P:=P) (w:=w) hku q4
  have hst:=Yl5 (P:=P) hk w
  obtain⟨k1,k2⟩:=Ycz hr ha hL (ob:=.map (es.modify p fun e=>{e with key:=k,val:=y}) n) (fun c t f e=>by cases e) (w':={w with heap:=w.heap.setIfInBounds gb (.map (es.modify p fun e=>{e with key:=k,val:=y}) n)}) rfl rfl rfl rfl
   (o':=⟨o.es,[.v (.int .i64 (n:Int)):: .rd wd (el.modify p (putE (.v k) r))::tags]⟩) h0
   (fun hkeep hg'=>⟨hes12,_,n,_,_,_,hg',rfl,.v _,fun t ht=>(htag t ht).mono hkeep (LStep.refl _ _),hasc.modify p k y,.inr ⟨wd,_,rfl,by
    have:=(hmr.mono hkeep (LStep.refl _ _)).modify q2 (hes'▸hmv.keep hkeep)
    simp_all⟩⟩)
  refine⟨_,?_,k1,k2⟩
  unfold Instr.mapUpdate
  simp only[Sem.run_bind,run_underlying hu,Result.andThen,MapKept.run_getObj_map hg]
  simp only[show(10000:Nat)=9999+1 from rfl,hck,hfk,q2,YxF,YxI,q3]
  simp[hst,MapKept.run_setObj_map _ hg,Result.andThen]
 ·have hfk:=MapKept.run_findKey (P:=P) (w:=w) hku (f1 hf)
  obtain⟨k1,k2⟩:=Ycz hr ha hL (ob:=.map (es.push {key:=k,val:=y,born:=n}) (n+1)) (fun c t f e=>by cases e) (w':={w with heap:=w.heap.setIfInBounds gb (.map (es.push {key:=k,val:=y,born:=n}) (n+1))}) rfl rfl rfl rfl
   (o':=⟨o.es,[.v (.int .i64 ((n:Int)+1)):: .rd wd (el++[.v (.int .i64 (n:Int)):: .v k::r])::tags]⟩) h0
   (fun hkeep hg'=>⟨hes12,_,n+1,_,_,_,hg',rfl,by exact .v _,fun t ht=>(htag t ht).mono hkeep (LStep.refl _ _),hasc.push k y,.inr ⟨wd,_,rfl,(hmr.mono hkeep (LStep.refl _ _)).push n (k:=k) (hes'▸hmv.keep hkeep)⟩⟩)
  refine⟨_,?_,k1,k2⟩
  unfold Instr.mapUpdate
  simp only[Sem.run_bind,run_underlying hu,Result.andThen,MapKept.run_getObj_map hg]
  simp only[show(10000:Nat)=9999+1 from rfl,hck,hfk]
  simp[MapKept.run_setObj_map _ hg]
theorem Yma{h:HF}(hr:HR fm w L h){t ty:TypeId}{q:Bool×Nat×TypeId}(hq:mapT P t=some q)(wd:Nat){a:Nat}{o:AObj}{c:Int}{el:List (List AV)}{tags:List AV}(ha:h a=some (some o))(hm:mapO o=some (c,el,tags)){x:Value}(hx:VR fm w L x (.np a))
  {k:Value} (hk:keyK q.1 k=true) {ats:Array TypeId} (hats:ats[0]?=some t):
  (∀p r',Yt2 q.1 k el 0=some (some (p,r'))-> ∃w',(Builtin.delete_ ats ty #[x,k]).run P w= .ok (.tuple #[]) w'/\Keep L w w'/\HR fm w' L (fun b=>if b=a then some (some ⟨o.es,[.v (.int .i64 c):: .rd wd (el.eraseIdx p)::tags]⟩)else h b))/\
  (Yt2 q.1 k el 0=some none-> ∃w',(Builtin.delete_ ats ty #[x,k]).run P w= .ok (.tuple #[]) w'/\Keep L w w'/\HR fm w' L (fun b=>if b=a then some (some ⟨o.es,[.v (.int .i64 c):: .rd wd el::tags]⟩)else h b)):=by
 obtain⟨kt,d,g,hu,hku,hd,hag,hkd⟩:=Ydo hq
 obtain⟨gb,es,n,rfl,rfl,hL,hg,hmr,hasc,hes12,htag⟩:=YbU hr ha hm hx
 obtain⟨f1,f2⟩:=hmr.find (k:=k) hd
 have hck:=Ydn (P:=P) hd hku hk es.isEmpty 9999 w
 have h0:o.es≠0:=by omega
 refine⟨fun p r' hf=> ?_,fun hf=> ?_⟩
 ·obtain⟨m,b,kk,q1,q2,q3,q4,q5⟩:=f2 p r' hf
  have hfk:=MapKept.run_findKey (P:=P) (w:=w) hku q4
  have hps:=(YxT.1 q2).1
  obtain⟨k1,k2⟩:=Ycz hr ha hL (ob:=.map (es.eraseIdxIfInBounds p) n) (fun c t f e=>by cases e) (w':={w with heap:=w.heap.setIfInBounds gb (.map (es.eraseIdxIfInBounds p) n)}) rfl rfl rfl rfl
   (o':=⟨o.es,[.v (.int .i64 (n:Int)):: .rd wd (el.eraseIdx p)::tags]⟩) h0
   (fun hkeep hg'=>⟨hes12,_,n,_,_,_,hg',rfl,.v _,fun t ht=>(htag t ht).mono hkeep (LStep.refl _ _),hasc.erase hps,.inr ⟨wd,_,rfl,(hmr.mono hkeep (LStep.refl _ _)).erase hps⟩⟩)
  refine⟨_,?_,k1,k2⟩
  unfold Builtin.delete_
  simp only[hats,List.getElem?_toArray,List.getElem?_cons_zero,List.getElem?_cons_succ,Sem.run_bind,run_underlying hu,Result.andThen,MapKept.run_getObj_map hg]
  simp only[show(10000:Nat)=9999+1 from rfl,hck,hfk]
  simp[MapKept.run_setObj_map _ hg,Result.andThen]
 ·have hfk:=MapKept.run_findKey (P:=P) (w:=w) hku (f1 hf)
  obtain⟨k1,k2⟩:=Ycz hr ha hL (ob:=.map es n) (fun c t f e=>by cases e) (w':={w with heap:=w.heap.setIfInBounds gb (.map es n)}) rfl rfl rfl rfl
   (o':=⟨o.es,[.v (.int .i64 (n:Int)):: .rd wd el::tags]⟩) h0
   (fun hkeep hg'=>⟨hes12,_,n,_,_,_,hg',rfl,.v _,fun t ht=>(htag t ht).mono hkeep (LStep.refl _ _),hasc,.inr ⟨wd,_,rfl,hmr.mono hkeep (LStep.refl _ _)⟩⟩)
  refine⟨_,?_,k1,k2⟩
  unfold Builtin.delete_
  simp only[hats,List.getElem?_toArray,List.getElem?_cons_zero,List.getElem?_cons_succ,Sem.run_bind,run_underlying hu,Result.andThen,MapKept.run_getObj_map hg]
  simp only[show(10000:Nat)=9999+1 from rfl,hck,hfk]
  simp[MapKept.run_setObj_map _ hg,Result.andThen]
theorem Ymb{h:HF}{nid:Nat}(hr:HR fm w L h)(hn:h nid=none){t:TypeId}{q:Bool×Nat×TypeId}(hq:mapT P t=some q){a:Nat}{o:AObj}{c:Int}{el:List (List AV)}{tags:List AV}(ha:h a=some (some o))(hm:mapO o=some (c,el,tags)){x:Value}(hx:VR fm w L x (.np a)):
  ∃y w',(Instr.range t x).run P w= .ok y w'/\OpPost fm w L (appF h nid [.push (some ⟨5,[[.np a,.v (.int .i64 c),.v (.int .i64 c),.rd 1 [],.v (.bool false)]]⟩)]) (.np nid) y w':=by
 obtain⟨kt,d,g,hu,hku,hd,hag,hkd⟩:=Ydo hq
 obtain⟨gb,es,n,rfl,rfl,hL,hg,hmr,_⟩:=YbU hr ha hm hx
 obtain⟨L',k1,k2,k3,k4⟩:=YgS (i:=true) (o:=⟨5,[[.np a,.v (.int .i64 (n:Int)),.v (.int .i64 (n:Int)),.rd 1 [],.v (.bool false)]]⟩) (ob:=.mapIter (some gb) n #[] n) hr hn (fun c t f e=>by cases e) (w':=w.alloc (.mapIter (some gb) n #[] n)) rfl rfl rfl rfl (fun e=>by cases e)
  (fun L' hkp hls _ hg'=>⟨rfl,_,_,_,_,_,gb,n, #[],n,hg',rfl,hx.mono hkp hls,.v _,.v _,.v _,.inr ⟨1,[],rfl,rfl,fun i e hi=>by trivial⟩⟩)
 refine⟨_,_,?_,L',k2,k3,k4,.itAt _ _ k1⟩
 simp[Instr.range,run_underlying hu,Result.andThen,MapKept.run_getObj_map hg]
theorem YgY{o:AObj}{m:Nat}{s t:Int}{bl:List (List AV)}(h:YuG o=some (m,s,t,bl)): ∃S tag,o.el=[[.np m,.v (.int .i64 s),.v (.int .i64 t),S,tag]]/\Yvd S=some bl/\o.es=5:=by
 unfold YuG at h
 split at h
 ·rename_i m' s' t' S tag he
  split at h
  ·rename_i bl' hS
   obtain⟨h1,h2⟩:=cond_ok' h
   simp_all
  trivial
 trivial
theorem YgZ{h:HF}(hr:HR fm w L h){a:Nat}{o:AObj}{m:Nat}{s t:Int}{bl:List (List AV)}(ha:h a=some (some o))(hi:YuG o=some (m,s,t,bl)){x:Value}(hx:VR fm w L x (.np a)):
  ∃(g g' since:Nat) (seen:Array Nat) (stepped:Nat),x= .pointer (some ⟨g,0,none⟩)/\L a= .mp true g/\w.heap[g]?=some (.mapIter (some g') since seen stepped)/\VR fm w L (.map (some g')) (.np m)/\s=(since:Int)/\t=(stepped:Int)/\Ywf fm w L seen bl:=by
 obtain⟨S,tag,he,hS,h3⟩:=YgY hi
 have hobj:=hr.obj a o ha
 rcases Ydm hr ha hx with⟨g,hL,_,_⟩| ⟨g,hL,rfl⟩| ⟨g,hL,rfl⟩
 ·rw[hL]at hobj
  obtain⟨h0,_⟩:=hobj
  rw[h3]at h0;cases h0
 ·rw[hL]at hobj
  rcases hobj.1 with e|e<;>rw[h3]at e<;>cases e
 ·rw[hL]at hobj
  obtain⟨h0,a0,s',t',S',tag',g',since,seen,stepped,h1,h2,k1,k2,k3,k4,k5⟩:=hobj
  rw[he]at h2
  injection h2 with h2 _
  injection h2 with e1 h2;injection h2 with e2 h2;injection h2 with e3 h2;injection h2 with e4 h2
  subst e1;subst e2;subst e3;subst e4
  have e1:=Yae k2;injection e1 with _ e1
  have e2:=Yae k3;injection e2 with _ e2
  rcases k5 with rfl| ⟨wd,bl',rfl,k5⟩
  ·cases hS
  ·simp only[Yvd]at hS;grind
theorem Yg0{n:Int}: ∀(el:List (List AV)) (esl:List MapEntry),esl.length=el.length->
  (∀(j:Nat) (e:List AV),el[j]?=some e-> ∃(m:MapEntry) (b kk:AV) (r:List AV),esl[j]?=some m/\e=b::kk::r/\VR fm w L (.int .i64 (m.born:Int)) b)->
  ∀e,YuL n el=some e-> ∃(i:Nat) (m:MapEntry),el[i]?=some e/\esl[i]?=some m/\ (m.born:Int)=n/\ ∀(stamp:Nat),(stamp:Int)=n->esl.find? (·.born==stamp)=some m
 | [],_,_,_,e,h=>by cases h
 |_::_,[],hl,_,_,_=>by trivial
 |e0::el,m0::esl,hl,hrow,e,h=>by
  obtain⟨m,b,kk,r,h1,rfl,h3⟩:=hrow 0 e0 rfl
  simp at h1;subst h1
  simp only[YuL]at h
  cases hb:YuV (b::kk::r)with
  |none=>simp_all
  |some n'=>
   rw[hb]at h
   have hbb:b= .v (.int .i64 n'):=by
    unfold YuV at hb
    grind
   subst hbb
   have hn:=Yae h3;injection hn with _ hn
   simp only at h
   by_cases hc:n'=n
   ·subst hc
    simp only[decide_true,cond_true]at h
    injection h with h;subst h
    refine⟨0,m0,rfl,rfl,by omega,fun stamp hs=> ?_⟩
    grind
   ·simp only[hc,decide_false,cond_false]at h
    obtain⟨i,m,g1,g2,g3,g4⟩:=Yg0 el esl (by simp_all) (fun j e he=>by simpa using hrow (j+1) e (by trivial)) e h
    refine⟨i+1,m,by trivial,by trivial,g3,fun stamp hs=> ?_⟩
    grind
theorem Ymc{h:HF}(hr:HR fm w L h){it:Nat}{oi:AObj}{m:Nat}{s t:Int}{bl:List (List AV)}(hi:h it=some (some oi))(hio:YuG oi=some (m,s,t,bl)){x:Value}(hx:VR fm w L x (.np it))
  {o:AObj} (hm:h m=some (some o)) {n:Int} (hn:bl.getLast?=some [.v (.int .i64 n)]) {c:Int} {el:List (List AV)} {tags:List AV} (hmo:mapO o=some (c,el,tags)) (htc:t=c) {b k:AV} {r:List AV} (hf:YuL n el=some (b::k::r)) {v:AV} (hv:mval (o.es-2) r=some v):
  ∃y,(Instr.entry x).run P w= .ok y w/\VR fm w L y (.tup [k,v]):=by
 obtain⟨g,g',since,seen,stepped,rfl,hL,hg,hvm,rfl,rfl,hseen⟩:=YgZ hr hi hio hx
 obtain⟨es,nc,rfl,hLm,hgm,hmr,_⟩:=YgT hr hm hmo hvm
 have hst:stepped=nc:=by omega
 subst hst
 obtain⟨i,me,q1,q2,q3,q4⟩:=Yg0 (fm:=fm) (w:=w) (L:=L) el es.toList (by simpa using hmr.len) (fun j e he=>by
  obtain⟨m,b,kk,r,k1,k2,k3,k4,_⟩:=hmr.row j e he
  simp_all) _ hf
 obtain⟨m',b',k',r',k1,k2,k3,k4,k5⟩:=hmr.row i _ q1
 have:m'=me:=by
  simp_all
 subst this
 injection k2 with e1 e2;injection e2 with e2 e3;subst e1;subst e2;subst e3
 have hlast: ∃stamp,seen.back?=some stamp/\ (stamp:Int)=n:=by
  rw[List.getLast?_eq_getElem?]at hn
  obtain⟨n0,b0,g1,g2,g3⟩:=hseen.2 _ _ hn
  injection g2 with g2 _;subst g2
  have:=Yae g3;injection this with _ this
  refine⟨n0,?_,this⟩
  rw[Array.back?_eq_getElem?,hseen.1];exact g1
 obtain⟨stamp,hs1,hs2⟩:=hlast
 refine⟨.tuple #[m'.key,m'.val],?_,?_⟩
 ·have hfd:es.find? (·.born==stamp)=some m':=by simp_all
  simp only[Instr.entry,getObj,Sem.run_bind,Sem.run,hg,hgm,Result.andThen,hs1,bne_self_eq_false,Bool.false_eq_true,if_false,hfd]
  rfl
 ·refine .tup _ _ rfl (fun j a hj=> ?_)
  match j,hj with
  |0,hj=>simp_all
  |1,hj=>simp at hj;subst hj;exact YgV hv k5
  |j+2,hj=>trivial
end
end Go.Abs
namespace Go.Abs
open Go Go.RowKit
section
variable{P:Program}{fm:FM}{w:World}{L:Nat->Loc}
theorem Ymd{h:HF}{a:Nat}{o:AObj}(ha:h a=some (some o)):(fun b=>if b=a then some (some o)else h b)=h:=by
 grind
theorem Yme(es:Nat)(A:Option Addr)(n c:Nat)(W:World):(Builtin.firstCells es 0 (.slice A n c)).run P W= .ok #[] W:=by
 cases A<;>simp[Builtin.firstCells,loadCells,loadCellsFrom]
theorem Ymf{t t' ty e:TypeId}(hu:P.underlying t=some (.slice e)){es:Nat}(hsz:YtR P e=some es){h:HF}(hr:HR fm w L h){a:Nat}{o:AObj}(ha:h a=some (some o))(hes0:0<es)(hoes:o.es=es)
  {x:Value} (hx:VR fm w L x (.ref a 0 o.el.length)) {y:Value} {l:List (List AV)} (hy:VR fm w L y (.rd es l)) (hel: ∀e∈l,e.length=es):
  ∃w',(Builtin.copy_ #[t,t'] ty #[x,y]).run P w= .ok (.int .i64 ((min l.length o.el.length:Nat):Int)) w'/\Keep L w w'/\
   HR fm w' L (fun b=>if b=a then some (some ⟨o.es,l.take (min l.length o.el.length)++o.el.drop (min l.length o.el.length)⟩)else h b):=by
 have hoe:(⟨o.es,o.el⟩:AObj)=o:=rfl
 have hzero: ∀(A:Option Addr) (c:Nat),x= .slice A o.el.length c->min l.length o.el.length=0-> ∃w',(Builtin.copy_ #[t,t'] ty #[x,y]).run P w= .ok (.int .i64 ((min l.length o.el.length:Nat):Int)) w'/\Keep L w w'/\
   HR fm w' L (fun b=>if b=a then some (some ⟨o.es,l.take (min l.length o.el.length)++o.el.drop (min l.length o.el.length)⟩)else h b):=by
  rintro A c rfl hn
  obtain⟨B,d,rfl,_⟩:=Ydk hy
  refine⟨w,?_,Keep.refl _ _,?_⟩
  ·have hn':Nat.min l.length o.el.length=0:=hn
   cases A<;>simp[Builtin.copy_,run_underlying hu,Builtin.lenOf,YaH hsz,Result.andThen,hn,Yme,storeCells,goInt]
  ·simp only[hn,List.take_zero,Yxd,List.drop_zero,hoe,Ymd ha]
   exact hr
 by_cases hn:min l.length o.el.length=0
 ·rcases Ya4 hr ha hx with⟨g,es',cap,hL,e1,e2,rfl⟩| ⟨A,b,hL,hA,_,e2,rfl⟩
  ·simp_all
  simp_all
 ·rcases Ya4 hr ha hx with⟨g,es',cap,hL,e1,e2,rfl⟩| ⟨A,b,hL,hA,_,e2,rfl⟩
  ·have hwd:wd o.es=es:=by rw[hoes];exact Yay hes0
   rw[hwd]at e1;subst e1
   have hobj:=hr.obj a o ha
   rw[hL]at hobj
   obtain⟨_,_,hlc,hcm,hall,cur,bt,hg,hcs,hrr⟩:=hobj
   have hlne:l≠ []:=fun e=>hn (by grind)
   obtain⟨b,oo,c,vals,rfl,_,_,hcells,hvr⟩:=Ygq hy hlne
   have hn1:min l.length o.el.length<=l.length:=Nat.min_le_left _ _
   have hn2:min l.length o.el.length<=o.el.length:=Nat.min_le_right _ _
   generalize hnn:min l.length o.el.length=n at hn hn1 hn2⊢
   obtain⟨f1,f2,f3⟩:=Ygr (w:=w) (b:=b) (o:=oo) (m:=n) (vals:=vals) hes0 (fun i j hi hj=>hcells i j (by omega) hj)
   have hfc:=run_firstCells_some (P:=P) w es' n ⟨b,oo,none⟩ l.length c _ f1 f2
   have hle:n*es'<=cap*es':=YxA _ (by omega)
   have hst:=run_storeCells_at P g 0 bt (flat es' n vals) 0 cur w hg (by omega) f3
   simp only[Yxx,List.take_zero,Yxd,f1]at hst
   obtain⟨k1,k2⟩:=Ydg hr ha hL (cur':=(flat es' n vals++cur.toList.drop (n*es')).toArray) hg (by grind) (el:=l.take n++o.el.drop n) (by grind)
    (fun e he=>by
     grind)
    (fun i e' j c' hi hj=>by
     by_cases hin:i<n
     ·rw[YwU (by grind),Yw8,if_pos hin]at hi
      have hjl:j<es':=by grind
      have hlt:i*es'+j<n*es':=by
       have:(i+1)*es'<=n*es':=YxA _ (by omega)
       grind
      have:((flat es' n vals++cur.toList.drop (n*es')).toArray).getD (i*es'+j) undef=vals i j:=by
       rw[<-Ygp hin hjl (vals:=vals)]
       simp[Array.getD,f1,List.getD,hlt,List.getElem_append_left (show i*es'+j< (flat es' n vals).length by omega)]
       omega
      grind
     ·rw[Yw0 (by grind),Yxh]at hi
      have hlen:(l.take n).length=n:=by grind
      rw[hlen]at hi
      have hii:n+(i-n)=i:=by omega
      rw[hii]at hi
      have hge:n*es'<=i*es':=YxA _ (by omega)
      have:((flat es' n vals++cur.toList.drop (n*es')).toArray).getD (i*es'+j) undef=cur.getD (i*es'+j) undef:=by
       rw[YxS,YxS,List.getElem?_toArray,Yw0 (by omega),f1,Yxh]
       grind
      grind)
   refine⟨_,?_,k1,k2⟩
   have hmin:Nat.min l.length o.el.length=n:=hnn
   simp[Builtin.copy_,run_underlying hu,Builtin.lenOf,YaH hsz,Result.andThen,hmin,hfc,hst,goInt]
  omega
end
end Go.Abs
namespace Go.Abs
open Go Go.RowKit
section
variable{h:HF}{nid:Nat}{v:AV}{us:List Upd}{xs:List AV}
theorem Ymg{kd wd:Nat}(hx:xF (.mkm kd wd) xs h nid=some (v,us)):xs=[]/\ (kd=1\/kd=2)/\v= .np nid/\us=[.push (some ⟨kd+2,[.v (.int .i64 0):: .rd wd []::List.replicate kd (.v (.bool false))]⟩)]:=by
 unfold xF at hx
 split at hx<;>try trivial
 all_goals(rename_i heq;cases heq)
 obtain⟨h1,h2⟩:=cond_ok' hx
 simp_all
theorem Ymh{ks ok:Bool}{kd:Nat}(hx:xF (.mget ks kd ok) xs h nid=some (v,us)): ∃a k z o c el tags,xs=[.np a,.v k,z]/\h a=some (some o)/\mapO o=some (c,el,tags)/\o.es=kd+2/\keyK ks k=true/\us=[]/\
  ((∃p r y,Yt2 ks k el 0=some (some (p,r))/\mval kd r=some y/\v=mres ok y true)\/(Yt2 ks k el 0=some none/\v=mres ok z false)):=by
 unfold xF at hx
 split at hx<;>try trivial
 all_goals(rename_i heq;cases heq)
 rename_i a k z
 split at hx<;>try trivial
 rename_i o ho
 split at hx<;>try trivial
 rename_i c el tags hm
 obtain⟨h1,h2⟩:=cond_ok' hx
 simp at h1
 grind
theorem Ymi{ks:Bool}{kd wd:Nat}(hx:xF (.mput ks kd wd) xs h nid=some (v,us)): ∃a k y o c el tags r,xs=[.np a,.v k,y]/\h a=some (some o)/\mapO o=some (c,el,tags)/\o.es=kd+2/\keyK ks k=true/\v= .u/\Yu4 kd y=some r/\
  ((∃p r',Yt2 ks k el 0=some (some (p,r'))/\us=[.set a (some ⟨o.es,[.v (.int .i64 c):: .rd wd (el.modify p (putE (.v k) r))::tags]⟩)])\/
   (Yt2 ks k el 0=some none/\us=[.set a (some ⟨o.es,[.v (.int .i64 (c+1)):: .rd wd (el++[.v (.int .i64 c):: .v k::r])::tags]⟩)])):=by
 unfold xF at hx
 split at hx<;>try trivial
 all_goals(rename_i heq;cases heq)
 rename_i a k y
 split at hx<;>try trivial
 rename_i o ho
 split at hx<;>try trivial
 rename_i c el tags hm
 obtain⟨h1,h2⟩:=cond_ok' hx
 simp at h1
 grind
theorem Ymj{ks:Bool}{wd:Nat}(hx:xF (.mdel ks wd) xs h nid=some (v,us)): ∃a k o c el tags,xs=[.np a,.v k]/\h a=some (some o)/\mapO o=some (c,el,tags)/\keyK ks k=true/\v= .u/\
  ((∃p r',Yt2 ks k el 0=some (some (p,r'))/\us=[.set a (some ⟨o.es,[.v (.int .i64 c):: .rd wd (el.eraseIdx p)::tags]⟩)])\/
   (Yt2 ks k el 0=some none/\us=[.set a (some ⟨o.es,[.v (.int .i64 c):: .rd wd el::tags]⟩)])):=by
 unfold xF at hx
 grind
theorem Ymk(hx:xF .mlen xs h nid=some (v,us)): ∃a o c el tags,xs=[.np a]/\h a=some (some o)/\mapO o=some (c,el,tags)/\v= .v (.int .i64 (el.length:Nat))/\us=[]:=by
 unfold xF at hx
 grind
theorem Yml(hx:xF .mrng xs h nid=some (v,us)): ∃a o c el tags,xs=[.np a]/\h a=some (some o)/\mapO o=some (c,el,tags)/\v= .np nid/\us=[.push (some ⟨5,[[.np a,.v (.int .i64 c),.v (.int .i64 c),.rd 1 [],.v (.bool false)]]⟩)]:=by
 unfold xF at hx
 grind
theorem Ymm(hx:xF .ment xs h nid=some (v,us)): ∃it oi m s t bl o n c el tags b k r y,xs=[.np it]/\h it=some (some oi)/\YuG oi=some (m,s,t,bl)/\h m=some (some o)/\bl.getLast?=some [.v (.int .i64 n)]/\mapO o=some (c,el,tags)/\
  t=c/\YuL n el=some (b::k::r)/\mval (o.es-2) r=some y/\v= .tup [k,y]/\us=[]:=by
 unfold xF at hx
 split at hx<;>try trivial
 all_goals(rename_i heq;cases heq)
 rename_i it
 split at hx<;>try trivial
 rename_i oi hi
 split at hx<;>try trivial
 grind
theorem Ymn{es:Nat}(hx:xF (.cpy es) xs h nid=some (v,us)): ∃a x o l,xs=[.ref a 0 o.el.length,x]/\h a=some (some o)/\srcA x=some l/\Yux es x=true/\o.es=es/\ (∀e∈l,e.length=es)/\0<es/\
  v= .v (.int .i64 ((min l.length o.el.length:Nat):Int))/\us=[.set a (some ⟨o.es,l.take (min l.length o.el.length)++o.el.drop (min l.length o.el.length)⟩)]:=by
 unfold xF at hx
 split at hx<;>try trivial
 all_goals(rename_i heq;cases heq)
 rename_i a off len x
 split at hx<;>try trivial
 rename_i o ho
 split at hx<;>try trivial
 rename_i l hl
 obtain⟨h1,h2⟩:=cond_ok' hx
 simp only[YxL,Nat.beq_eq,Nat.blt_eq]at h1
 obtain⟨⟨h3,h4,h5⟩,h6,h7,h8⟩:=h1
 subst h4;subst h5
 injection h2 with h2;injection h2 with e1 e2
 exact⟨a,x,o,l,rfl,ho,hl,h3,h6,fun e he=>Yxt (Yw1.1 h7 e he),h8,e1.symm,e2.symm⟩
theorem Ymo(hx:xF .mnxt xs h nid=some (v,us)):False:=by
 trivial
end
section
variable{P:Program}{fm:FM}{w:World}{L:Nat->Loc}
theorem YcA{h:HF}{a:Nat}{o':AObj}{w':World}(hk:Keep L w w')(hh:HR fm w' L (fun b=>if b=a then some (some o')else h b))(nid:Nat){x:Value}{v:AV}(hv:VR fm w' L x v):
  OpPost fm w L (appF h nid [.set a (some o')]) v x w':=⟨L,hk,LStep.refl _ _,hh,hv⟩
theorem Ya5{o:Oper}{xs:List Opd}{xo:XOp}{h:HF}{nid:Nat}{a:Act}{env:Env}{K:AV->List Upd->Prop}(hev:evG (.px xo xs) env h nid K)
  (hs: ∀v us,xF xo (xs.map (opd env)) h nid=some (v,us)-> ∃x w',YvG P o a w x w'/\OpPost fm w L (appF h nid us) v x w'):Shown P fm o a w L h nid K:=by
 obtain⟨v,us,hx,hk⟩:=hev
 obtain⟨x,w',h1,h2⟩:=hs v us hx
 exact⟨x,v,us,w',h1,hk,h2⟩
end
end Go.Abs
namespace Go.Abs
open Go Go.RowKit
section
variable{P:Program}{fm:FM}{w:World}{L:Nat->Loc}
theorem Yg1{mx:Bool}{k:IntKind}: ∀{r:List AV} {vs:List Value} {m:Int} {v:AV},mmF mx k m r=some v->vs.length=r.length->(∀(j:Nat) (a:AV) (y:Value),r[j]?=some a->vs[j]?=some y->VR fm w L y a)->
  ∃n,v= .v (.int k n)/\ (vs.foldlM (bif mx then Builtin.max2 else Builtin.min2) (.int k m)).run P w= .ok (.int k n) w
 | [],vs,m,v,h,hl,hv=>by
   simp only[mmF]at h;simp_all
 |a::r,[],m,v,h,hl,hv=>by trivial
 |a::r,y::vs,m,v,h,hl,hv=>by
  cases a with
  |v x=>
   cases x with
   |int k' n=>
    simp only[mmF]at h
    have hy:=Yae (hv 0 _ _ rfl rfl)
    subst hy
    obtain⟨n',e1,e2⟩:=Yg1 (mx:=mx) (vs:=vs) h (by simp_all) (fun j a y hj hy=>hv (j+1) a y (by trivial) (by trivial))
    refine⟨n',e1,?_⟩
    have e3:(if n<m then n else m)=min m n:=by omega
    have e4:(if n>m then n else m)=max m n:=by omega
    cases mx
    ·simp only[cond_false]at e2⊢
     simp[List.foldlM_cons,Builtin.min2,e3,e2]
    ·simp only[cond_true]at e2⊢
     simp[List.foldlM_cons,Builtin.max2,e4,e2]
   |_=>trivial
  |_=>trivial
theorem Ymp{h:HF}{nid:Nat}(hr:HR fm w L h){a:Act}{env:Env}(he:ER fm w L a env){t:TypeId}{x:Operand}{g:Bool}{n:Nat}(hg:aggT P t=some g)(hn:YtR P t=some n)
  {dst:Option Tmp} {ty:TypeId} {pos:String} {after:Array Edge} {guard:Option (Nat×Bool)} {K:AV->List Upd->Prop}
  (hev:evG (.load g n (YtP fm x)) env h nid K):Shown P fm {dst,op:=.load t x,type:=ty,pos,after,guard} a w L h nid K:=by
 simp only[evG,opK]at hev
 have hx:=Yad he x
 revert hev hx
 cases hp:opd env (YtP fm x)<;>intro hev hx<;>try trivial
 case rp cs=>
  obtain⟨b,o,vals,e,hb,hbs,hc,h1,hrr⟩:=Ybz hx
  obtain⟨y,v,k1,k2,k3⟩:=YeG (P:=P) (w:=w) hg hn hc h1 hrr hev
  exact .pure hr (YgC e k1) k2 k3
 case ptr b i j=>
  obtain⟨o,ha,e,hi,hev⟩:=hev
  obtain⟨ad,y,v,e1,k1,k2,k3⟩:=YgB hg hn hr ha hx hi hev
  exact .pure hr (YgC e1 k1) k2 k3
theorem Ymq{h:HF}{nid:Nat}(hr:HR fm w L h){a:Act}{env:Env}(he:ER fm w L a env){t:TypeId}{x y:Operand}{n:Nat}(hn:YtR P t=some n)
  {dst:Option Tmp} {ty:TypeId} {pos:String} {after:Array Edge} {guard:Option (Nat×Bool)} {K:AV->List Upd->Prop}
  (hev:evG (.store n (YtP fm x) (YtP fm y)) env h nid K):Shown P fm {dst,op:=.store t x y,type:=ty,pos,after,guard} a w L h nid K:=by
 simp only[evG,opK]at hev
 have hx:=Yad he x
 have hy:=Yad he y
 revert hev hx
 cases hp:opd env (YtP fm x)<;>intro hev hx<;>try trivial
 case ptr b i j=>
  obtain⟨o,ha,e,hi,cs,hcs,hcn,hje,hk⟩:=hev
  obtain⟨ad,w',e1,k1,k2,k3⟩:=YlV hn hr ha hx hi (Ydf hy hcs) hcn hje
  refine⟨undef,.u,_,w',.inr ⟨?_,rfl⟩,hk,L,k2,LStep.refl _ _,k3,.u _⟩
  simp[execOp,Instr.storeAt,Instr.sureAddr,e1,k1]
theorem YbB{x:Value}{k:IntKind}{n:Int}{y:Nat}{code:BoundsCode}(hx:x= .int k n)(h0:0<=n)(h1:n.toNat<=y)(w:World):(Instr.sliceBound x y code).run P w= .ok n.toNat w:=by
 subst hx
 have:0<=n/\n<=(y:Int):=by omega
 simp[Instr.sliceBound,asIntOf,this]
theorem Ydp{a:Act}{env:Env}(he:ER fm w L a env)(b:Bool){len cap:Nat}{lo hi:Option Operand}{K:Nat->Nat->Prop}(_hc:len<=cap)
  (hev:slB env (lo.map (YtP fm)) 0 fun l=>slB env (hi.map (YtP fm)) len fun h=>K l h) (hK: ∀l h,K l h->l<=h/\h<=cap):
  ∃l h,(Instr.sliceBounds b len cap (lo.map a.eval) (hi.map a.eval) none).run P w= .ok (l,h,cap) w/\K l h:=by
 have hint: ∀(x:Operand) (k:IntKind) (n:Int),opd env (YtP fm x)= .v (.int k n)->a.eval x= .int k n:=fun x k n e=>by
  have:=Yad he x;rw[e]at this;exact Yae this
 cases lo with
 |none=>
  cases hi with
  |none=>exact⟨0,len,by rfl,hev⟩
  |some y=>
   obtain⟨k,n,e,h0,hk⟩:=hev
   obtain⟨_,h2⟩:=hK _ _ hk
   refine⟨0,n.toNat,?_,hk⟩
   simp[Instr.sliceBounds,YbB (hint y k n e) h0 h2]
 |some x=>
  obtain⟨k,n,e,h0,hev⟩:=hev
  cases hi with
  |none=>
   obtain⟨h1,_⟩:=hK _ _ hev
   refine⟨n.toNat,len,?_,hev⟩
   simp[Instr.sliceBounds,YbB (hint x k n e) h0 h1]
  |some y=>
   obtain⟨k',n',e',h0',hk⟩:=hev
   obtain⟨h1,h2⟩:=hK _ _ hk
   refine⟨n.toNat,n'.toNat,?_,hk⟩
   simp[Instr.sliceBounds,YbB (hint x k n e) h0 h1,YbB (hint y k' n' e') h0' h2]
theorem Ydq{t:TypeId}{ms:Array (String×TypeId)}(hi:P.underlying t=some (.interface ms))(w:World):
  (∀d,(Op.equalIn (d+1) t .nilIface .nilIface).run P w= .ok true w)/\ ∀d te p,(Op.equalIn (d+1) t (.iface te p) .nilIface).run P w= .ok false w:=
 ⟨fun d=>by simp[Op.equalIn,run_underlying hi],fun d te p=>by simp[Op.equalIn,run_underlying hi]⟩
theorem Ymr(w:World)(t:TypeId)(ms:Array (String×TypeId))(hi:P.underlying t=some (.interface ms)):(binOp .eql t .nilIface .nilIface).run P w= .ok (.bool true) w:=by
 simp only[binOp];simp[Op.equal,Op.maxDepth,(Ydq hi w).1 9999]
theorem Yms(w:World)(t:TypeId)(ms:Array (String×TypeId))(hi:P.underlying t=some (.interface ms)):(binOp .neq t .nilIface .nilIface).run P w= .ok (.bool false) w:=by
 simp only[binOp];simp[Op.equal,Op.maxDepth,(Ydq hi w).1 9999]
theorem Ymt(w:World)(t te:TypeId)(p:Value)(ms:Array (String×TypeId))(hi:P.underlying t=some (.interface ms)):(binOp .eql t (.iface te p) .nilIface).run P w= .ok (.bool false) w:=by
 simp only[binOp];simp[Op.equal,Op.maxDepth,(Ydq hi w).2 9999]
theorem Ymu(w:World)(t te:TypeId)(p:Value)(ms:Array (String×TypeId))(hi:P.underlying t=some (.interface ms)):(binOp .neq t (.iface te p) .nilIface).run P w= .ok (.bool true) w:=by
 simp only[binOp];simp[Op.equal,Op.maxDepth,(Ydq hi w).2 9999]
theorem Ymv{l:List (List AV)}{h i k:Nat}{e:List AV}(hk:((l.take h).drop i)[k]?=some e):l[i+k]?=some e:=by
 grind
theorem YeP{o:Oper}{op:AOp}(htr:trOp P fm o=some op){h:HF}{nid:Nat}(hr:HR fm w L h){a:Act}{env:Env}(he:ER fm w L a env)(hn:h nid=none)
  {K:AV->List Upd->Prop} (hev:evG op env h nid K):Shown P fm o a w L h nid K:=by
 have hval: ∀(x:Operand) (y:Value),opd env (YtP fm x)= .v y->a.eval x=y:=fun x y e=>by
  have:=Yad he x;rw[e]at this;exact Yae this
 obtain⟨dst,oop,ty,pos,after,guard⟩:=o
 cases oop<;>simp only[trOp]at htr
 case move x=>
  injection htr with htr;subst htr
  exact .pure hr (by simp[execOp]) hev (Yad he x)
 case assign x=>
  injection htr with htr;subst htr
  exact .pure hr (by simp[execOp]) hev (Yad he x)
 case pick c x y=>
  injection htr with htr;subst htr
  obtain⟨t,e,hk⟩:=hev
  have hc:=hval c _ e
  cases t with
  |true=>exact .pure hr (by simp[execOp,hc,asBool]) (hk.1 rfl) (Yad he x)
  |false=>exact .pure hr (by simp[execOp,hc,asBool]) (hk.2 rfl) (Yad he y)
 case alloc e=>
  have plain:(Yt3 P e).map .alloc=some op->Shown P fm {dst,op:=.alloc e,type:=ty,pos,after,guard} a w L h nid K:=by
   intro htr
   cases hz:Yt3 P e with
   |none=>simp[hz]at htr
   |some z=>
   simp[hz]at htr;subst htr
   obtain⟨i,z0,hi,hz0,hzc,hzs,hil,hp,hm,hby,h1⟩:=Ybi hz
   have hcr:CR fm w L z0.cells (z.map zc):=by
    have:=Ygh (fm:=fm) (w:=w) (L:=L) z h1
    rwa[<-hzc,YxU,hzc]at this
   have hb:=Ygx hr hn e hcr (by simpa using hp) (by simp[maxEl];omega)
   simp only[YwY]at hb
   exact⟨_,_,_,_,.inl (by simp[execOp,Instr.alloc,zeroValue,typeInfo,hi,hz0,newVar,newRow]),hev,hb⟩
  split at htr
  ·rename_i hbt
   cases hz:Yt3 P e with
   |none=>rw[hz]at htr;cases htr
   |some z=>
    rw[hz]at htr
    simp only[YxG]at htr
    split at htr
    ·injection htr with htr;subst htr
     obtain⟨v,us,hx,hk⟩:=hev
     simp only[YwX,xF]at hx
     injection hx with hx;injection hx with e1 e2;subst e1;subst e2
     obtain⟨i,z0,hi,hz0,hzc,hzs,hil,hp,hm,hby,h1⟩:=Ybi hz
     have hzc':z0.cells= #[.pointer none,.slice none 0 0]:=by rw[<-YxU (xs:=z0.cells),hzc]
     have hb:=YlY (fm:=fm) hr hn
     rw[<-hzc',<-hbt]at hb
     exact⟨_,_,_,_,.inl (by simp[execOp,Instr.alloc,zeroValue,typeInfo,hi,hz0,newVar,newRow]),hk,hb⟩
    ·exact plain (by rw[hz];exact htr)
  ·exact plain htr
 case box e x=>
  injection htr with htr;subst htr
  obtain⟨cs,hcs,h0,hm,hk⟩:=hev
  exact⟨_,_,_,_,.inl (by simp[execOp,Instr.box,newVar,newRow]),hk,Ygx hr hn e (Ydf (Yad he x) hcs) h0 hm⟩
 case build t parts=>
  cases hu:P.underlying t with
  |none=>simp[hu]at htr
  |some d=>
   cases hz:Yt3 P t with
   |none=>cases d<;>simp[hu,hz]at htr
   |some z=>
    obtain⟨i,z0,hi,hz0,hzc,hzs,hil,hp,hm,hby,h1⟩:=Ybi hz
    have hcr:CR fm w L z0.cells (z.map zc):=by
     have:=Ygh (fm:=fm) (w:=w) (L:=L) z h1
     rwa[<-hzc,YxU,hzc]at this
    have fin: ∀(place:Nat->Option (Nat×Nat)) (aps:List (Nat×Nat×Opd)),op= .build z aps->parts.toList.length=aps.length->
      (∀(k:Nat) (p:Nat×Operand) (q:Nat×Nat×Opd),parts.toList[k]?=some p->aps[k]?=some q->place p.1=some (q.1,q.2.1)/\q.2.2=YtP fm p.2)->
      (∀ps,Instr.fill place z0.cells ps=P.built t ps)->Shown P fm {dst,op:=.build t parts,type:=ty,pos,after,guard} a w L h nid K:=by
     intro place aps hop hlen hcor hpl
     subst hop
     obtain⟨R',cs,k1,k2,k3⟩:=Ygm he place parts.toList aps z0.cells (z.map zc) _ hlen hcor hcr hev
     rw[hpl]at k1
     have hrun:=run_build (P:=P) w t (parts.map fun p=>(p.1,a.eval p.2)) R' (by simpa using k1)
     exact .pure hr (by simp only[execOp,Sem.run_bind];rw[hrun];rfl) k3 k2.agg
    cases d with
    |struct fs=>
     simp only[hu,hz]at htr
     cases hm2:(parts.toList.mapM fun(p:Nat×Operand)=>(fs[p.1]?).bind fun f=>(YtR P f.type).map fun s=>(f.offset,s,YtP fm p.2))with
     |none=>simp[hm2]at htr
     |some aps=>
      simp only[hm2,YxG]at htr
      split at htr
      ·rename_i hall
       injection htr with htr
       have hpl: ∃places,fs.toList.mapM (fun f=>(P.info? f.type).map fun i=>(f.offset,i.size))=some places/\ ∀(k:Nat) (f:Field),fs.toList[k]?=some f-> ∃s,YtR P f.type=some s/\places[k]?=some (f.offset,s):=by
        clear hm2 htr hcr
        revert hall
        generalize fs.toList=fl
        intro hall
        induction fl with
        |nil=>exact⟨[],rfl,fun k f hk=>by simp at hk⟩
        |cons f fl ih=>
         simp only[List.all_cons,YxL]at hall
         obtain⟨pl,h1,h2⟩:=ih hall.2
         obtain⟨s,hs⟩:=YxH.1 hall.1
         have hs':=hs
         unfold YtR at hs
         cases hii:P.info? f.type with
         |none=>simp[hii]at hs
         |some ii=>
          simp[hii]at hs
          refine⟨(f.offset,ii.size)::pl,by simp[List.mapM_cons,hii,h1],fun k g hk=> ?_⟩
          cases k with
          |zero=>simp at hk;subst hk;exact⟨s,hs',by simp[hs]⟩
          |succ k=>simpa using h2 k g (by simpa using hk)
       obtain⟨places,hp1,hp2⟩:=hpl
       have hmem: ∀(ps:List (Nat×Operand)) (aps:List (Nat×Nat×Opd)),(ps.mapM fun(p:Nat×Operand)=>(fs[p.1]?).bind fun f=>(YtR P f.type).map fun s=>(f.offset,s,YtP fm p.2))=some aps->
         ps.length=aps.length/\ ∀(k:Nat) (p:Nat×Operand) (q:Nat×Nat×Opd),ps[k]?=some p->aps[k]?=some q->places.toArray[p.1]?=some (q.1,q.2.1)/\q.2.2=YtP fm p.2:=by
        intro ps
        induction ps with
        |nil=>intro aps h;simp at h;subst h;exact⟨rfl,fun k p q hk=>by simp at hk⟩
        |cons p ps ih=>
         intro aps h
         simp only[List.mapM_cons,Option.bind_eq_bind,Option.pure_def]at h
         cases hf:fs[p.1]? with
         |none=>simp[hf]at h
         |some f=>
          obtain⟨s,hs,hpk⟩:=hp2 p.1 f (by simpa using hf)
          cases hrest:(ps.mapM fun(p:Nat×Operand)=>(fs[p.1]?).bind fun f=>(YtR P f.type).map fun s=>(f.offset,s,YtP fm p.2))with
          |none=>simp[hf,hs,hrest]at h
          |some rest=>
           simp[hf,hs,hrest]at h
           subst h
           obtain⟨i1,i2⟩:=ih rest hrest
           refine⟨by simp[i1],fun k p' q hk1 hk2=> ?_⟩
           cases k with
           |zero=>simp at hk1 hk2;subst hk1;subst hk2;exact⟨by simpa using hpk,rfl⟩
           |succ k=>exact i2 k p' q (by simpa using hk1) (by simpa using hk2)
       obtain⟨m1,m2⟩:=hmem parts.toList aps hm2
       exact fin (places.toArray[·]?) aps htr.symm m1 m2 (fun ps=>by simp[Program.built,hi,hu,hz0,hp1])
      ·cases htr
    |array n e=>
     simp only[hu,hz]at htr
     cases hse:YtR P e with
     |none=>simp[hse]at htr
     |some s=>
      simp[hse]at htr
      have hse':=hse
      unfold YtR at hse
      cases hie:P.info? e with
      |none=>simp[hie]at hse
      |some ie=>
       simp[hie]at hse
       refine fin (fun i=>some (i*s,s)) _ htr.symm (by simp) (fun k p q hk1 hk2=> ?_) (fun ps=>by simp[Program.built,hi,hu,hz0,hie,hse])
       rw[YwR,hk1]at hk2
       simp at hk2
       subst hk2
       exact⟨rfl,rfl⟩
    |_=>simp[hu,hz]at htr
 case buildSlice t len parts=>
  cases hu:P.underlying t with
  |none=>simp[hu]at htr
  |some d=>
   cases d with
   |slice e=>
    cases hz:Yt3 P e with
    |none=>simp[hu,hz]at htr
    |some z=>
     simp only[hu,hz,YxG]at htr
     have run: ∀(R':Array Value),(∃i z0,P.info? e=some i/\i.zero=some z0/\i.size=z.length/\z0.cells.size=z.length/\z0.cells.toList=z/\Instr.fill (fun i=>some (i*z.length,z.length)) (((Array.range (len*z.length)).map (z0.cells[· % z.length]!))) (parts.toList.map fun p=>(p.1,a.eval p.2))=some R')->len*z.length<=2^24->
       (Instr.buildSlice t len (parts.map fun p=>(p.1,a.eval p.2))).run P w= .ok (.slice (some ⟨w.heap.size,0,none⟩) len len) (w.alloc (.cells R' e)):=by
      rintro R' ⟨i,z0,hi,hz0,hil,hz0s,hzc,k1⟩ hbig
      have hbig': ¬ (2^24<len*z.length):=by omega
      by_cases hl0:len*z.length=0
      ·have:(Array.range (len*z.length)).map (z0.cells[· % z.length]!)=(Array.range 0).map ((#[]:Array Value)[· % 0]!):=by rw[hl0];simp
       rw[this]at k1
       simp only[Instr.buildSlice,Sem.run_bind,run_underlying hu,Result.andThen_ok]
       simp[sizeOf,typeInfo,hi,hil,hl0]
       simp at k1
       simp[k1,newRow]
      ·simp only[Instr.buildSlice,Sem.run_bind,run_underlying hu,Result.andThen_ok]
       simp[sizeOf,typeInfo,hi,hil,hbig',hl0,zeroValue,hz0,hz0s]
       try simp at k1
       simp[k1,newRow]
     split at htr
     ·rename_i hh
      simp only[YxL,decide_eq_true_eq,beq_iff_eq]at hh
      obtain⟨⟨⟨_,hidx⟩,hlen0⟩,hbig⟩:=hh
      have fin: ∀(os:Nat),wd os=z.length->(os=0->e=fm.bu)-> ∀(e0:List AV) (l0:List (List AV)),cellsAll ((parts.toList.map fun p=>YtP fm p.2).map (opd env))=some (e0::l0)->(∀x∈ (e0::l0),x.length=z.length)->(e0::l0).length<=maxEl->
        K (.ref nid 0 (e0::l0).length) [.push (some ⟨os,e0::l0⟩)]->Shown P fm {dst,op:=.buildSlice t len parts,type:=ty,pos,after,guard} a w L h nid K:=by
       intro os hwd hty e0 l0 hca hall' hml hk
       have hes0:0<z.length:=by rw[<-hwd];exact Ygf os
       obtain⟨i,z0,hi,hz0,hzc,hzs,hil,hp,hm,hby,h1⟩:=Ybi hz
       have hz0s:z0.cells.size=z.length:=by rw[hzs,hil]
       have h0:=YeL (fm:=fm) (w:=w) (L:=L) z0.cells len (by rw[hzc];exact h1)
       rw[hzc,hz0s]at h0
       have hpl:parts.toList.length=len:=by have:=congrArg List.length hidx;simpa using this
       have hcl:=YgM hca
       simp only[YwY]at hcl
       have hfill:=YgN (env:=env) (es:=z.length) (parts.toList.map fun p=>YtP fm p.2) (e0::l0) (List.replicate len (z.map zc)) 0 (fun l=>l=e0::l0) (by simpa using hca) hall' (by simp[hpl]) (by simp[hpl])
       have hzip:((parts.toList.map fun p=>YtP fm p.2).zipIdx 0|>.map fun p=>(p.2,p.1))=parts.toList.map fun p=>(p.1,YtP fm p.2):=by
        apply Yxc
        intro k
        have hk:=congrArg (fun l=>l[k]?) hidx
        simp only[YwR]at hk
        simp only[YwR,List.getElem?_zipIdx]
        cases hpk:parts.toList[k]? with
        |none=>simp
        |some p=>
         rw[hpk]at hk
         have hkl:k<len:=by rw[<-hpl];exact(YwP.1 hpk).1
         rw[Yxb hkl]at hk
         simp at hk
         simp[hk]
       rw[hzip]at hfill
       obtain⟨R',l',k1,k2,rfl⟩:=YeK he parts.toList _ _ _ h0 hfill
       have hrun:=run R' ⟨i,z0,hi,hz0,hil,hz0s,hzc,k1⟩ hbig
       obtain⟨hs1,hs2,hs3⟩:=k2
       have hll:(e0::l0).length=len:=by rw[hcl,<-hpl]
       obtain⟨g1,g2,g3⟩:=YeE (os:=os) (w':=w.alloc (.cells R' e)) (cap:=len) (es:=z.length) (el:=e0::l0) (cur:=R') (ty:=e) hr hn rfl rfl rfl rfl hes0 (by omega) (by simp only[maxEl]at hml;simp only[maxLen];omega) hs2 (by rw[hs1,hll]) hs3 hwd hty
       refine⟨_,_,_,_,.inl (by simp only[execOp,Sem.run_bind];rw[hrun];rfl),hk,_,g1,g2,g3,?_⟩
       have:=VR.refAt (fm:=fm) (w:=w.alloc (.cells R' e)) (L:=fun a=>if a=nid then .cells w.heap.size z.length len else L a) w.heap.size z.length len nid 0 len (by simp) (by omega)
       rw[hll]
       simpa using this
      split at htr
      ·rename_i hbu
       split at htr
       ·rename_i hz1
        injection htr with htr
        subst htr
        obtain⟨v,us,hx,hk⟩:=hev
        simp only[xF]at hx
        split at hx<;>try(cases hx;done)
        rename_i e0 l0 hca
        obtain⟨hcond,hx⟩:=cond_ok' hx
        injection hx with hx;injection hx with e1 e2;subst e1;subst e2
        simp only[YxL,Nat.ble_eq]at hcond
        exact fin 0 (by rw[hz1];rfl) (fun _=>hbu) e0 l0 hca (fun e he=>by rw[hz1];exact Yxt (Yw1.1 hcond.1 e he)) hcond.2 hk
       ·cases htr
      ·injection htr with htr
       subst htr
       obtain⟨v,us,hx,hk⟩:=hev
       simp only[xF]at hx
       split at hx<;>try(cases hx;done)
       rename_i e0 l0 hca
       obtain⟨hcond,hx⟩:=cond_ok' hx
       injection hx with hx;injection hx with e1 e2;subst e1;subst e2
       simp only[YxL,Nat.blt_eq,Nat.ble_eq]at hcond
       obtain⟨⟨hes0,hall⟩,hml⟩:=hcond
       exact fin z.length (Yay hes0) (fun h=>absurd hes0 (by omega)) e0 l0 hca (fun e he=>Yxt (Yw1.1 hall e he)) hml hk
     split at htr
     ·rename_i hbig
      injection htr with htr
      subst htr
      obtain⟨i,z0,hi,hz0,hzc,hzs,hil,hp,hm,hby,h1⟩:=Ybi hz
      have hz0s:z0.cells.size=z.length:=by rw[hzs,hil]
      have h0:=YeL (fm:=fm) (w:=w) (L:=L) z0.cells len (by rw[hzc];exact h1)
      rw[hzc,hz0s]at h0
      obtain⟨R',l',k1,k2,k3,k4⟩:=YeK he parts.toList _ _ _ h0 (Ygn _ _ _ hev)
      simp at k4
      have hrun:=run R' ⟨i,z0,hi,hz0,hil,hz0s,hzc,k1⟩ hbig
      obtain⟨hs1,hs2,hs3⟩:=k2
      have hk:=YeJ w L (.cells R' e)
      refine⟨_,_,[],_,.inl (by simp only[execOp,Sem.run_bind];rw[hrun];rfl),k3,L,hk,LStep.refl _ _,YlI hr _,?_⟩
      cases l' with
      |nil=>simp at k4;subst k4;exact .emp _
      |cons e0 l0=>
       rw[<-k4]
       have hget:(w.alloc (.cells R' e)).heap[w.heap.size]?=some (.cells R' e (0,0)):=heap_alloc_new w _
       have hidx: ∀i e' j c,(e0::l0)[i]?=some e'->e'[j]?=some c->i*z.length+j<R'.size:=by
        intro i e' j c hi' hj'
        have hil':=(YwP.1 hi').1
        have hjl:=(YwP.1 hj').1
        have hee:=hs2 e' (YwQ hi')
        have hb:(i+1)*z.length<=(e0::l0).length*z.length:=YxA _ hil'
        rw[YxB]at hb
        rw[hs1];omega
       have:=VR.rd (fm:=fm) (w:=w.alloc (.cells R' e)) (L:=L) w.heap.size 0 (e0::l0).length z.length (e0::l0) (fun i j=>R'.getD (i*z.length+j) undef)
        (by simp) hs2 hp (Yxs _) (fun hb=>hb.elim (fun h=>h.elim (fun⟨b,es',cap',hb⟩=>by have:=hr.blk hb;omega) (fun⟨b,i,hb⟩=>by have:=hr.mpl hb;omega)) (fun⟨b,hb⟩=>by have:=(hr.hid b _ hb).1;omega)) (by simp)
        (fun i e' j c hi' hj'=>by
         rw[cell_of_row _ _ _ R' e (0,0) hget]
         rw[Yxx]
         exact YbS (hidx i e' j c hi' hj'))
        (fun i e' j c hi' hj'=>(hs3 i e' j c hi' hj').1)
        (fun i e' j c hi' hj'=>(hs3 i e' j c hi' hj').2.mono hk (LStep.refl _ _))
       exact this
     ·cases htr
   |_=>simp[hu]at htr
 case load t x=>
  cases hg:aggT P t with
  |none=>simp[hg]at htr
  |some g=>
   cases hs:YtR P t with
   |none=>simp[hg,hs]at htr
   |some n=>
    simp[hg,hs]at htr;subst htr
    exact Ymp hr he hg hs hev
 case store t x y=>
  cases hs:YtR P t with
  |none=>simp[hs]at htr
  |some n=>
   simp[hs]at htr;subst htr
   exact Ymq hr he hs hev
 case nilCheck x=>
  injection htr with htr;subst htr
  simp only[evG,opK]at hev
  have hx:=Yad he x
  revert hev hx
  cases hp:opd env (YtP fm x)<;>intro hev hx<;>try exact hev.elim
  case rp cs=>
   obtain⟨b,o,vals,e,_⟩:=Ybz hx
   exact .pure hr (by simp[execOp,e]) hev (e▸hx)
  case ptr b i j=>
   obtain⟨ad,e⟩:=YeN hx
   exact .pure hr (by simp[execOp,e]) hev (e▸hx)
  case clo f cs=>
   obtain⟨gf,xs,e,_⟩:=Ycy hx
   exact .pure hr (by simp[execOp,e]) hev (e▸hx)
 case binOp op' t x y yt=>
  have plain:op= .bin op' (YtP fm x) (YtP fm y)->Shown P fm {dst,op:=.binOp op' t x y yt,type:=ty,pos,after,guard} a w L h nid K:=by
   intro e;subst e
   simp only[evG,opK]at hev
   have hx:=Yad he x
   have hy:=Yad he y
   obtain⟨va,vb,hp,hq⟩:=YlR hev
   rw[hp]at hx hev
   rw[hq]at hy hev
   obtain⟨r,k1,k2⟩:=YlQ (P:=P) (w:=w) (t:=t) (ea:=x) (eb:=y) hev
   have e1:=Yae hx;have e2:=Yae hy
   refine .pure hr ?_ k2 (.v r)
   simp only[execOp,Sem.run_bind]at k1⊢
   rw[e1,e2]
   simp only[k1,Result.andThen_ok]
   rfl
  have beq: ∀ng,(op'= .eql/\ng=false\/op'= .neq/\ng=true)->P.underlying t=some .bool->op= .beq ng (YtP fm x) (YtP fm y)->Shown P fm {dst,op:=.binOp op' t x y yt,type:=ty,pos,after,guard} a w L h nid K:=by
   intro ng hng hu e;subst e
   obtain⟨s,e1,t',e2,hk⟩:=hev
   have h1:=hval x _ e1;have h2:=hval y _ e2
   refine .pure hr ?_ hk (.v _)
   rcases hng with⟨rfl,rfl⟩| ⟨rfl,rfl⟩<;>simp[execOp,eqGuard,h1,h2,binOp,Op.equal,Op.maxDepth,run_equalIn_bool' w _ t s t' hu]
  have beqa: ∀ng,(op'= .eql/\ng=false\/op'= .neq/\ng=true)->(∃fs,P.underlying t=some (.struct fs))-> ∀ks,Yuz P 9 t=some ks->P.eqGuardType P.depth t=false->op= .eqa ng ks (YtP fm x) (YtP fm y)->Shown P fm {dst,op:=.binOp op' t x y yt,type:=ty,pos,after,guard} a w L h nid K:=by
   intro ng hng hst ks hks hgd e;subst e
   obtain⟨cs,ds,r,e1,e2,heq,hk⟩:=hev
   have h1:=Yad he x;rw[e1]at h1
   have h2:=Yad he y;rw[e2]at h2
   obtain⟨xs,ex,cx⟩:=Ybj h1
   obtain⟨ys,ey,cy⟩:=Ybj h2
   obtain⟨fs,hu⟩:=hst
   obtain⟨va,vb,p1,p2,p3⟩:=YlG (P:=P) (fm:=fm) (w:=w) (L:=L) 9 9991 t ks hks xs ys 0 cs ds r ⟨by rw[cx.1];simp,fun j c hc=>by simpa using(cx.2 j c hc).2⟩ ⟨by rw[cy.1];simp,fun j c hc=>by simpa using(cy.2 j c hc).2⟩ heq
   obtain⟨l1,l2⟩:=Ycw heq
   have hsz:YtR P t=some ks.length:=by
    unfold Yuz at hks
    simp only[hu]at hks
    split at hks
    ·cases hks
    ·split at hks
     ·split at hks
      ·injection hks with hks;subst hks;assumption
      ·cases hks
     ·cases hks
   have whole: ∀(zs:Array Value) (v:Value),zs.size=ks.length->(part t zs 0).run P w= .ok v w->v= .agg zs:=by
    intro zs v hz hp
    have hg:aggT P t=some true:=by simp[aggT,hu]
    simp only[part,Sem.run_bind,Ybx hg,Result.andThen_ok,if_true,YaH hsz,Sem.run_pure]at hp
    injection hp with hp
    rw[<-hp,Yxx,<-hz]
    simp
   have w1:=whole xs va (by rw[cx.1,l1]) p1
   have w2:=whole ys vb (by rw[cy.1,l2]) p2
   subst w1;subst w2
   refine .pure hr ?_ hk (.v _)
   rcases hng with⟨rfl,rfl⟩| ⟨rfl,rfl⟩<;>simp[execOp,ex,ey,run_eqGuard_agg w _ t x y xs ys hgd,run_eql_struct,run_neq_struct,p3]
  cases op'<;>simp only at htr
  case eql=>
   cases hu:P.underlying t with
   |none=>simp[hu]at htr
   |some d=>
    rw[hu]at htr
    cases d<;>simp only at htr<;>try(cases htr;done)
    case slice e=>
     split at htr
     ·injection htr with htr;subst htr
      obtain⟨r,hr',hk⟩:=hev
      have hx:=Yad he x
      have fin: ∀A l c,a.eval x= .slice A l c->r= .v (.bool (bif false then !A.isNone else A.isNone))->Shown P fm {dst,op:=.binOp .eql t x (.const (.slice none 0 0)) yt,type:=ty,pos,after,guard} a w L h nid K:=by
       intro A l c ex er;subst er
       refine .pure hr ?_ hk (.v _)
       simp[execOp,eqGuard,show a.eval (.const (.slice none 0 0))= .slice none 0 0 from rfl,ex,run_eql_slice_nil w t e A l c hu]
      revert hr' hx
      simp only[YwS,YwX]
      cases hp:opd env (YtP fm x)<;>intro hr' hx<;>try(simp[pvF]at hr';done)
      case v y=>
       have ex:=Yae hx
       cases y<;>simp only[pvF]at hr'<;>try(cases hr';done)
       injection hr' with hr'
       exact fin _ _ _ ex hr'.symm
      case rd es l=>
       cases l with
       |nil=>simp[pvF]at hr'
       |cons e0 l0=>
        simp only[pvF]at hr';injection hr' with hr'
        rcases YbA hx with⟨h0,_⟩| ⟨b,o,c,vals,ex,_⟩
        ·cases h0
        ·exact fin _ _ _ ex hr'.symm
     ·cases htr
    case pointer e=>
     split at htr
     ·injection htr with htr;subst htr
      obtain⟨r,hr',hk⟩:=hev
      have hx:=Yad he x
      have hpt:P.underlying t=some (.pointer (P.pointee t)):=by rw[hu];simp[Program.pointee,hu]
      have fin: ∀p,a.eval x= .pointer p->r= .v (.bool (bif false then !p.isNone else p.isNone))->Shown P fm {dst,op:=.binOp .eql t x (.const (.pointer none)) yt,type:=ty,pos,after,guard} a w L h nid K:=by
       intro p ex er;subst er
       refine .pure hr ?_ hk (.v _)
       simp[execOp,eqGuard,show a.eval (.const (.pointer none))= .pointer none from rfl,ex,run_eql_pointer_nil w t p hpt]
      revert hr' hx
      simp only[YwS,YwX]
      cases hp:opd env (YtP fm x)<;>intro hr' hx<;>try(simp[pvF]at hr';done)
      case v y=>
       have ex:=Yae hx
       cases y<;>simp only[pvF]at hr'<;>try(cases hr';done)
       injection hr' with hr'
       exact fin _ ex hr'.symm
      case ptr b i j=>
       simp only[pvF]at hr';injection hr' with hr'
       generalize hv:a.eval x=v at hx
       cases hx with
       |ptrAt g es cap _ _ _ h=>exact fin _ hv (by rw[<-hr'];rfl)
       |ptrDead ad _ _ _ h=>exact fin _ hv (by rw[<-hr'];rfl)
     ·cases htr
    case interface ms=>
     split at htr
     ·injection htr with htr;subst htr
      obtain⟨r,hr',hk⟩:=hev
      have hx:=Yad he x
      revert hr' hx
      simp only[YwS,YwX]
      cases hp:opd env (YtP fm x)<;>intro hr' hx<;>try(simp[pvF]at hr';done)
      case v y=>
       have ex:=Yae hx
       cases y<;>simp only[pvF]at hr'<;>try(cases hr';done)
       injection hr' with hr';subst hr'
       refine .pure hr ?_ hk (.v _)
       simp[execOp,eqGuard,show a.eval (.const .nilIface)= .nilIface from rfl,ex,Ymr w t ms hu]
      case er=>
       simp only[pvF]at hr';injection hr' with hr';subst hr'
       generalize hv:a.eval x=v at hx
       cases hx with
       |er te p=>
        refine .pure hr ?_ hk (.v _)
        simp[execOp,eqGuard,show a.eval (.const .nilIface)= .nilIface from rfl,hv,Ymt w t te p ms hu]
     ·cases htr
    case bool=>injection htr with htr;exact beq false (.inl ⟨rfl,rfl⟩) hu htr.symm
    case int=>injection htr with htr;exact plain htr.symm
    case string=>injection htr with htr;exact plain htr.symm
    case struct fs=>
     split at htr
     ·cases htr
     ·rename_i hgd
      cases hl:Yuz P 9 t with
      |none=>simp[hl]at htr
      |some ks=>simp[hl]at htr;exact beqa false (.inl ⟨rfl,rfl⟩) ⟨fs,hu⟩ ks hl (by simpa using hgd) htr.symm
  case neq=>
   cases hu:P.underlying t with
   |none=>simp[hu]at htr
   |some d=>
    rw[hu]at htr
    cases d<;>simp only at htr<;>try(cases htr;done)
    case slice e=>
     split at htr
     ·injection htr with htr;subst htr
      obtain⟨r,hr',hk⟩:=hev
      have hx:=Yad he x
      have fin: ∀A l c,a.eval x= .slice A l c->r= .v (.bool (bif true then !A.isNone else A.isNone))->Shown P fm {dst,op:=.binOp .neq t x (.const (.slice none 0 0)) yt,type:=ty,pos,after,guard} a w L h nid K:=by
       intro A l c ex er;subst er
       refine .pure hr ?_ hk (.v _)
       simp[execOp,eqGuard,show a.eval (.const (.slice none 0 0))= .slice none 0 0 from rfl,ex,run_neq_slice_nil w t e A l c hu]
      revert hr' hx
      simp only[YwS,YwX]
      cases hp:opd env (YtP fm x)<;>intro hr' hx<;>try(simp[pvF]at hr';done)
      case v y=>
       have ex:=Yae hx
       cases y<;>simp only[pvF]at hr'<;>try(cases hr';done)
       injection hr' with hr'
       exact fin _ _ _ ex hr'.symm
      case rd es l=>
       cases l with
       |nil=>simp[pvF]at hr'
       |cons e0 l0=>
        simp only[pvF]at hr';injection hr' with hr'
        rcases YbA hx with⟨h0,_⟩| ⟨b,o,c,vals,ex,_⟩
        ·cases h0
        ·exact fin _ _ _ ex hr'.symm
     ·cases htr
    case pointer e=>
     split at htr
     ·injection htr with htr;subst htr
      obtain⟨r,hr',hk⟩:=hev
      have hx:=Yad he x
      have hpt:P.underlying t=some (.pointer (P.pointee t)):=by rw[hu];simp[Program.pointee,hu]
      have fin: ∀p,a.eval x= .pointer p->r= .v (.bool (bif true then !p.isNone else p.isNone))->Shown P fm {dst,op:=.binOp .neq t x (.const (.pointer none)) yt,type:=ty,pos,after,guard} a w L h nid K:=by
       intro p ex er;subst er
       refine .pure hr ?_ hk (.v _)
       simp[execOp,eqGuard,show a.eval (.const (.pointer none))= .pointer none from rfl,ex,run_neq_pointer_nil w t p hpt]
      revert hr' hx
      simp only[YwS,YwX]
      cases hp:opd env (YtP fm x)<;>intro hr' hx<;>try(simp[pvF]at hr';done)
      case v y=>
       have ex:=Yae hx
       cases y<;>simp only[pvF]at hr'<;>try(cases hr';done)
       injection hr' with hr'
       exact fin _ ex hr'.symm
      case ptr b i j=>
       simp only[pvF]at hr';injection hr' with hr'
       generalize hv:a.eval x=v at hx
       cases hx with
       |ptrAt g es cap _ _ _ h=>exact fin _ hv (by rw[<-hr'];rfl)
       |ptrDead ad _ _ _ h=>exact fin _ hv (by rw[<-hr'];rfl)
     ·cases htr
    case interface ms=>
     split at htr
     ·injection htr with htr;subst htr
      obtain⟨r,hr',hk⟩:=hev
      have hx:=Yad he x
      revert hr' hx
      simp only[YwS,YwX]
      cases hp:opd env (YtP fm x)<;>intro hr' hx<;>try(simp[pvF]at hr';done)
      case v y=>
       have ex:=Yae hx
       cases y<;>simp only[pvF]at hr'<;>try(cases hr';done)
       injection hr' with hr';subst hr'
       refine .pure hr ?_ hk (.v _)
       simp[execOp,eqGuard,show a.eval (.const .nilIface)= .nilIface from rfl,ex,Yms w t ms hu]
      case er=>
       simp only[pvF]at hr';injection hr' with hr';subst hr'
       generalize hv:a.eval x=v at hx
       cases hx with
       |er te p=>
        refine .pure hr ?_ hk (.v _)
        simp[execOp,eqGuard,show a.eval (.const .nilIface)= .nilIface from rfl,hv,Ymu w t te p ms hu]
     ·cases htr
    case bool=>injection htr with htr;exact beq true (.inr ⟨rfl,rfl⟩) hu htr.symm
    case int=>injection htr with htr;exact plain htr.symm
    case string=>injection htr with htr;exact plain htr.symm
    case struct fs=>
     split at htr
     ·cases htr
     ·rename_i hgd
      cases hl:Yuz P 9 t with
      |none=>simp[hl]at htr
      |some ks=>simp[hl]at htr;exact beqa true (.inr ⟨rfl,rfl⟩) ⟨fs,hu⟩ ks hl (by simpa using hgd) htr.symm
  all_goals(injection htr with htr;exact plain htr.symm)
 case unOp op' t x=>
  cases op'<;>simp only at htr<;>try(cases htr;done)
  case not=>
   injection htr with htr;subst htr
   obtain⟨b,e,hk⟩:=hev
   exact .pure hr (by simp[execOp,hval x _ e,Op.unary]) hk (.v _)
  case neg=>
   injection htr with htr;subst htr
   obtain⟨k,n,e,hk⟩:=hev
   exact .pure hr (by simp[execOp,hval x _ e,Op.unary,Op.intArith]) hk (.v _)
 case convert s d x=>
  cases hs:P.underlying s with
  |none=>simp[hs]at htr
  |some ds=>
   cases hd:P.underlying d with
   |none=>cases ds<;>simp[hs,hd]at htr
   |some dd=>
    cases ds<;>cases dd<;>simp only[hs,hd]at htr<;>try(cases htr;done)
    case string.slice e=>
     cases he':P.underlying e with
     |none=>rw[he']at htr;cases htr
     |some de=>
      rw[he']at htr
      cases de<;>(try simp only at htr)<;>try(cases htr;done)
      rename_i k
      cases k<;>(try simp only at htr)<;>try(cases htr;done)
      injection htr with htr;subst htr
      obtain⟨r,hpv,hk⟩:=hev
      simp only[YwS,YwX]at hpv
      cases hp:opd env (YtP fm x)with
      |v y=>
       rw[hp]at hpv
       cases y with
       |string str=>
        simp only[pvF]at hpv
        injection hpv with hpv;subst hpv
        obtain⟨y,w',k1,k2,k3,k4⟩:=YlX (P:=P) (w:=w) (L:=L) hs hd he' hr str
        exact⟨y,_,[],w',.inl (by simp[execOp,hval x _ hp,k1]),hk,L,k2,LStep.refl _ _,k3,k4⟩
       |_=>simp[pvF]at hpv
      |_=>rw[hp]at hpv;simp[pvF]at hpv
    case slice.string e=>
     cases he':P.underlying e with
     |none=>rw[he']at htr;cases htr
     |some de=>
      rw[he']at htr
      cases de<;>(try simp only at htr)<;>try(cases htr;done)
      rename_i k
      cases k<;>(try simp only at htr)<;>try(cases htr;done)
      injection htr with htr;subst htr
      obtain⟨v,us,hx,hk⟩:=hev
      have hvx:=Yad he x
      have fin: ∀(l:List (List AV)) (b:List UInt8),VR fm w L (a.eval x) (.rd 1 l)->Yui l=some b->v= .v (.string ⟨b.toArray⟩)->us=[]->Shown P fm {dst,op:=.convert s d x,type:=ty,pos,after,guard} a w L h nid K:=by
       intro l b h1 h2 h3 h4
       subst h3;subst h4
       exact .pure hr (by simp[execOp,YgL (P:=P) hs he' hd h1 h2]) hk (.v _)
      simp only[YwS,YwX]at hx
      revert hx hvx
      cases hp:opd env (YtP fm x)<;>intro hvx hx<;>(try simp only[xF]at hx)<;>try(cases hx;done)
      case emp=>
       injection hx with hx;injection hx with e1 e2
       obtain⟨A,ex⟩:=YaK hvx
       exact fin [] [] (by rw[ex];exact .rd0 _ _ _) rfl e1.symm e2.symm
      case rd es l=>
       obtain⟨h1,hx⟩:=cond_ok' hx
       split at hx
       ·rename_i b hb
        injection hx with hx;injection hx with e1 e2
        have:=Yxt h1;subst this
        exact fin l b hvx hb e1.symm e2.symm
       ·cases hx
      case ref b off len=>
       split at hx
       ·rename_i o ho
        obtain⟨h1,hx⟩:=cond_ok' hx
        simp only[YxL,Nat.beq_eq,Nat.ble_eq]at h1
        obtain⟨⟨h1,h2⟩,h3⟩:=h1
        split at hx
        ·rename_i bs hb
         injection hx with hx;injection hx with e1 e2
         subst h2
         have hrd:=YgD hr ho h3 hvx
         rw[h1]at hrd
         subst e1;subst e2
         exact .pure hr (by simp[execOp,YgL (P:=P) hs he' hd hrd hb]) hk (.v _)
        ·cases hx
       ·cases hx
    all_goals(injection htr with htr;subst htr)
    case int.int k' k=>
     obtain⟨kk,n,e,hk⟩:=hev
     exact .pure hr (by simp[execOp,hval x _ e,convert,run_underlying hs,run_underlying hd,Conv.intToInt]) hk (.v _)
    case string.string=>
     obtain⟨sx,e,hk⟩:=hev
     exact .pure hr (by simp[execOp,hval x _ e,convert,run_underlying hs,run_underlying hd]) hk (.v _)
 case fieldAddr s x f=>
  cases hs:P.underlying s with
  |none=>simp[hs]at htr
  |some d=>
   cases d<;>simp only[hs]at htr<;>try(cases htr;done)
   case struct fs=>
    cases hf:fs[f]? with
    |none=>simp[hf]at htr
    |some fd=>
     cases hn2:YtR P fd.type with
     |none=>simp[hf,hn2]at htr
     |some n=>
      simp only[hf,hn2,YxG]at htr
      split at htr
      ·cases htr
      ·rename_i hn0
       injection htr with htr;subst htr
       simp only[evG,opK]at hev
       have hx:=Yad he x
       have run: ∀ad,a.eval x= .pointer (some ad)->(execOp a.eval {dst,op:=.fieldAddr s x f,type:=ty,pos,after,guard}).run P w= .ok (.value (.pointer (some (ad.add fd.offset)))) w:=by
        intro ad e
        simp[execOp,e,Instr.fieldAt,run_underlying hs,hf,Instr.sureAddr,fieldPlace,YaH hn2,hn0]
       revert hev hx
       cases hp:opd env (YtP fm x)<;>intro hev hx<;>try exact hev.elim
       case rp cs=>
        obtain⟨b,o,vals,e,hb,hbs,hc,h1,hrr⟩:=Ybz hx
        refine .pure hr (run _ e) hev ?_
        rw[Ya3]
        refine .rp b (o+fd.offset) _ (fun j=>vals (fd.offset+j)) hb hbs (fun j y hj=> ?_) (fun j y hj=> ?_) (fun j y hj=> ?_)
        all_goals rw[Yxh]at hj
        ·have:=hc _ y hj;rwa[<-Nat.add_assoc]at this
        ·exact h1 _ y hj
        ·exact hrr _ y hj
       case ptr b i j=>
        obtain⟨ad,e⟩:=YeN hx
        rw[e]at hx
        exact .pure hr (run _ e) hev (Ygz fd.offset hx)
 case field s x f=>
  cases hs:P.underlying s with
  |none=>simp[hs]at htr
  |some d=>
   cases d<;>simp only[hs]at htr<;>try(cases htr;done)
   case struct fs=>
    cases hf:fs[f]? with
    |none=>simp[hf]at htr
    |some fd=>
     cases hg:aggT P fd.type with
     |none=>simp[hf,hg]at htr
     |some g=>
      cases hn2:YtR P fd.type with
      |none=>simp[hf,hg,hn2]at htr
      |some n=>
       simp[hf,hg,hn2]at htr;subst htr
       obtain⟨cs,e,hle,hk⟩:=hev
       have hx:=Yad he x;rw[e]at hx
       obtain⟨xs,ex,cx⟩:=Ybj hx
       obtain⟨y,v,k1,k2,k3⟩:=YlP hg hn2 cx hle hk
       exact .pure hr (by simp[execOp,ex,Instr.field,run_underlying hs,hf,asAgg,k1]) k2 k3
 case indexAddr t x i=>
  cases hs:P.underlying t with
  |none=>simp[hs]at htr
  |some d=>
   cases d<;>simp only[hs]at htr<;>try(cases htr;done)
   case slice e=>
    cases hn2:YtR P e with
    |none=>simp[hn2]at htr
    |some sz=>
     simp[hn2]at htr;subst htr
     simp only[evG,opK]at hev
     obtain⟨k,n,ei,hev⟩:=hev
     have hi:=hval i _ ei
     have hx:=Yad he x
     have run: ∀(ad:Addr) (len c:Nat),a.eval x= .slice (some ad) len c->0<=n->n< (len:Int)->
       (execOp a.eval {dst,op:=.indexAddr t x i,type:=ty,pos,after,guard}).run P w= .ok (.value (.pointer (some (ad.add (n.toNat*sz))))) w:=by
      intro ad len c ex h0 h1
      have:0<=n/\n< (len:Int):=⟨h0,h1⟩
      simp[execOp,ex,hi,Instr.indexAt,asIntOf,run_underlying hs,YaH hn2,this]
     revert hev hx
     cases hp:opd env (YtP fm x)<;>intro hev hx<;>try exact hev.elim
     case rd es l=>
      obtain⟨hes,h0,el,hel,hk⟩:=hev
      subst hes
      have hil:=(YwP.1 hel).1
      rcases YbA hx with⟨e0,_⟩| ⟨b,o,c,vals,ex,hne,hall,hes0,hlc,hb,hbs,hc,h1,hrr⟩
      ·subst e0;simp at hel
      ·refine .pure hr (run _ _ _ ex h0 (by omega)) hk ?_
       rw[Ya3]
       exact .rp b _ el (fun j=>vals n.toNat j) hb hbs (fun j y hj=>hc _ el j y hel hj) (fun j y hj=>h1 _ el j y hel hj) (fun j y hj=>hrr _ el j y hel hj)
     case ref b off len=>
      obtain⟨o,ha,hes,hle,h0,h1,hk⟩:=hev
      subst hes
      rcases Ya4 hr ha hx with⟨g,es,cap,hL,e1,e2,ex⟩| ⟨A,_,hL,_,e1,e2,ex⟩
      ·subst e1
       refine .pure hr (run _ _ _ ex h0 h1) hk ?_
       rw[Ya3,<-YxB]
       have:=VR.ptrAt (fm:=fm) (w:=w) (L:=L) g (wd o.es) cap b (off+n.toNat) 0 hL
       simpa using this
      ·omega
   case array len e=>
    cases hn2:YtR P e with
    |none=>simp[hn2]at htr
    |some sz=>
     simp[hn2]at htr;subst htr
     simp only[evG,opK]at hev
     obtain⟨k,n,ei,h0,h1,hev⟩:=hev
     have hi:=hval i _ ei
     have hx:=Yad he x
     have run: ∀(ad:Addr),a.eval x= .pointer (some ad)->
       (execOp a.eval {dst,op:=.indexAddr t x i,type:=ty,pos,after,guard}).run P w= .ok (.value (.pointer (some (ad.add (n.toNat*sz))))) w:=by
      intro ad ex
      have:0<=n/\n< (len:Int):=⟨h0,h1⟩
      simp[execOp,ex,hi,Instr.indexAt,asIntOf,run_underlying hs,YaH hn2,this,Instr.sureAddr]
     revert hev hx
     cases hp:opd env (YtP fm x)<;>intro hev hx<;>try exact hev.elim
     case rp cs=>
      obtain⟨b,o,vals,e,hb,hbs,hc,h1,hrr⟩:=Ybz hx
      refine .pure hr (run _ e) hev ?_
      rw[Ya3]
      refine .rp b (o+n.toNat*sz) _ (fun j=>vals (n.toNat*sz+j)) hb hbs (fun j y hj=> ?_) (fun j y hj=> ?_) (fun j y hj=> ?_)
      all_goals rw[Yxh]at hj
      ·have:=hc _ y hj;rwa[<-Nat.add_assoc]at this
      ·exact h1 _ y hj
      ·exact hrr _ y hj
     case ptr b i' j=>
      obtain⟨ad,e⟩:=YeN hx
      rw[e]at hx
      exact .pure hr (run _ e) hev (Ygz _ hx)
 case index t x i=>
  cases hs:P.underlying t with
  |none=>simp[hs]at htr
  |some d=>
   cases d<;>simp only[hs]at htr<;>try(cases htr;done)
   case string=>
    injection htr with htr;subst htr
    obtain⟨s,ex,k,n,ei,h0,b,hb,hk⟩:=hev
    have h1:=hval x _ ex;have h2:=hval i _ ei
    exact .pure hr (by simp[execOp,h1,h2,Instr.index,asIntOf,run_underlying hs,h0,hb]) hk (.v _)
 case slice t x lo hi mx=>
  cases mx with
  |some m=>
   cases lo with
   |none=>simp at htr
   |some lo=>
    cases hi with
    |none=>simp at htr
    |some hi=>
     simp only at htr
     cases hs:P.underlying t with
     |none=>simp[hs]at htr
     |some d=>
      cases d<;>simp only[hs]at htr<;>try(cases htr;done)
      case slice e=>
       cases hz:YtR P e with
       |none=>simp[hz]at htr
       |some sz=>
        simp[hz]at htr;subst htr
        obtain⟨r,hr',hk⟩:=hev
        simp only[YwS,YwX,pvF]at hr'
        split at hr'
        ·rename_i hc
         have zv: ∀y,Yu3 (opd env (YtP fm y))=true-> ∃k,a.eval y= .int k 0:=by
          intro y hy
          cases hp:opd env (YtP fm y)with
          |v x=>
           rw[hp]at hy
           cases x with
           |int k n=>simp[Yu3]at hy;subst hy;exact⟨k,hval y _ hp⟩
           |_=>simp[Yu3]at hy
          |_=>rw[hp]at hy;simp[Yu3]at hy
         obtain⟨k1,e1⟩:=zv lo hc.1
         obtain⟨k2,e2⟩:=zv hi hc.2.1
         obtain⟨k3,e3⟩:=zv m hc.2.2
         have hx:=Yad he x
         have fin: ∀A l c,a.eval x= .slice A l c->r= .emp->Shown P fm {dst,op:=.slice t x (some lo) (some hi) (some m),type:=ty,pos,after,guard} a w L h nid K:=by
          intro A l c ex er;subst er
          refine .pure hr (x:=.slice A 0 0) ?_ hk (.emp A)
          simp[execOp,ex,e1,e2,e3,Instr.sliceAt,Instr.slice,run_underlying hs,Instr.sliceBounds,YbB (P:=P) (w:=w) (x:=.int k1 0) (n:=0) rfl (Int.le_refl 0) (Yxz _),YbB (P:=P) (w:=w) (x:=.int k2 0) (n:=0) rfl (Int.le_refl 0) (Yxz _),YbB (P:=P) (w:=w) (x:=.int k3 0) (n:=0) rfl (Int.le_refl 0) (Yxz _),YaH hz]
         revert hr' hx
         cases hp:opd env (YtP fm x)<;>intro hr' hx<;>try(simp at hr';done)
         case v y=>
          have ex:=Yae hx
          cases y<;>simp only at hr'<;>try(cases hr';done)
          injection hr' with hr'
          exact fin _ _ _ ex hr'.symm
         case emp=>
          injection hr' with hr'
          obtain⟨A,ex⟩:=YaK hx
          exact fin _ _ _ ex hr'.symm
         case rd es l=>
          injection hr' with hr'
          obtain⟨A,c,ex,_⟩:=Ydk hx
          exact fin _ _ _ ex hr'.symm
        ·cases hr'
  |none=>
   simp only at htr
   cases hs:P.underlying t with
   |none=>simp[hs]at htr
   |some d=>
    cases d<;>simp only[hs]at htr<;>try(cases htr;done)
    case string=>
     injection htr with htr;subst htr
     obtain⟨s,ex,hev⟩:=hev
     have h1:=hval x _ ex
     obtain⟨l,hh,k1,k2,k3,k4⟩:=Ydp (P:=P) he false (Yxs _) hev (fun l h hk=>⟨hk.1,hk.2.1⟩)
     exact .pure hr (by simp[execOp,h1,Instr.sliceAt,Instr.slice,run_underlying hs,k1]) k4 (.v _)
    case slice e=>
     cases hn2:YtR P e with
     |none=>simp[hn2]at htr
     |some sz=>
      simp[hn2]at htr;subst htr
      simp only[evG,opK]at hev
      have hx:=Yad he x
      have run: ∀(A:Option Addr) (len c l h':Nat),a.eval x= .slice A len c->(Instr.sliceBounds true len c (lo.map a.eval) (hi.map a.eval) none).run P w= .ok (l,h',c) w->
        (execOp a.eval {dst,op:=.slice t x lo hi none,type:=ty,pos,after,guard}).run P w= .ok (.value (.slice (if c=l then A else A.map (·.add (l*sz))) (h'-l) (c-l))) w:=by
       intro A len c l h' ex hb
       simp[execOp,ex,Instr.sliceAt,Instr.slice,run_underlying hs,hb,YaH hn2]
      revert hev hx
      cases hp:opd env (YtP fm x)<;>intro hev hx<;>try exact hev.elim
      case emp=>
       obtain⟨A,ex⟩:=YaK hx
       obtain⟨l,hh,k1,e1,e2,hk⟩:=Ydp (P:=P) he true (Yxs 0) hev (fun l h hk=>⟨by omega,by omega⟩)
       subst e1;subst e2
       exact .pure hr (run A 0 0 0 0 ex k1) hk (.emp _)
      case ref b off len=>
       obtain⟨A,c,ex,hlc⟩:=YgA hx
       rw[ex]at hx
       obtain⟨l,hh,k1,e1,e2,hk⟩:=Ydp (P:=P) he true hlc hev (fun l h hk=>⟨by omega,by omega⟩)
       subst e1
       refine .pure hr (run A len c 0 hh ex k1) hk ?_
       have:(if c=0 then A else A.map (·.add (0*sz)))=A:=by
        split
        ·rfl
        ·cases A with
         |none=>rfl
         |some ad=>simp[Addr.add]
       rw[this]
       exact YlS e2 hx
      case rd es l0=>
       obtain⟨A,c,ex,hlc⟩:=Ydk hx
       obtain⟨hes,hev⟩:=hev
       subst hes
       obtain⟨l,hh,k1,e1,e2,hk⟩:=Ydp (P:=P) he true hlc hev (fun l h hk=>⟨by omega,by omega⟩)
       refine .pure hr (run A _ c l hh ex k1) hk ?_
       by_cases hem:hh-l=0
       ·have:(l0.take hh).drop l=[]:=by
         apply List.eq_nil_of_length_eq_zero
         simp;omega
        rw[this,hem]
        exact .rd0 _ es _
       ·rcases YbA hx with⟨e0,_⟩| ⟨b,o,c',vals,ex',hne,hall,hes0,hlc',hb,hbs,hc,h1,hrr⟩
        ·subst e0;simp at e2;omega
        ·rw[ex]at ex'
         injection ex' with e3 e4 e5
         subst e3;subst e5
         have hcl: ¬c=l:=by omega
         simp only[hcl,if_false,YxF,Ya3]
         have hrows: ∀i e,((l0.take hh).drop l)[i]?=some e->l0[l+i]?=some e:=fun i e hi=>Ymv hi
         have hlen:((l0.take hh).drop l).length=hh-l:=by simp;omega
         have:=VR.rd (fm:=fm) (w:=w) (L:=L) b (o+l*es) (c-l) es ((l0.take hh).drop l) (fun i j=>vals (l+i) j)
          (fun e0=>hem (by rw[<-hlen,e0];rfl)) (fun e he'=>hall e (List.mem_of_mem_take (List.mem_of_mem_drop he'))) hes0 (by rw[hlen];omega) hb hbs
          (fun i e j y hi hj=>by
           have:=hc _ e j y (hrows i e hi) hj
           rw[YxB,<-Nat.add_assoc]at this
           exact this)
          (fun i e j y hi hj=>h1 _ e j y (hrows i e hi) hj)
          (fun i e j y hi hj=>hrr _ e j y (hrows i e hi) hj)
         rwa[hlen]at this
 case extract x i=>
  injection htr with htr;subst htr
  obtain⟨l,e,b,hb,hk⟩:=hev
  have hx:=Yad he x;rw[e]at hx
  obtain⟨xs,ex,hsz,hall⟩:=Ydj hx
  have hlt:i<xs.size:=by rw[hsz];exact(YwP.1 hb).1
  refine .pure hr (x:=xs.getD i undef) ?_ hk (hall i b hb)
  have:=YbS hlt
  simp only[execOp,ex,Instr.extract,this,Sem.run_bind,Sem.run_pure,Result.andThen_ok]
 case makeSlice t n c=>
  cases hs:P.underlying t with
  |none=>simp[hs]at htr
  |some d=>
   cases d<;>simp only[hs]at htr<;>try(cases htr;done)
   case slice e=>
    cases hz:Yt3 P e with
    |none=>simp[hz]at htr
    |some z=>
     simp[hz]at htr;subst htr
     obtain⟨k,n',en,k',c',ec,h0,h1,h2,hk⟩:=hev
     obtain⟨i,z0,hi,hz0,hzc,hzs,hil,hp,hm,hby,hz1⟩:=Ybi hz
     have hz0s:z0.cells.size=z.length:=by rw[hzs,hil]
     have en':=hval n _ en;have ec':=hval c _ ec
     have hbnd:(i.bytes:Int)*c'<=281474976710656:=by
      have h3:i.bytes*c'.toNat<=1024*maxEl:=Nat.mul_le_mul hby (by omega)
      have h4:((i.bytes*c'.toNat:Nat):Int)<=((1024*maxEl:Nat):Int):=Int.ofNat_le.2 h3
      rw[Int.natCast_mul,Int.toNat_of_nonneg (by omega)]at h4
      have:((1024*maxEl:Nat):Int)<=281474976710656:=by decide
      omega
     have hm':(maxEl:Int)=1073741824:=rfl
     have hrun:=run_make (P:=P) w t e i z0 hs hi hz0 k k' n' c' h0 h1 hbnd (by omega)
     have hero:=YeL (fm:=fm) (w:=w) (L:=L) z0.cells c'.toNat (by rw[hzc];exact hz1)
     rw[hzc,hz0s]at hero
     have hrep:List.replicate c'.toNat (z.map zc)=List.replicate n'.toNat (z.map zc)++List.replicate (c'.toNat-n'.toNat) (z.map zc):=by
      rw[List.replicate_append_replicate];congr 1;omega
     obtain⟨k1,k2,k3⟩:=YeF (w':=w.alloc (.cells (madeCells z0.cells (c'.toNat*i.size)) e)) (cap:=c'.toNat) (es:=z.length) (el:=List.replicate n'.toNat (z.map zc))
      (cur:=madeCells z0.cells (c'.toNat*i.size)) (ty:=e) hr hn rfl rfl rfl rfl hp (by simp;omega) (by simp only[maxLen];omega) (fun e' he'=>by rw[(List.mem_replicate.1 he').2];simp)
      (by rw[size_madeCells,hil])
      (fun i' e' j x hi' hj'=>by
       have:=hero.2.2 i' e' j x (by
        rw[hrep,YwU (YwP.1 hi').1];exact hi') hj'
       unfold madeCells
       rw[hil,hz0s]
       exact this)
     refine⟨_,_,_,_,.inl (by simp only[execOp,en',ec',Sem.run_bind,hrun,Result.andThen_ok];rfl),hk,_,k1,k2,k3,?_⟩
     have:=VR.refAt (fm:=fm) (w:=w.alloc (.cells (madeCells z0.cells (c'.toNat*i.size)) e)) (L:=fun a=>if a=nid then .cells w.heap.size z.length c'.toNat else L a)
      w.heap.size z.length c'.toNat nid 0 n'.toNat (by simp) (by omega)
     simpa using this
 case makeFunc f first caps=>
  cases f<;>simp only at htr<;>try(cases htr;done)
  case func f=>
   split at htr
   ·rename_i hem
    injection htr with htr;subst htr
    have hfe:first= #[]:=by simpa using hem
    subst hfe
    refine .pure hr (x:=.func (.func f) #[] (caps.map a.eval)) (by simp[execOp,Instr.makeFunc]) hev ?_
    refine .clo f _ _ (by simp) (fun j c hj=> ?_)
    rw[List.map_map,YwR]at hj
    cases hc:caps.toList[j]? with
    |none=>simp[hc]at hj
    |some y=>
     simp[hc]at hj
     subst hj
     have hlt:j<caps.size:=by have:=(YwP.1 hc).1;simpa using this
     have e1:(caps.map a.eval).getD j undef=a.eval y:=by
      have h2:=(YwP.1 hc).2
      simp[Array.getD,hlt]
      simp at h2
      rw[h2]
     rw[e1]
     exact Yad he y
   ·cases htr
 case call c=>
  obtain⟨callee,args,ats⟩:=c
  cases callee with
  |invoke r m=>cases htr
  |value f=>
   cases f with
   |func f=>
    simp only at htr
    split at htr
    ·injection htr with htr;subst htr;exact hev.elim
    ·split at htr<;>try(cases htr;done)
     rename_i fn hfn
     split at htr<;>try(cases htr;done)
     rename_i hbo
     simp only[YxP,Bool.not_eq_true',not_or,Bool.not_eq_true,Bool.not_eq_false,beq_iff_eq]at hbo
     have ext: ∀(k:POp) (g:Array Value->Sem Value),(∀(xs:List AV) (vs:List Value) (r:AV),pvF k xs=some r->vs.length=xs.length->(∀(j:Nat) (c:AV) (y:Value),xs[j]?=some c->vs[j]?=some y->VR fm w L y c)-> ∃y,(g vs.toArray).run P w= .ok y w/\VR fm w L y r)->
       Extern.findNext fn=none->Extern.find fn=some g->(fn.name== "runtime.NumGoroutine")=false->op= .pv k (args.toList.map (YtP fm))->Shown P fm {dst,op:=.call ⟨.value (.func f),args,ats⟩,type:=ty,pos,after,guard} a w L h nid K:=by
      intro k g hg h1 h2 h3 hop
      subst hop
      obtain⟨r,hr',hk⟩:=hev
      obtain⟨y,hy1,hy2⟩:=hg _ (args.toList.map a.eval) r hr' (by simp) (fun j c y hj hy=>by
       simp only[List.map_map,YwR,YxE,Function.comp]at hj hy
       obtain⟨u,h1,rfl⟩:=hj
       obtain⟨u',h2,rfl⟩:=hy
       rw[h1]at h2;injection h2 with h2;subst h2
       exact Yad he u)
      refine .pure hr ?_ hk hy2
      have hb:fn.body.isNone=true:=by cases hfb:fn.body with|none=>rfl|some c=>rw[hfb]at hbo;simp at hbo
      have e3:(args.map a.eval)=(args.toList.map a.eval).toArray:=by apply Array.ext';simp
      have hc:=run_callFunc_extern hfn h3 hb h1 h2 (args.toList.map a.eval).toArray w
      rw[hy1]at hc
      unfold execOp
      simp only[resolve,Deferred.ofValue,Act.eval,invoke,Sem.run_bind,Sem.run_pure,Result.andThen]
      simp[e3,hc,Result.andThen]
     split at htr
     ·rename_i hname
      injection htr with htr
      refine ext .add64 _ Yl1 (YgO (n:= "math/bits.Add64") hname hbo.2 (by kernel_rfl)) (YgP (n:= "math/bits.Add64") hname (by kernel_rfl) (by kernel_rfl) (by kernel_rfl)) (by rw[hname];rfl) htr.symm
     ·split at htr<;>try(cases htr;done)
      rename_i hname
      injection htr with htr
      refine ext .sub64 _ Yl2 (YgO (n:= "math/bits.Sub64") hname hbo.2 (by kernel_rfl)) (YgP (n:= "math/bits.Sub64") hname (by kernel_rfl) (by kernel_rfl) (by kernel_rfl)) (by rw[hname];rfl) htr.symm
   |tmp t=>injection htr with htr;subst htr;exact hev.elim
   |_=>cases htr
  |builtin b=>
   have mm: ∀mx,(b=bif mx then .max else .min)->(if args.size=0 then none else some (AOp.pv (.mm mx) (args.toList.map (YtP fm))))=some op->Shown P fm {dst,op:=.call ⟨.builtin b,args,ats⟩,type:=ty,pos,after,guard} a w L h nid K:=by
    intro mx hb htr
    split at htr
    ·cases htr
    ·rename_i h0
     injection htr with htr;subst htr
     obtain⟨r,hr',hk⟩:=hev
     have hall: ∀(j:Nat) (c:AV) (y:Value),(args.toList.map fun x=>opd env (YtP fm x))[j]?=some c->(args.toList.map a.eval)[j]?=some y->VR fm w L y c:=by
      intro j c y h1 h2
      simp only[YwR,YxE]at h1 h2
      obtain⟨u,h1,rfl⟩:=h1
      obtain⟨u',h2,rfl⟩:=h2
      rw[h1]at h2;injection h2 with h2;subst h2
      exact Yad he u
     rw[List.map_map]at hr'
     cases hal:args.toList with
     |nil=>exact absurd (by simpa using congrArg List.length hal) h0
     |cons x0 xr=>
      rw[hal]at hr' hall
      simp only[YwS,Function.comp_def]at hr' hall
      have hx0:=Yad he x0
      revert hr' hx0
      cases hp:opd env (YtP fm x0)<;>intro hr' hx0<;>try(simp[pvF]at hr';done)
      case v y=>
       cases y with
       |int k m=>
        have ex:=Yae hx0
        simp only[pvF]at hr'
        obtain⟨n,e1,e2⟩:=Yg1 (P:=P) (fm:=fm) (w:=w) (L:=L) hr' (vs:=xr.map a.eval) (by simp) (fun j c y h1 h2=>hall (j+1) c y (by simpa using h1) (by simpa using h2))
        subst e1
        refine .pure hr ?_ hk (.v _)
        have e3:(args.map a.eval).toList= .int k m::xr.map a.eval:=by simp[hal,ex]
        cases mx
        ·simp only[cond_false]at hb e2;subst hb
         have hm:(Builtin.min_ ats ty (args.map a.eval)).run P w= .ok (.int k n) w:=by
          unfold Builtin.min_;rw[e3];exact e2
         simp[execOp,resolve,invoke,builtin,hm]
        ·simp only[cond_true]at hb e2;subst hb
         have hm:(Builtin.max_ ats ty (args.map a.eval)).run P w= .ok (.int k n) w:=by
          unfold Builtin.max_;rw[e3];exact e2
         simp[execOp,resolve,invoke,builtin,hm]
       |_=>simp[pvF]at hr'
   cases b<;>simp only at htr<;>try(cases htr;done)
   case len=>
    have hats: ∀d,(ats[0]?).bind P.underlying=some d-> ∃t,ats[0]?=some t/\P.underlying t=some d:=by
     intro d h
     cases h0:ats[0]? with
     |none=>simp[h0]at h
     |some t=>exact⟨t,rfl,by simpa[h0]using h⟩
    split at htr
    ·rename_i x hat hargs
     injection htr with htr;subst htr
     have hargs':args= #[x]:=by rw[<-YxU (xs:=args),hargs]
     subst hargs'
     obtain⟨t,h0,hu⟩:=hats _ hat
     obtain⟨s,ex,hk⟩:=hev
     refine .pure hr ?_ hk (.v _)
     simp[execOp,resolve,invoke,builtin,Builtin.len_,h0,run_underlying hu,hval x _ ex,goInt]
    ·rename_i e x hat hargs
     injection htr with htr;subst htr
     have hargs':args= #[x]:=by rw[<-YxU (xs:=args),hargs]
     subst hargs'
     obtain⟨t,h0,hu⟩:=hats _ hat
     have run: ∀A n c,a.eval x= .slice A n c->(execOp a.eval {dst,op:=.call ⟨.builtin .len, #[x],ats⟩,type:=ty,pos,after,guard}).run P w= .ok (.value (.int .i64 (n:Nat))) w:=by
      intro A n c ex
      simp[execOp,resolve,invoke,builtin,Builtin.len_,h0,run_underlying hu,ex,goInt]
     simp only[evG,opK]at hev
     have hx:=Yad he x
     revert hev hx
     cases hp:opd env (YtP fm x)<;>intro hev hx<;>try exact hev.elim
     case emp=>
      obtain⟨A,ex⟩:=YaK hx
      exact .pure hr (run _ _ _ ex) hev (.v _)
     case rd es l=>
      obtain⟨A,c,ex,_⟩:=Ydk hx
      exact .pure hr (run _ _ _ ex) hev (.v _)
     case ref b off len=>
      obtain⟨A,c,ex,_⟩:=YgA hx
      exact .pure hr (run _ _ _ ex) hev (.v _)
    ·rename_i kt e m hat hargs
     injection htr with htr;subst htr
     have hargs':args= #[m]:=by rw[<-YxU (xs:=args),hargs]
     subst hargs'
     obtain⟨t,h0,hu⟩:=hats _ hat
     refine Ya5 hev (fun v us hx=> ?_)
     obtain⟨b,o,c,el,tags,hxs,ho,hm,rfl,rfl⟩:=Ymk hx
     simp only[YwS,YwX]at hxs
     injection hxs with e1 _
     have hmv:=Yad he m;rw[e1]at hmv
     obtain⟨g,es,nc,ex,_,hL,hg,hmr,_⟩:=YbU hr ho hm hmv
     refine⟨.int .i64 (es.size:Nat),w,.inl ?_,OpPost.same hr (by rw[hmr.len];exact .v _)⟩
     simp[execOp,resolve,invoke,builtin,Builtin.len_,h0,run_underlying hu,ex,goInt,MapKept.run_getObj_map hg]
    ·cases htr
   case min=>exact mm false (by simp) htr
   case max=>exact mm true (by simp) htr
   case append=>
    split at htr
    ·rename_i t t' s x hat hargs
     split at htr
     ·rename_i htt
      subst htt
      cases hu:P.underlying t with
      |none=>simp[hu]at htr
      |some d=>
       cases d<;>simp only[hu]at htr<;>try(cases htr;done)
       case slice e=>
        cases hz:Yt3 P e with
        |none=>simp[hz]at htr
        |some z=>
         simp only[hz,YxG]at htr
         have hargs':args= #[s,x]:=by rw[<-YxU (xs:=args),hargs]
         have hats':ats= #[t,t]:=by rw[<-YxU (xs:=ats),hat]
         subst hargs';subst hats'
         have run: ∀y w',(Builtin.append_ #[t,t] ty #[a.eval s,a.eval x]).run P w= .ok y w'->
           (execOp a.eval {dst,op:=.call ⟨.builtin .append, #[s,x], #[t,t]⟩,type:=ty,pos,after,guard}).run P w= .ok (.value y) w':=by
          intro y w' h
          simp[execOp,resolve,invoke,builtin,h]
         have hx:=Yad he x
         have hs:=Yad he s
         split at htr
         ·rename_i hbu
          split at htr
          ·rename_i hz1
           have hz1':z.length=1:=hz1
           injection htr with htr
           split at htr
           ·subst htr
            obtain⟨v,us,hxf,hk⟩:=hev
            simp only[YwS,YwX,xF]at hxf
            split at hxf
            ·rename_i l hl
             obtain⟨hes,hxf⟩:=cond_ok' hxf
             split at hxf
             ·rename_i o us0 hap
              injection hxf with hxf;injection hxf with e1 e2;subst e1;subst e2
              rw[<-hz1']at hes hap hk
              obtain⟨y,w',k1,k2⟩:=YgI (os:=0) (ty:=ty) (by rw[hz1'];rfl) (fun _=>hbu) hu hz hr hn hs hx hl hes hap
              exact⟨y,_,_,w',.inl (run y w' k1),hk,k2⟩
             ·cases hxf
            ·cases hxf
           ·subst htr
            obtain⟨v,us,hxf,hk⟩:=hev
            simp only[YwS,YwX,xF]at hxf
            split at hxf
            ·rename_i l hl
             obtain⟨hes,hxf⟩:=cond_ok' hxf
             split at hxf
             ·rename_i o us0 hap
              injection hxf with hxf;injection hxf with e1 e2;subst e1;subst e2
              rw[<-hz1']at hes hap
              obtain⟨y,w',k1,_,k2⟩:=YgH (os:=0) (ty:=ty) (by rw[hz1'];rfl) (fun _=>hbu) hu hz hr hn hs hx hl hes hap
              exact⟨y,_,_,w',.inl (run y w' k1),hk,k2⟩
             ·cases hxf
            ·cases hxf
          ·cases htr
         injection htr with htr
         split at htr
         ·subst htr
          obtain⟨v,us,hxf,hk⟩:=hev
          simp only[YwS,YwX,xF]at hxf
          split at hxf
          ·rename_i l hl
           obtain⟨hes,hxf⟩:=cond_ok' hxf
           split at hxf
           ·rename_i o us0 hap
            injection hxf with hxf;injection hxf with e1 e2;subst e1;subst e2
            simp only[YxL]at hes
            obtain⟨y,w',k1,k2⟩:=YgI (ty:=ty) (Yay (YxC hes.2)) (fun h=>absurd (YxC hes.2) (by omega)) hu hz hr hn hs hx hl hes.1 hap
            exact⟨y,_,_,w',.inl (run y w' k1),hk,k2⟩
           ·cases hxf
          ·cases hxf
         subst htr
         simp only[evG,opK]at hev
         revert hev hx
         cases hp:opd env (YtP fm x)<;>intro hx hev<;>try exact hev.elim
         case emp=>
          obtain⟨A,ex⟩:=YaK hx
          rw[ex]at run
          obtain⟨y,v,us,w',k1,k2,k3⟩:=Ygw (P:=P) (ty:=ty) hu hz hr hn hs (VR.rd0 A z.length 0) hev
          exact⟨y,v,us,w',.inl (run y w' k1),k2,k3⟩
         case rd es l=>
          obtain⟨hes,hev⟩:=hev
          subst hes
          obtain⟨y,v,us,w',k1,k2,k3⟩:=Ygw (P:=P) (ty:=ty) hu hz hr hn hs hx hev
          exact⟨y,v,us,w',.inl (run y w' k1),k2,k3⟩
     ·split at htr
      ·rename_i e hu hu2
       split at htr
       ·rename_i zn hz
        split at htr
        case isFalse=>cases htr
        rename_i hbu
        injection htr with htr;subst htr
        have hargs':args= #[s,x]:=by rw[<-YxU (xs:=args),hargs]
        have hats':ats= #[t,t']:=by rw[<-YxU (xs:=ats),hat]
        subst hargs';subst hats'
        have run: ∀y w',(Builtin.append_ #[t,t'] ty #[a.eval s,a.eval x]).run P w= .ok y w'->
          (execOp a.eval {dst,op:=.call ⟨.builtin .append, #[s,x], #[t,t']⟩,type:=ty,pos,after,guard}).run P w= .ok (.value y) w':=by
         intro y w' h
         simp[execOp,resolve,invoke,builtin,h]
        obtain⟨v,us,hxf,hk⟩:=hev
        simp only[YwS,YwX]at hxf
        cases hp:opd env (YtP fm x)with
        |v y=>
         rw[hp]at hxf
         cases y with
         |string str=>
          have ex:=hval x _ hp
          simp only[xF]at hxf
          split at hxf
          ·rename_i o us0 hap
           injection hxf with hxf;injection hxf with e1 e2;subst e1;subst e2
           obtain⟨y,w',k1,k2⟩:=YlW (ty:=ty) hu hu2 hz rfl hbu hr hn (Yad he s) hap
           rw[<-ex]at k1
           exact⟨y,_,_,w',.inl (run y w' k1),hk,k2⟩
          ·cases hxf
         |_=>simp[xF]at hxf
        |_=>rw[hp]at hxf;simp[xF]at hxf
       ·cases htr
      ·cases htr
    ·cases htr
   case delete=>
    split at htr<;>try(cases htr;done)
    rename_i q m k hq hargs
    cases hsz:YtR P q.2.2 with
    |none=>rw[hsz]at htr;cases htr
    |some n=>
    rw[hsz]at htr
    injection htr with htr;subst htr
    have hargs':args= #[m,k]:=by rw[<-YxU (xs:=args),hargs]
    subst hargs'
    obtain⟨t,h0,hq⟩: ∃t,ats[0]?=some t/\mapT P t=some q:=by
     cases h0:ats[0]? with
     |none=>simp[h0]at hq
     |some t=>exact⟨t,rfl,by simpa[h0]using hq⟩
    refine Ya5 hev (fun v us hx=> ?_)
    obtain⟨b,kv,o,c,el,tags,hxs,ho,hm,hk,rfl,hcase⟩:=Ymj hx
    simp only[YwS,YwX]at hxs
    injection hxs with e1 e2;injection e2 with e2 _
    have hmv:=Yad he m;rw[e1]at hmv
    have hkv:=hval k _ e2
    obtain⟨r1,r2⟩:=Yma (ty:=ty) hr hq (n+2) ho hm hmv hk h0
    have run: ∀w',(Builtin.delete_ ats ty #[a.eval m,kv]).run P w= .ok (.tuple #[]) w'->YvG P {dst,op:=.call ⟨.builtin .delete, #[m,k],ats⟩,type:=ty,pos,after,guard} a w (.tuple #[]) w':=by
     intro w' h
     refine .inl ?_
     simp[execOp,resolve,invoke,builtin,hkv,h]
    rcases hcase with⟨p,r',hf,rfl⟩| ⟨hf,rfl⟩
    ·obtain⟨w',k1,k2,k3⟩:=r1 p r' hf
     exact⟨_,w',run w' k1,YcA k2 k3 nid (.u _)⟩
    ·obtain⟨w',k1,k2,k3⟩:=r2 hf
     exact⟨_,w',run w' k1,YcA k2 k3 nid (.u _)⟩
   case copy=>
    split at htr<;>try(cases htr;done)
    rename_i t t' d s hat hargs
    split at htr<;>try(cases htr;done)
    rename_i e e' hu hu'
    cases hsz:YtR P e with
    |none=>rw[hsz]at htr;cases htr
    |some n=>
     rw[hsz]at htr
     injection htr with htr;subst htr
     have hargs':args= #[d,s]:=by rw[<-YxU (xs:=args),hargs]
     have hats':ats= #[t,t']:=by rw[<-YxU (xs:=ats),hat]
     subst hargs';subst hats'
     refine Ya5 hev (fun v us hx=> ?_)
     obtain⟨b,x,o,l,hxs,ho,hl,hes,hoes,hel,h0,rfl,rfl⟩:=Ymn hx
     simp only[YwS,YwX]at hxs
     injection hxs with e1 e2;injection e2 with e2 _
     have hd:=Yad he d;rw[e1]at hd
     have hs:=Yad he s;rw[e2]at hs
     obtain⟨w',k1,k2,k3⟩:=Ymf (t':=t') (ty:=ty) hu hsz hr ho h0 hoes hd (YgG hs hl hes) hel
     exact⟨_,w',.inl (by simp[execOp,resolve,invoke,builtin,k1]),YcA k2 k3 nid (.v _)⟩
 case makeMap t r=>
  cases r with
  |some r=>cases htr
  |none=>
   cases hq:mapT P t with
   |none=>simp[hq]at htr
   |some q=>
    cases hsz:YtR P q.2.2 with
    |none=>simp[hq,hsz]at htr
    |some n=>
    simp[hq,hsz]at htr;subst htr
    refine Ya5 hev (fun v us hx=> ?_)
    obtain⟨_,hkd,rfl,rfl⟩:=Ymg hx
    exact⟨_,_,.inl (by simp[execOp,Instr.makeMap]),Yl7 hr hn hkd _⟩
 case lookup t m k ok=>
  cases hq:mapT P t with
  |none=>simp[hq]at htr
  |some q=>
   cases hz:(P.info? q.2.2).bind (·.zero)with
   |none=>simp only[hq,hz,YxG,Option.map_none]at htr;cases htr
   |some z=>
    simp only[hq,hz,YxG,YxF]at htr
    injection htr with htr;subst htr
    refine Ya5 hev (fun v us hx=> ?_)
    obtain⟨b,kv,z',o,c,el,tags,hxs,ho,hm,hes,hk,rfl,hcase⟩:=Ymh hx
    simp only[YwS,YwX]at hxs
    injection hxs with e1 e2;injection e2 with e2 e3;injection e3 with e3 _
    have hmv:=Yad he m;rw[e1]at hmv
    have hkv:=hval k _ e2
    obtain⟨r1,r2⟩:=Yl8 (ok:=ok) hr hq hz ho hm hmv hk hes
    rcases hcase with⟨p,r,y,hf,hy,rfl⟩| ⟨hf,rfl⟩
    ·obtain⟨y',k1,k2⟩:=r1 p r y hf hy
     exact⟨y',w,.inl (by simp[execOp,hkv,k1]),OpPost.same hr k2⟩
    ·obtain⟨y',k1,k2⟩:=r2 hf
     have:z'=ofV z:=e3.symm
     subst this
     exact⟨y',w,.inl (by simp[execOp,hkv,k1]),OpPost.same hr k2⟩
 case mapUpdate t m k x=>
  cases hq:mapT P t with
  |none=>simp[hq]at htr
  |some q=>
   cases hsz:YtR P q.2.2 with
   |none=>simp[hq,hsz]at htr
   |some n=>
   simp[hq,hsz]at htr;subst htr
   refine Ya5 hev (fun v us hx=> ?_)
   obtain⟨b,kv,y,o,c,el,tags,r,hxs,ho,hm,hes,hk,rfl,hcell,hcase⟩:=Ymi hx
   simp only[YwS,YwX]at hxs
   injection hxs with e1 e2;injection e2 with e2 e3;injection e3 with e3 _
   have hmv:=Yad he m;rw[e1]at hmv
   have hkv:=hval k _ e2
   have hxv:=Yad he x;rw[e3]at hxv
   obtain⟨r1,r2⟩:=Yl9 hr hq (n+2) ho hm hmv hk hes hxv hcell
   rcases hcase with⟨p,r',hf,rfl⟩| ⟨hf,rfl⟩
   ·obtain⟨w',k1,k2,k3⟩:=r1 p r' hf
    exact⟨undef,w',.inr ⟨by simp[execOp,hkv,k1],rfl⟩,YcA k2 k3 nid (.u _)⟩
   ·obtain⟨w',k1,k2,k3⟩:=r2 hf
    exact⟨undef,w',.inr ⟨by simp[execOp,hkv,k1],rfl⟩,YcA k2 k3 nid (.u _)⟩
 case range t m=>
  cases hq:mapT P t with
  |none=>simp[hq]at htr
  |some q=>
   simp[hq]at htr;subst htr
   refine Ya5 hev (fun v us hx=> ?_)
   obtain⟨b,o,c,el,tags,hxs,ho,hm,rfl,rfl⟩:=Yml hx
   simp only[YwS,YwX]at hxs
   injection hxs with e1 _
   have hmv:=Yad he m;rw[e1]at hmv
   obtain⟨y,w',k1,k2⟩:=Ymb hr hn hq ho hm hmv
   exact⟨y,w',.inl (by simp[execOp,k1]),k2⟩
 case next i st=>
  cases st with
  |true=>cases htr
  |false=>
   injection htr with htr;subst htr
   exact Ya5 hev (fun v us hx=>(Ymo hx).elim)
 case entry i=>
  injection htr with htr;subst htr
  refine Ya5 hev (fun v us hx=> ?_)
  obtain⟨it,oi,m,s,t,bl,o,n,c,el,tags,b,k,r,y,hxs,hi,hio,ho,hn',hm,htc,hf,hy,rfl,rfl⟩:=Ymm hx
  simp only[YwS,YwX]at hxs
  injection hxs with e1 _
  have hiv:=Yad he i;rw[e1]at hiv
  obtain⟨y',k1,k2⟩:=Ymc (P:=P) hr hi hio hiv ho hn' hm htc hf hy
  exact⟨y',w,.inl (by simp[execOp,k1]),OpPost.same hr k2⟩
 all_goals(cases htr)
end
end Go.Abs
namespace Go.Abs
open Go Go.RowKit
def FOK(P:Program)(fm:FM)(f:FuncId)(c:Yt0):Prop:=
 ∀args H r H',c args H r H'->YtL P f=true/\ ∀(w:World) (L:Nat->Loc) (vs:Array Value),HR fm w L (hf H)->vs.size=args.length->
  (∀j a,args[j]?=some a->VR fm w L (vs.getD j undef) a)->
  Calls P f vs w fun e w'=> ∃v L',e= .returned v/\Keep L w w'/\LStep L L' w.heap.size/\HR fm w' L' (hf H')/\VR fm w' L' v r
structure CtxOK(P:Program)(fm:FM)(C:Ctx):Prop where
 ok: ∀f,FOK P fm f (C.C (fm f))
 nr: ∀f args H r H',C.pf f=true->C.C f args H r H'->(∀a∈args,NR a)/\NR r/\H'=H
 any: ∀f args r n,C.pf f=true->C.C f args [] r []->C.C f args (List.replicate n none) r (List.replicate n none)
section
variable{P:Program}{fm:FM}{w:World}{L:Nat->Loc}
theorem YcB{L1:Nat->Loc}(hmv: ∀b,b<w.heap.size-> ¬YtW L b-> ¬YtW L1 b){x:Value}{a:AV}(h:VR fm w L x a):NR a->VR fm w L1 x a:=by
 induction h with
 |v x=>intro _;exact .v x
 |u x=>intro _;exact .u x
 |emp A=>intro _;exact .emp A
 |rd0 A es c=>intro _;exact .rd0 A es c
 |rd b o c es l vals hne hes hes0 hlc hb hbs hc h1 hr ih=>
  intro hn
  cases hn with
  |rd es l hn=>exact .rd b o c es l vals hne hes hes0 hlc (hmv b hbs hb) hbs hc h1 (fun i e j x hi hj=>ih i e j x hi hj (hn e (YwQ hi) x (YwQ hj)))
 |rp b o cs vals hb hbs hc h1 hr ih=>
  intro hn
  cases hn with
  |rp cs hn=>exact .rp b o cs vals (hmv b hbs hb) hbs hc h1 (fun j x hj=>ih j x hj (hn x (YwQ hj)))
 |refAt g es cap a off len h hl=>intro hn;cases hn
 |refNil A a b h hA=>intro hn;cases hn
 |refDead A c a off len h hl=>intro hn;cases hn
 |ptrAt g es cap a i j h=>intro hn;cases hn
 |ptrDead ad a i j h=>intro hn;cases hn
 |npAt g a v h ht hv=>intro hn;cases hn
 |npDead p a h=>intro hn;cases hn
 |mpAt g a h=>intro hn;cases hn
 |itAt g a h=>intro hn;cases hn
 |mpDead p a h=>intro hn;cases hn
 |agg xs cs hs h1 h ih=>
  intro hn
  cases hn with
  |agg cs hn=>exact .agg xs cs hs h1 (fun j a ha=>ih j a ha (hn a (YwQ ha)))
 |tup xs cs hs h ih=>
  intro hn
  cases hn with
  |tup cs hn=>exact .tup xs cs hs (fun j a ha=>ih j a ha (hn a (YwQ ha)))
 |clo f xs cs hs h ih=>
  intro hn
  cases hn with
  |clo f' cs hn=>exact .clo f xs cs hs (fun j a ha=>ih j a ha (hn a (YwQ ha)))
 |er t p=>intro _;exact .er t p
theorem Ymw{L1:Nat->Loc}{w1:World}{x:Value}{a:AV}(h:VR fm w L x a)(hs:Scal a):VR fm w1 L1 x a:=by
 cases hs with
 |v y=>rw[Yae h];exact .v y
 |tup l hl=>
  obtain⟨xs,rfl,hsz,hall⟩:=Ydj h
  refine .tup xs l hsz (fun j c hc=> ?_)
  obtain⟨y,rfl⟩:=hl c (YwQ hc)
  rw[Yae (hall j _ hc)];exact .v y
noncomputable def hide(L:Nat->Loc)(n:Nat)(Bw:Nat->Prop):Nat->Loc:=fun k=>
 open Classical in if k<n then(if YtW L k/\ ¬Bw k then .hid k else .dead)else .fresh
theorem YaQ{n:Nat}{Bw:Nat->Prop}{b:Nat}: ¬OwnC (hide L n Bw) b:=by
 rintro(⟨a,e,c,h⟩| ⟨a,i,h⟩)
 ·unfold hide at h
  grind
 ·unfold hide at h
  grind
theorem Ydr{n:Nat}{Bw:Nat->Prop}{b:Nat}(h:YtW (hide L n Bw) b):YtW L b/\ ¬Bw b/\b<n:=by
 rcases h with h| ⟨a,h⟩
 ·exact absurd h YaQ
 ·unfold hide at h
  grind
theorem Yg2(n:Nat)(hn:n=w.heap.size)(Bw:Nat->Prop)(ht:TabF fm w L):HR fm w (hide L n Bw) (hf (List.replicate n none)):=by
 refine⟨fun a o h=> ?_,fun a h=> ?_,fun a=> ?_,fun a b g e c e' c' h=> ?_,fun a g h=> ?_,fun a o g es cap h1 h2 h3=>absurd (.inl ⟨a,es,cap,h3⟩) YaQ,fun a i g h=>absurd (.inr ⟨a,i,h⟩) (YaQ (L:=L) (n:=n) (Bw:=Bw) (b:=g)),ht.loc fun b _ h=>absurd h YaQ⟩
 ·simp[hf,Yxp]at h
 ·unfold hide at h
  grind
 ·unfold hide
  simp only[hf,Yxp]
  grind
 ·exact absurd (.inl ⟨a,e,c,h⟩) YaQ
 ·have:=Ydr (L:=L) (n:=n) (Bw:=Bw) (b:=g) (.inr ⟨a,h⟩)
  exact⟨by omega,YaQ⟩
theorem Ya6{R:AV->AV->Prop}: ∀{as bs:List AV},All2 R as bs->as.length=bs.length/\ ∀(j:Nat) (b:AV),bs[j]?=some b-> ∃a,as[j]?=some a/\R a b
 | [],[],_=>⟨rfl,fun j b h=>by grind⟩
 |a::as,b::bs,h=>by
  obtain⟨h1,h2⟩:=Ya6 h.2
  refine⟨by grind,fun j c hc=> ?_⟩
  cases j with
  |zero=>simp at hc;subst hc;exact⟨a,rfl,h.1⟩
  |succ j=>simp_all
 | [],_::_,h=>h.elim
 |_::_,[],h=>h.elim
theorem Ymx{α:Type}{l:List α}{n i:Nat}(h:l.length=n)(hi:i<n): ∃e,l[i]?=some e:=
 ⟨l[i],YwO (by omega)⟩
theorem Yai{α β:Type}{l:List α}{l':List β}(h:l.length=l'.length){i:Nat}{e':β}(hi:l'[i]?=some e'): ∃e,l[i]?=some e:=
 Ymx h (YwP.1 hi).1
theorem Yg3{a b:AV}(hc:Coe a b): ∀{x:Value},VR fm w L x a->VR fm w L x b:=by
 induction hc with
 |refl a=>exact id
 |empRd es=>intro x h;obtain⟨A,rfl⟩:=YaK h;exact .rd0 A es 0
 |rd es l l' hl hlz h ih=>
  intro x hx
  rcases YbA hx with⟨rfl,A,c,rfl⟩| ⟨b,o,c,vals,rfl,hne,hes,hes0,hlc,hb,hbs,hcl,h1,hrr⟩
  ·grind
  ·have g2: ∀(i:Nat) (e':List AV) (j:Nat) (y':AV),l'[i]?=some e'->e'[j]?=some y'-> ∃e y,l[i]?=some e/\e[j]?=some y:=by
    grind
   rw[hl]
   exact .rd b o c es l' vals (fun e=>hne (YwZ.1 (by simp_all))) (fun e' he'=>by
     obtain⟨i,hi,he⟩:=List.mem_iff_getElem.1 he'
     have hi':l'[i]?=some e':=by simp_all
     obtain⟨e,hie⟩:=Yai hl hi'
     grind) hes0 (by omega) hb hbs
    (fun i e' j y' hi hj=>by grind)
    (fun i e' j y' hi hj=>by grind)
    (fun i e' j y' hi hj=>by grind)
 |rp cs cs' hl h ih=>
  intro x hx
  obtain⟨b,o,vals,rfl,hb,hbs,hcl,h1,hrr⟩:=Ybz hx
  exact .rp b o cs' vals hb hbs
   (fun j y' hj=>by grind)
   (fun j y' hj=>by grind)
   (fun j y' hj=>by grind)
 |agg cs cs' hl h ih=>
  intro x hx
  obtain⟨xs,rfl,hs,hall⟩:=Ybj hx
  exact .agg xs cs' (by omega) (fun j y' hj=>by grind)
   (fun j y' hj=>by grind)
 |tup cs cs' hl h ih=>
  intro x hx
  obtain⟨xs,rfl,hs,hall⟩:=Ydj hx
  exact .tup xs cs' (by omega) (fun j y' hj=>by obtain⟨y,hy⟩:=Yai hl hj;grind)
 |clo f cs cs' hl h ih=>
  intro x hx
  obtain⟨g,xs,rfl,hf,hs,hall⟩:=Ycy hx
  subst hf
  exact .clo g xs cs' (by omega) (fun j y' hj=>by obtain⟨y,hy⟩:=Yai hl hj;grind)
theorem YbV{a b:AV}(hc:Coe a b):NR b->NR a:=by
 induction hc with
 |refl a=>exact id
 |empRd es=>intro _;exact .emp
 |rd es l l' hl hlz h ih=>
  intro hn
  cases hn with
  |rd es l' hn=>
   refine .rd es l (fun e he x hx=> ?_)
   obtain⟨i,hi⟩:=YwW.1 he
   obtain⟨j,hj⟩:=YwW.1 hx
   obtain⟨e',he'⟩:=Yai hl.symm hi
   obtain⟨x',hx'⟩:=Yai (hlz i e e' hi he').symm hj
   exact ih i e e' j x x' hi he' hj hx' (hn e' (YwQ he') x' (YwQ hx'))
 |rp cs cs' hl h ih=>
  intro hn
  cases hn with
  |rp cs' hn=>
   refine .rp cs (fun x hx=> ?_)
   obtain⟨j,hj⟩:=YwW.1 hx
   grind
 |agg cs cs' hl h ih=>
  intro hn
  cases hn with
  |agg cs' hn=>
   refine .agg cs (fun x hx=> ?_)
   obtain⟨j,hj⟩:=YwW.1 hx
   grind
 |tup cs cs' hl h ih=>
  intro hn
  cases hn with
  |tup cs' hn=>
   refine .tup cs (fun x hx=> ?_)
   obtain⟨j,hj⟩:=YwW.1 hx
   grind
 |clo f cs cs' hl h ih=>
  intro hn
  cases hn with
  |clo f cs' hn=>
   refine .clo f cs (fun x hx=> ?_)
   obtain⟨j,hj⟩:=YwW.1 hx
   grind
def Ywa(a b:AV)(i off len:Nat)(o:AObj):Prop:=
 (a= .ref i off len/\b= .rd (wd o.es) ((o.el.drop off).take len))\/
 ∃(cs ds:List AV) (k:Nat),a= .agg cs/\b= .agg ds/\cs[k]?=some (.ref i off len)/\ds[k]?=some (.rd (wd o.es) ((o.el.drop off).take len))
theorem Ymy{a:AV}{i off len:Nat}{o:AObj}(h:Ywa a a i off len o):False:=by
 rcases h with⟨h1,h2⟩| ⟨cs,ds,k,h1,h2,h3,h4⟩
 ·simp_all
 simp_all
theorem Yg4{h:HF}(hr:HR fm w L h){x:Value}{i off len:Nat}{o:AObj}(hio:h i=some (some o))(hle:off+len<=o.el.length)(hv:VR fm w L x (.ref i off len)){Bw:Nat->Prop}
  (hB: ∀g es cap,L i= .cells g es cap->Bw g) (hnb:NR (.rd (wd o.es) ((o.el.drop off).take len))):VR fm w (hide L w.heap.size Bw) x (.rd (wd o.es) ((o.el.drop off).take len)):=by
 have mv: ∀b,b<w.heap.size-> ¬YtW L b-> ¬YtW (hide L w.heap.size Bw) b:=fun b _ h1 h2=>h1 (Ydr h2).1
 rcases Ya4 hr hio hv with⟨g,es,cap,hL,e1,e2,ex⟩| ⟨A,_,hL,_,e1,e2,ex⟩
 ·subst e1
  rw[ex]
  by_cases hl0:len=0
  ·subst hl0;simp;exact .rd0 _ _ _
  ·have hob:=hr.obj i o hio
   rw[hL]at hob
   obtain⟨_,hes,hlc,hcm,hall,cur,ty,hg,hcs,hrr⟩:=hob
   have hlt:=(YxT.1 hg).1
   have hsub: ∀k e,((o.el.drop off).take len)[k]?=some e->o.el[off+k]?=some e:=by
    grind
   have hll:((o.el.drop off).take len).length=len:=by grind
   have key: ∀k e j' y,((o.el.drop off).take len)[k]?=some e->e[j']?=some y->(off+k)*(wd o.es)+j'<cur.size:=by
    intro k e j' y hk hj
    have h1:=hsub k e hk
    have h2:=(YwP.1 h1).1
    have h3:=hall e (YwQ h1)
    have h4:=(YwP.1 hj).1
    have h5:(off+k+1)*(wd o.es)<=cap*(wd o.es):=YxA _ (by omega)
    grind
   cases hnb with
   |rd es' l' hn=>
    have:=VR.rd (fm:=fm) (w:=w) (L:=hide L w.heap.size Bw) g (off*(wd o.es)) (cap-off) (wd o.es) ((o.el.drop off).take len) (fun k j'=>cur.getD ((off+k)*(wd o.es)+j') undef)
     (fun e=>hl0 (by simp_all)) (fun e he=>hall e (List.mem_of_mem_drop (List.mem_of_mem_take he))) hes (by omega)
     (fun ho=>(Ydr ho).2.1 (hB g (wd o.es) cap hL)) hlt
     (fun k e j' y hk hj=>by
      rw[cell_of_row w g _ cur ty (0,0) hg,<-YxB]
      simp_all)
     (fun k e j' y hk hj=>(hrr _ e j' y (hsub k e hk) hj).1)
     (fun k e j' y hk hj=>YcB mv (hrr _ e j' y (hsub k e hk) hj).2 (hn e (YwQ hk) y (YwQ hj)))
    simp_all
 ·rw[ex,e2];simp;exact .rd0 _ _ _
theorem Ymz{cs:List AV}(h:NR (.agg cs)): ∀x∈cs,NR x:=by cases h;trivial
def Yve(L:Nat->Loc)(h:HF)(args args1:List AV)(g:Nat):Prop:= ∃(j:Nat) (a b:AV) (i off len:Nat) (o:AObj) (es cap:Nat),args[j]?=some a/\args1[j]?=some b/\Ywa a b i off len o/\h i=some (some o)/\L i=Loc.cells g es cap
theorem Yg5{h:HF}{args:List AV}{g:Nat}: ¬Yve L h args args g:=by
 rintro⟨j,a,b,i,off,len,o,es,cap,h1,h2,h3,_,_⟩
 rw[h1]at h2
 injection h2 with h2
 subst h2
 exact Ymy h3
theorem Yg6{h:HF}(hr:HR fm w L h){vs:Array Value}{args args1 args':List AV}(hvs: ∀j a,args[j]?=some a->VR fm w L (vs.getD j undef) a)(hb:All2 (Bor h) args args1)(hco:All2 Coe args1 args')
  (hna: ∀a∈args',NR a) {j:Nat} {b':AV} (hjb':args'[j]?=some b'):VR fm w (hide L w.heap.size (Yve L h args args1)) (vs.getD j undef) b':=by
 obtain⟨hlen,hget⟩:=Ya6 hb
 obtain⟨hlen',hget'⟩:=Ya6 hco
 obtain⟨b,hjb,hbb⟩:=hget' j b' hjb'
 obtain⟨a,hja,hab⟩:=hget j b hjb
 have hv:=hvs j a hja
 have hnb:=YbV hbb (hna b' (YwQ hjb'))
 refine Yg3 hbb ?_
 have mv: ∀b,b<w.heap.size-> ¬YtW L b-> ¬YtW (hide L w.heap.size (Yve L h args args1)) b:=fun b _ h1 h2=>h1 (Ydr h2).1
 rcases hab with(rfl| ⟨i,off,len,o,rfl,hio,hle,rfl⟩)| ⟨cs,ds,rfl,rfl,hcd⟩
 ·exact YcB mv hv hnb
 ·exact Yg4 hr hio hle hv (fun g es cap hL=>⟨j,_,_,i,off,len,o,es,cap,hja,hjb,.inl ⟨rfl,rfl⟩,hio,hL⟩) hnb
 ·obtain⟨hl2,hget2⟩:=Ya6 hcd
  obtain⟨xs,e,hs,hall⟩:=Ybj hv
  rw[e]
  refine .agg xs ds (by omega) (fun k b hk=> ?_) (fun k b hk=> ?_)
  ·grind
  ·obtain⟨a,ha,hab⟩:=hget2 k b hk
   have hnk:=Ymz hnb b (YwQ hk)
   rcases hab with rfl| ⟨i,off,len,o,rfl,hio,hle,rfl⟩
   ·exact YcB mv (hall k a ha).2 hnk
   ·exact Yg4 hr hio hle (hall k _ ha).2 (fun g es cap hL=>⟨j,_,_,i,off,len,o,es,cap,hja,hjb,.inr ⟨cs,ds,k,rfl,rfl,ha,hk⟩,hio,hL⟩) hnk
theorem YeQ{C:Ctx}(hC:CtxOK P fm C){f:FuncId}(hpf:C.pf (fm f)=true){h:HF}(hr:HR fm w L h){vs:Array Value}{args args1 args':List AV}{r:AV}(hsz:vs.size=args.length)
  (hvs: ∀j a,args[j]?=some a->VR fm w L (vs.getD j undef) a) (hb:All2 (Bor h) args args1) (hsc:args1=args\/Scal r) (hco:All2 Coe args1 args') (hc:C.C (fm f) args' [] r []):
  YtL P f=true/\Calls P f vs w fun e w'=> ∃v,e= .returned v/\Keep L w w'/\HR fm w' L h/\VR fm w' L v r:=by
 have hlen:=(Ya6 hb).1
 have hlen':=(Ya6 hco).1
 have hc':=hC.any _ _ _ w.heap.size hpf hc
 obtain⟨hna,hnr,_⟩:=hC.nr _ _ _ _ _ hpf hc'
 obtain⟨hcal,hok⟩:=hC.ok f _ _ _ _ hc'
 refine⟨hcal,(hok w (hide L w.heap.size (Yve L h args args1)) vs (Yg2 _ rfl _ hr.tab) (by omega) (fun j b' hjb'=>Yg6 hr hvs hb hco hna hjb')).mono ?_⟩
 ·rintro e w' ⟨v,L',rfl,hk,hs,hr',hv⟩
  have hkL:Keep L w w':=⟨hk.os,hk.tape,hk.output,hk.size,fun b hb _=>hk.blk b hb YaQ,hk.typ⟩
  refine⟨v,rfl,hkL,hr.mono hkL (fun b hb _=>hk.blk b hb YaQ),?_⟩
  rcases hsc with hsame|hsc
  ·
   refine YcB (fun b hb hnb hoL=>hnb ?_) hv hnr
   have hbl:b<w.heap.size:=by
    rcases hoL with(⟨a,e,c,h1⟩| ⟨a,i,h1⟩)| ⟨a,h1⟩
    ·exact hr.blk h1
    ·exact hr.mpl h1
    ·exact(hr.hid a b h1).1
   have hnB: ¬Yve L h args args1 b:=by rw[hsame];exact Yg5
   have hhid:hide L w.heap.size (Yve L h args args1) b= .hid b:=by
    unfold hide
    simp_all
   rcases hs.old b (by simp_all)with h1| ⟨_,h1⟩
   ·exact .inr ⟨b,by simp_all⟩
   simp_all
  ·exact Ymw hv hsc
theorem YmA{os:Nat}{h:HF}{nid:Nat}(hr:HR fm w L h)(hn:h nid=none){w':World}(hk:Keep L w w')(hkb: ∀b,b<w.heap.size->w'.heap[b]?=w.heap[b]?){g:Nat}(hgs:w.heap.size<=g){cur:Array Value}{ty:TypeId}{es cap:Nat}{el:List (List AV)}
  (hw:w'.heap[g]?=some (.cells cur ty (0,0)))
  (hes:0<es) (hlc:el.length<=cap) (hcm:cap<=maxLen) (hel: ∀e∈el,e.length=es) (hsz:cur.size=cap*es)
  (hrr: ∀i e j x,el[i]?=some e->e[j]?=some x->(cur.getD (i*es+j) undef).oneCell'=true/\VR fm w' (fun a=>if a=nid then .cells g es cap else L a) (cur.getD (i*es+j) undef) x) (hwd:es=wd os) (hos:0<os):
  LStep L (fun a=>if a=nid then .cells g es cap else L a) w.heap.size/\
   HR fm w' (fun a=>if a=nid then .cells g es cap else L a) (appU h nid (.push (some ⟨os,el⟩))):=by
 have hnf:L nid= .fresh:=(hr.fresh nid).2 hn
 have hownc: ∀b,OwnC (fun a=>if a=nid then .cells g es cap else L a) b->OwnC L b\/w.heap.size<=b:=fun b hb=>by
  rcases hb with⟨a,e,c,hac⟩| ⟨a,i,hac⟩
  ·dsimp only at hac
   by_cases e:a=nid
   ·simp_all
   ·simp[e]at hac;exact .inl (.inl ⟨a,_,_,hac⟩)
  ·dsimp only at hac
   by_cases e:a=nid
   ·simp_all
   ·simp[e]at hac;exact .inl (.inr ⟨a,i,hac⟩)
 have hls:LStep L (fun a=>if a=nid then .cells g es cap else L a) w.heap.size:=by
  refine⟨fun a ha=> ?_,fun b hb=> ?_,hownc⟩
  ·grind
  ·rcases hb with hb| ⟨a,ha⟩
   ·exact(hownc b hb).imp .inl id
   ·by_cases e:a=nid
    ·simp_all
    ·simp[e]at ha;exact .inl (.inr ⟨a,ha⟩)
 refine⟨hls,?_⟩
 have hlt: ∀a g e c,L a= .cells g e c->g<w.heap.size:=fun a g e c hac=>hr.blk hac
 refine⟨fun a o hao=> ?_,fun a ha=> ?_,fun a=> ?_,fun a b g e c e' c' ha hb=> ?_,fun a g ha=>by
  by_cases e:a=nid
  ·simp_all
  ·simp[e]at ha;exact⟨Yxw (hr.hid a g ha).1 hk.size,fun hc=>(hownc g hc).elim (hr.hid a g ha).2 (fun h=>by have:=(hr.hid a g ha).1;omega)⟩,fun a o g es' cap' h1 h2 h3=> ?_,fun a i g ha=>by
  by_cases e:a=nid
  ·simp_all
  ·simp only[e,if_false]at ha
   obtain⟨⟨o,ho⟩,k⟩:=hr.mps a i g ha
   refine⟨⟨o,by simp[appU,e,ho]⟩,fun b j hb=> ?_⟩
   grind,hr.tab.mono hk hownc⟩
 ·by_cases e:a=nid
  ·subst e
   simp[appU]at hao
   subst hao
   simp only[if_true]
   exact⟨hwd,hes,hlc,hcm,hel,cur,ty,hw,hsz,hrr⟩
  ·simp[appU,e]at hao
   have hobj:=hr.obj a o hao
   simp only[e,if_false]
   revert hobj
   cases hL:L a with
   |fresh=>exact id
   |dead=>exact id
   |nil=>exact id
   |hid g=>exact id
   |cells g' es' cap'=>
    rintro⟨h0,h1,h2,h3,h4,cur',ty',h5,h6,h7⟩
    refine⟨h0,h1,h2,h3,h4,cur',ty',?_,h6,fun i e' j x hi hj=>⟨(h7 i e' j x hi hj).1,(h7 i e' j x hi hj).2.mono hk hls⟩⟩
    grind
   |mp i g'=>
    intro hm
    exact YaW hm hk hls (fun ob h1=>by grind)
 ·by_cases e:a=nid
  ·subst e;exact⟨⟨os,el⟩,by simp[appU]⟩
  ·simp only[e,if_false]at ha
   obtain⟨o,ho⟩:=hr.live a ha
   exact⟨o,by simp[appU,e,ho]⟩
 ·by_cases e:a=nid
  ·subst e;simp[appU]
  ·simp only[e,if_false,appU];exact hr.fresh a
 ·by_cases e1:a=nid<;>by_cases e2:b=nid
  ·omega
  ·grind
  ·grind
  ·simp only[e1,if_false]at ha;simp only[e2,if_false]at hb
   exact hr.inj a b _ _ _ _ _ ha hb
 ·by_cases e:a=nid
  ·subst e
   simp[appU]at h1
   grind
  ·simp[appU,e]at h1
   simp only[e,if_false]at h3
   exact hk.typ _ _ (hr.byt a o _ es' cap' h1 h2 h3)
theorem YmB{C:Ctx}(hC:CtxOK P fm C){f:FuncId}{h:HF}(hr:HR fm w L h){vs:Array Value}{args args1 args':List AV}{o:AObj}{len nid:Nat}(hn:h nid=none)(hsz:vs.size=args.length)
  (hvs: ∀j a,args[j]?=some a->VR fm w L (vs.getD j undef) a) (hb:All2 (Bor h) args args1) (hsc:args1=args\/Yu0 o) (hco:All2 Coe args1 args') (hm:MkC C (fm f) args' o len):
  YtL P f=true/\Calls P f vs w fun e w'=> ∃v L',e= .returned v/\Keep L w w'/\LStep L L' w.heap.size/\HR fm w' L' (appF h nid [.push (some o)])/\VR fm w' L' v (.ref nid 0 len):=by
 obtain⟨hos,hna,hno,hc⟩:=hm
 have hlen:=(Ya6 hb).1
 have hlen':=(Ya6 hco).1
 obtain⟨hcal,hok⟩:=hC.ok f _ _ _ _ (hc w.heap.size)
 refine⟨hcal,(hok w (hide L w.heap.size (Yve L h args args1)) vs (Yg2 _ rfl _ hr.tab) (by rw[hsz,hlen,hlen']) (fun j b' hjb'=>Yg6 hr hvs hb hco hna hjb')).mono ?_⟩
 ·rintro e w' ⟨v,L1,rfl,hk,hs,hr1,hv⟩
  have hkL:Keep L w w':=⟨hk.os,hk.tape,hk.output,hk.size,fun b hb _=>hk.blk b hb YaQ,hk.typ⟩
  have hkb: ∀b,b<w.heap.size->w'.heap[b]?=w.heap[b]?:=fun b hb=>hk.blk b hb YaQ
  have hio:hf (List.replicate w.heap.size none++[some o]) w.heap.size=some (some o):=by
   simp only[hf];simp
  rcases Ya4 hr1 hio hv with⟨g,es,cap,hL,e1,e2,ex⟩| ⟨A,b,hL,hA,e1,e2,ex⟩
  ·have hob:=hr1.obj _ o hio
   rw[hL]at hob
   obtain⟨_,hes,hlc,hcm,hall,cur,ty,hg,hcs,hrr⟩:=hob
   have hgs:w.heap.size<=g:=(hs.ownc g (.inl ⟨_,_,_,hL⟩)).resolve_left YaQ
   have mv2:args1=args-> ∀b,b<w'.heap.size-> ¬YtW L1 b-> ¬YtW (fun a=>if a=nid then .cells g es cap else L a) b:=by
    intro hsame b _ h1 h2
    have old: ∀{b},b<w.heap.size->YtW L b->YtW L1 b:=fun{b} hb ho=>by
     have hhid:hide L w.heap.size (Yve L h args args1) b= .hid b:=by
      unfold hide;rw[if_pos hb,if_pos ⟨ho,by rw[hsame];exact Yg5⟩]
     rcases hs.old b (by rw[hhid];exact fun h=>by cases h)with h1| ⟨_,h1⟩
     ·exact .inr ⟨b,by rw[h1,hhid]⟩
     ·exact absurd hhid (h1 b)
    rcases h2 with(⟨a,e,c,h2⟩| ⟨a,i,h2⟩)| ⟨a,h2⟩
    ·by_cases ea:a=nid
     ·simp only[ea,if_true]at h2;injection h2 with h2;subst h2;exact h1 (.inl (.inl ⟨_,_,_,hL⟩))
     ·simp only[ea,if_false]at h2;exact h1 (old (hr.blk h2) (.inl (.inl ⟨a,e,c,h2⟩)))
    ·by_cases ea:a=nid
     ·simp only[ea,if_true]at h2;cases h2
     ·simp only[ea,if_false]at h2;exact h1 (old (hr.mpl h2) (.inl (.inr ⟨a,i,h2⟩)))
    ·by_cases ea:a=nid
     ·simp only[ea,if_true]at h2;cases h2
     ·simp only[ea,if_false]at h2;exact h1 (old (hr.hid a b h2).1 (.inr ⟨a,h2⟩))
   obtain⟨k1,k2⟩:=YmA (os:=o.es) (el:=o.el) hr hn hkL hkb hgs hg hes hlc hcm hall hcs
    (fun i e j x hi hj=>⟨(hrr i e j x hi hj).1,by
     rcases hsc with hsame|hp
     ·exact YcB (mv2 hsame) (hrr i e j x hi hj).2 (hno e (YwQ hi) x (YwQ hj))
     ·obtain⟨v,rfl⟩:=hp e (YwQ hi) x (YwQ hj)
      rw[Yae (hrr i e j _ hi hj).2];exact .v v⟩) e1 hos
   refine⟨v,_,rfl,hkL,k1,k2,?_⟩
   rw[ex]
   exact .refAt g es cap nid 0 len (by simp) e2
  ·have hob:=hr1.obj _ o hio
   rw[hL]at hob
   subst e2
   obtain⟨k1,k2⟩:=YbT (hr.mono hkL (fun b hb _=>hkb b hb)) hn (es:=o.es) w.heap.size b (fun h=>by omega)
   refine⟨v,_,rfl,hkL,k1,?_,?_⟩
   ·have hel:o.el=[]:=hob.1
    have:o=⟨o.es,[]⟩:=by cases o;subst hel;rfl
    rw[this];exact k2
   ·rw[ex];exact .refNil A nid b (by simp) hA
end
end Go.Abs
