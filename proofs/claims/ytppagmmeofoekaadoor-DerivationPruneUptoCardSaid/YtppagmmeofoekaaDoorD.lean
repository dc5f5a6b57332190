/- Rows of numbers of a call's own; what old blocks hold stays. No condition. -/
import Derived.Test.YtppagmmeofoekaaDoorB
import Derived.RangeFuncBox
import Derived.RangeFuncOwn
import Derived.Test.YtppagmmeofoekaaDoorL
import Derived.Shelf.Slices.Clone
import Derived.Shelf.Abstract
import Derived.Shelf.RegionOpen
import Derived.BigFrameIn
import Derived.WalkKit
import Derived.OwnWalkIn
import Derived.Maps.OwnIn
import Derived.TacticsInMore
import Derived.LoopNIn
import Derived.LoopIn
import Derived.Test.YtppagmmeofoekaaDoorP
import Derived.Sort.CutIn
set_option linter.unusedVariables false
set_option linter.unusedSimpArgs false
set_option linter.unusedSectionVars false
open List renaming getElem?_eq_getElem → YwO, getElem?_eq_some_iff → YwP, mem_of_getElem? → YwQ, getElem?_map → YwR, map_cons → YwS, getD_eq_getElem?_getD → YwT, getElem?_append_left → YwU, length_map → YwY, length_eq_zero_iff → YwZ, getElem?_append_right → Yw0, all_eq_true → Yw1, mem_cons → Yw2, mem_map → Yw3, getElem?_set_self → Yw4, length_set → Yw5, mem_cons_self → Yw6, getElem?_eq_none → Yw7, getElem?_take → Yw8, append_assoc → Yw9, getElem_mem → Yxa, nil_append → Yxd, length_cons → Yxe, mem_singleton → Yxf, cons_append → Yxg, getElem?_drop → Yxh, mem_append → Yxi, mem_cons_of_mem → Yxj, map_append → Yxk, length_append → Yxl, drop_eq_getElem_cons → Yxm, getElem?_replicate → Yxp, length_pos_iff → Yxq
open Nat renaming le_refl → Yxs, lt_of_lt_of_le → Yxw, zero_add → Yxx, le_trans → Yxy, zero_le → Yxz
open Option renaming bind → YxD, map_some → YxF, bind_some → YxG, getD_some → YxI
open Bool renaming and_eq_true → YxL, eq_iff_iff → YxN
open Int renaming toNat_natCast → YxR
open Array renaming getElem?_eq_some_iff → YxT, getElem?_eq_getElem → YxV
namespace Go.Abs
open Go Go.RowKit
theorem YsN{fm:FM}{W W':World}{L L':Nat->Loc}(hs:W.heap.size<=W'.heap.size)(hk: ∀(b:Nat) (o:Obj),W.heap[b]?=some o->o.isCells=true-> ¬YtW L b->W'.heap[b]?=some o)
    (hmv: ∀b,b<W.heap.size-> ¬YtW L b-> ¬YtW L' b) {x:Value} {a:AV} (h:VR fm W L x a):NR a->VR fm W' L' x a:=by
  have cell: ∀{b o:Nat} {v:Value},¬YtW L b->W.cell? ⟨b,o,none⟩=some v->W'.cell? ⟨b,o,none⟩=some v:=fun{b o v} hb hc=>by
    obtain⟨ob,h1,h2⟩:=cells_of_cell hc
    have h3:=hk b ob h1 h2 hb
    have h1:W.heap[b]?=some ob:=h1
    rw[<-hc]
    simp only[World.cell?,h1,h3]
  induction h with
  |v x=>intro _;exact .v x
  |u x=>intro _;exact .u x
  |emp A=>intro _;exact .emp A
  |rd0 A es c=>intro _;exact .rd0 A es c
  |rd b o c es l vals hne hes hes0 hlc hb hbs hc h1 hr ih=>
   intro hn
   cases hn with
   |rd es l hn=>exact .rd b o c es l vals hne hes hes0 hlc (hmv b hbs hb) (Yxw hbs hs) (fun i e j x hi hj=>cell hb (hc i e j x hi hj)) h1 (fun i e j x hi hj=>ih i e j x hi hj (hn e (YwQ hi) x (YwQ hj)))
  |rp b o cs vals hb hbs hc h1 hr ih=>
   intro hn
   cases hn with
   |rp cs hn=>exact .rp b o cs vals (hmv b hbs hb) (Yxw hbs hs) (fun j x hj=>cell hb (hc j x hj)) h1 (fun j x hj=>ih j x hj (hn x (YwQ hj)))
  |agg xs cs hs h1 hr ih=>
   intro hn
   cases hn with
   |agg cs hn=>exact .agg xs cs hs h1 (fun j x hj=>ih j x hj (hn x (YwQ hj)))
  |tup xs cs hs hr ih=>
   intro hn
   cases hn with
   |tup cs hn=>exact .tup xs cs hs (fun j x hj=>ih j x hj (hn x (YwQ hj)))
  |clo f xs cs hs hr ih=>
   intro hn
   generalize hc:AV.clo (fm f) cs=c at hn
   cases hn with
   |clo f' cs' hn=>injection hc with hf hc;subst hc;subst hf;exact .clo f xs _ hs (fun j x hj=>ih j x hj (hn x (YwQ hj)))
   |_=>cases hc
  |er t p=>intro _;exact .er t p
  |_=>intro hn;cases hn
theorem YsO{fm:FM}{w W:World}{L:Nat->Loc}(hb:Below w.heap.size w W){x:Value}{a:AV}(h:VR fm w L x a)(hn:NR a):VR fm W L x a:=
  YsN hb.size (fun b _ h1 _ _=>(hb.block b (YxT.1 h1).1).trans h1) (fun _ _ h=>h) h hn
theorem zget{n:Nat}{a:Nat}:hf (Z n []) a=if a<n then some none else none:=by
  simp only[hf,Z,List.append_nil,Yxp]
theorem YsP{fm:FM}{n:Nat}{w:World}{L:Nat->Loc}(h:HR fm w L (hf (Z n [])))(b:Nat): ¬OwnC L b:=by
  have no: ∀a o,hf (Z n []) a≠some (some o):=fun a o e=>by rw[zget]at e;split at e<;>cases e
  rintro(⟨a,es,cap,e⟩| ⟨a,i,e⟩)
  ·obtain⟨o,e⟩:=h.live a (.inl ⟨b,es,cap,e⟩);exact no _ _ e
  ·obtain⟨⟨o,e⟩,_⟩:=h.mps a i b e;exact no _ _ e
theorem YsQ{fm:FM}{n:Nat}{w:World}{L:Nat->Loc}(hr:HR fm w L (hf (Z n []))){b:Nat}(h:YtW L b):b<w.heap.size:=by
  rcases h with h| ⟨a,h⟩
  ·exact(YsP hr b h).elim
  ·exact(hr.hid a b h).1
def iv(l:List Int):List Value:=l.map (Value.int .i64)
structure IR(te:TypeId)(W:World)(h0:Nat)(rs:List (Value×List Int)):Prop where
  row: ∀r∈rs,W.ownsRow h0 te 1 r.1 r.2.length (iv r.2)
  ne:rs.Pairwise fun a b=>a.1.ownBlock=none\/a.1.ownBlock≠b.1.ownBlock
theorem Yc7(l:List Int)(j:Nat)(h:j<l.length):(iv l)[j]?=some (.int .i64 (l.getD j 0)):=by
  simp[iv,YwT,h]
variable{te:TypeId}{W W':World}{h0:Nat}{rs:List (Value×List Int)}
theorem IR.nil:IR te W h0 []:=⟨fun r h=>by simp at h,.nil⟩
theorem IR.kept{row:Option Nat}(h:IR te W h0 rs)(hg:W.grownBy W' row)(hne: ∀r∈rs,r.1.ownBlock=none\/r.1.ownBlock≠row):IR te W' h0 rs:=
  ⟨fun r hr=>(h.row r hr).kept hg (hne r hr),h.ne⟩
theorem Yey{x:Option Nat}:x=none\/x≠none:=by cases x<;>simp
theorem IR.keep0(h:IR te W h0 rs)(hg:W.grownBy W' none):IR te W' h0 rs:=h.kept hg fun _ _=>Yey
theorem Ybg{te':TypeId}{sz sz' n n':Nat}{v v':Value}{xs xs':List Value}{h0':Nat}(ht:te≠te')(h:W.ownsRow h0 te sz v n xs)(h':W.ownsRow h0' te' sz' v' n' xs'):v.ownBlock=none\/v.ownBlock≠v'.ownBlock:=by
  rcases h.2 with⟨rfl,_⟩| ⟨g,cap,cur,rfl,_,e1,_⟩
  ·exact .inl rfl
  ·rcases h'.2 with⟨rfl,_⟩| ⟨g',cap',cur',rfl,_,e2,_⟩
   ·exact .inr (by simp[Value.ownBlock])
   ·refine .inr fun e=> ?_
    simp only[Value.ownBlock,Option.some.injEq]at e
    subst e
    rw[e1]at e2
    simp only[Option.some.injEq,Obj.cells.injEq]at e2
    exact ht e2.2.1
theorem YkX{te':TypeId}{sz n B:Nat}{v:Value}{xs:List Value}{cs:Array Value}{fz:Nat×Nat}(ht:te≠te')(h:W.ownsRow h0 te sz v n xs)(hB:W.heap[B]?=some (.cells cs te' fz)):v.ownBlock=none\/v.ownBlock≠some B:=by
  rcases h.2 with⟨rfl,_⟩| ⟨g,cap,cur,rfl,_,e1,_⟩
  ·exact .inl rfl
  ·refine .inr fun e=> ?_
   simp only[Value.ownBlock,Option.some.injEq]at e
   subst e
   rw[e1]at hB
   simp only[Option.some.injEq,Obj.cells.injEq]at hB
   exact ht hB.2.1
theorem IR.add{v:Value}{xs:List Int}{b:Nat}(h:IR te W h0 rs)(hb:Below b W W')(hlt: ∀r∈rs,∀k,r.1.ownBlock=some k->k<b)(hv:W'.ownsRow b te 1 v xs.length (iv xs))(h0b:h0<=b):IR te W' h0 (rs++[(v,xs)]):=by
  constructor
  ·intro r hr
   rcases Yxi.1 hr with hr|hr
   ·refine⟨(h.row r hr).1,?_⟩
    rcases(h.row r hr).2 with e| ⟨g,cap,cur,e,e1,e2,e3⟩
    ·exact .inl e
    ·exact .inr ⟨g,cap,cur,e,e1,(hb.block g (hlt r hr g (by rw[e];rfl))).trans e2,e3⟩
   ·obtain rfl:=Yxf.1 hr
    refine⟨hv.1,?_⟩
    rcases hv.2 with e| ⟨g,cap,cur,e,e1,e2⟩
    ·exact .inl e
    ·exact .inr ⟨g,cap,cur,e,Yxy h0b e1,e2⟩
  ·refine List.pairwise_append.2 ⟨h.ne,List.pairwise_singleton _ _,fun a ha c hc=> ?_⟩
   obtain rfl:=Yxf.1 hc
   cases e:a.1.ownBlock with
   |none=>exact .inl rfl
   |some k=>
    refine .inr fun e2=> ?_
    have:=(hv.lt k e2.symm).1
    have:=hlt a ha k e
    omega
theorem IR.lt(h:IR te W h0 rs): ∀r∈rs,∀k,r.1.ownBlock=some k->k<W.heap.size:=fun r hr k hk=>((h.row r hr).lt k hk).2
theorem IR.set{A B:List (Value×List Int)}{g n cap:Nat}{xs:List Int}(h:IR te W h0 (A++(.slice (some ⟨g,0,none⟩) n cap,xs)::B))(j:Nat)(x:Int):IR te (W.setCell ⟨g,j,none⟩ (.int .i64 x)) h0 (A++(.slice (some ⟨g,0,none⟩) n cap,xs.set j x)::B):=by
  have hv:=h.row (.slice (some ⟨g,0,none⟩) n cap,xs) (by simp)
  have hn:n=xs.length:=by
    rcases hv.2 with⟨e,_⟩| ⟨g',c',cur,e,_⟩
    ·cases e
    ·injection e
  subst hn
  obtain⟨s1,s2⟩:=hv.stored j (.int .i64 x)
  obtain⟨p1,p2,p3⟩:=List.pairwise_append.1 h.ne
  obtain⟨p4,p5⟩:=List.pairwise_cons.1 p2
  constructor
  ·intro r hr
   rcases Yxi.1 hr with hr|hr
   ·exact(h.row r (Yxi.2 (.inl hr))).kept s2 (p3 r hr _ (Yw6 ..))
   rcases Yw2.1 hr with rfl|hr
   ·have e:iv (xs.set j x)=(iv xs).set j (.int .i64 x):=by simp only[iv,List.map_set]
    rw[e,Yw5]
    exact s1
   ·refine(h.row r (Yxi.2 (.inr (Yxj _ hr)))).kept s2 ?_
    rcases p4 r hr with e|e
    ·cases e
    ·exact .inr fun q=>e q.symm
  ·refine List.pairwise_append.2 ⟨p1,List.pairwise_cons.2 ⟨p4,p5⟩,fun a ha c hc=> ?_⟩
   rcases Yw2.1 hc with rfl|hc
   ·exact p3 a ha (.slice (some ⟨g,0,none⟩) xs.length cap,xs) (Yw6 ..)
   ·exact p3 a ha c (Yxj _ hc)
theorem IR.sub{rs':List (Value×List Int)}(h:IR te W h0 rs)(hs:rs'.Sublist rs):IR te W h0 rs':=⟨fun r hr=>h.row r (hs.subset hr),h.ne.sublist hs⟩
end Go.Abs
namespace Go.Proofs
open Go Go.RowKit Go.Shelf Go.Abs
attribute [local go_sem] Oper.semAt_some
def dvV(d:Dv)(c:Value):List Value:=[.int .i64 d.1,c,.int .u32 d.2.2.1,.int .u32 d.2.2.2]
def fI(x:Int):List AV:=[.v (.int .i64 x)]
abbrev fromA(d:Dv):AV:=.rd 1 (d.2.1.map fI)
def rowsV(ps:List (Dv×Value)):List Value:=(ps.map fun p=>dvV p.1 p.2).flatten
theorem YsR(d:Dv):NR (fromA d):=.rd _ _ fun e he x hx=>by
  obtain⟨y,_,rfl⟩:=Yw3.1 he
  rw[Yxf.1 hx];exact .v _
theorem YsS{fm:FM}{W:World}{L:Nat->Go.Abs.Loc}{x:Value}{d:Dv}(h:VR fm W L x (fromA d))(hl:d.2.1.length<=65536):
    Calls Tryd.prog 40 #[x] W fun e W'=> ∃v,e= .returned v/\W'.ownsRow W.heap.size 3 1 v d.2.1.length (iv d.2.1)/\Below W.heap.size W W':=by
  generalize hq:fromA d=q at h
  cases h with
  |rd0 A es c=>
   injection hq with _ hq
   have hd:d.2.1=[]:=by simpa using hq
   rw[hd]
   cases A with
   |none=>
    refine(Any.slices_Clone_int_nil Tryd.lays2_15 0 c W).mono ?_
    rintro e W' ⟨rfl,rfl⟩
    exact⟨_,rfl,World.ownsRow_nil _ _ _ _,Below.refl _ _⟩
   |some a=>
    refine(Any.slices_Clone_int_zero Tryd.lays2_15 a c W).mono ?_
    rintro e W' ⟨v,rfl,h1,_,h2⟩
    exact⟨v,rfl,h1,h2⟩
  |rd b o c es l vals hne hes hes0 hlc hb hbs hc h1 hr=>
   injection hq with he hq
   subst he
   subst hq
   have hlen:(d.2.1.map fI).length=d.2.1.length:=YwY ..
   rw[hlen]
   refine(Any.slices_Clone_int Tryd.lays2_15 b o d.2.1.length c d.2.1 W (Yxs _) (by omega) fun j hj=> ?_).mono ?_
   ·have e1:(d.2.1.map fI)[j]?=some [.v (.int .i64 (d.2.1.getD j 0))]:=by
       rw[YwR,YwO hj,YwT,YwO hj];rfl
    have:=hc j _ 0 _ e1 rfl
    rw[Yae (hr j _ 0 _ e1 rfl),Nat.mul_one,Nat.add_zero]at this
    exact this
   ·rintro e W' ⟨v,rfl,h1,_,h2⟩
    rw[List.take_of_length_le (Yxs _)]at h1
    exact⟨v,rfl,h1,h2⟩
  |_=>cases hq
set_option maxRecDepth 100000 in
theorem YsT(a:Int)(c:Value)(x y:Int)(W:World):Calls Tryd.prog 41 #[.agg #[.int .i64 a,c,.int .u32 x,.int .u32 y]] W fun e W'=>e= .returned (.bool (decide (a=3)||decide (a=4)))/\W'=W.alloc (.cells #[.int .i64 a,c,.int .u32 x,.int .u32 y] 47):=by
  refine(callsIn_wide (n:=1)).1 ?_
  refine callsIn_of_wp Tryd.func41 rfl trivial ?_ rfl
  simp only[Tryd.ntmps41,List.size_toArray,Yxe,List.length_nil,Nat.reduceAdd,Nat.reduceSub,Array.replicate_succ,Array.replicate_zero,List.push_toArray,List.append_toArray,Yxd,Yxg]
  have t3:=Tryd.underlying3;have a3:=Tryd.isAgg3;have z3:=Tryd.sizeOf3;have v3:=Tryd.zeroValue3
  have t47:=Tryd.underlying47;have a47:=Tryd.isAgg47;have z47:=Tryd.sizeOf47
  gi_wp2
  all_goals go_ret
  ·rename_i h3
   subst h3
   exact⟨rfl,rfl⟩
  ·rename_i h3
   refine⟨?_,rfl⟩
   show Ending.returned (.bool (a==3||a==4))=_
   congr 2
theorem YfZ(d:Dv)(c:Value)(W:World):Calls Tryd.prog 41 #[.agg #[.int .i64 d.1,c,.int .u32 d.2.2.1,.int .u32 d.2.2.2]] W fun e W'=>e= .returned (.bool (YtJ d))/\W'=W.alloc (.cells #[.int .i64 d.1,c,.int .u32 d.2.2.1,.int .u32 d.2.2.2] 47):=YsT d.1 c d.2.2.1 d.2.2.2 W
end Go.Proofs
namespace Go.Proofs
open Go Go.RowKit Go.Shelf Go.Abs
attribute [local go_sem] Oper.semAt_some
theorem Tryd.info47:(Tryd.prog.info? 47).map (fun i=>(i.zero,i.size,i.bytes))=some (some (.agg #[.int .i64 0,.slice none 0 0,.int .u32 0,.int .u32 0]),4,40):=by kernel_rfl
theorem Ybv{W:World}{b:Nat}{e:TypeId}{sz n:Nat}{v:Value}{xs:List Value}(h:W.ownsRow b e sz v n xs): ∃A cap,v= .slice A n cap:=by
  rcases h.2 with⟨e,e0⟩| ⟨g,cap,cur,e,_⟩
  ·exact⟨none,0,by rw[e0];exact e⟩
  ·exact⟨_,cap,e⟩
theorem Yez(w:World)(cs:Array Value)(t:TypeId)(j:Nat)(v:Value):(w.alloc (.cells cs t)).setCell ⟨w.heap.size,j,none⟩ v=w.alloc (.cells (cs.setIfInBounds j v) t):=by
  have:(w.heap.push (.cells cs t)).modify w.heap.size (fun o=>match o with| .cells c elem frozen=>.cells (c.setIfInBounds j v) elem frozen|o=>o)=w.heap.push (.cells (cs.setIfInBounds j v) t):=by
    apply Array.ext
    ·simp
    ·intro i h1 h2
     by_cases e:i=w.heap.size
     ·subst e;rw[Array.getElem_modify_self,Array.getElem_push_eq,Array.getElem_push_eq]
     ·rw[Array.getElem_modify_of_ne (by omega),Array.getElem_push_lt (by simp at h2;omega),Array.getElem_push_lt (by simp at h2;omega)]
  simp only[World.setCell,World.alloc]
  exact congrArg (fun h=>{w with heap:=h}) this
theorem sa0(w:World)(t:TypeId)(a b c d v:Value):(w.alloc (.cells #[a,b,c,d] t)).setCell ⟨w.heap.size,0,none⟩ v=w.alloc (.cells #[v,b,c,d] t):=Yez ..
theorem sa1(w:World)(t:TypeId)(a b c d v:Value):(w.alloc (.cells #[a,b,c,d] t)).setCell ⟨w.heap.size,1,none⟩ v=w.alloc (.cells #[a,v,c,d] t):=Yez ..
theorem sa2(w:World)(t:TypeId)(a b c d v:Value):(w.alloc (.cells #[a,b,c,d] t)).setCell ⟨w.heap.size,2,none⟩ v=w.alloc (.cells #[a,b,v,d] t):=Yez ..
theorem sa3(w:World)(t:TypeId)(a b c d v:Value):(w.alloc (.cells #[a,b,c,d] t)).setCell ⟨w.heap.size,3,none⟩ v=w.alloc (.cells #[a,b,c,v] t):=Yez ..
def ArgP(fm:FM)(w:World)(L:Nat->Go.Abs.Loc)(A:Option Addr)(c:Nat)(l:List Dv):Prop:=
  l≠ []-> ∃b o,A=some ⟨b,o,none⟩/\b<w.heap.size/\l.length<=c/\ ∀i,i<l.length-> ∃f,f.oneCell'=true/\VR fm w L f (fromA (l.getD i dvZ))/\
   w.cell? ⟨b,o+i*4,none⟩=some (.int .i64 (l.getD i dvZ).1)/\w.cell? ⟨b,o+i*4+1,none⟩=some f/\w.cell? ⟨b,o+i*4+2,none⟩=some (.int .u32 (l.getD i dvZ).2.2.1)/\w.cell? ⟨b,o+i*4+3,none⟩=some (.int .u32 (l.getD i dvZ).2.2.2)
def irs(ps:List (Dv×Value)):List (Value×List Int):=ps.map fun p=>(p.2,p.1.2.1)
structure I1(w:World)(l:List Dv)(v i:Value)(W:World)(ps:List (Dv×Value)):Prop where
  len:ps.length<=l.length
  i:i= .int .i64 ps.length
  fst:ps.map (·.1)=l.take ps.length
  row:W.ownsRow w.heap.size 47 4 v ps.length (rowsV ps)
  ir:IR 3 W w.heap.size (irs ps)
  bel:Below w.heap.size w W
theorem YsU(ps:List (Dv×Value))(d:Dv)(c:Value):rowsV (ps++[(d,c)])=rowsV ps++dvV d c:=by simp[rowsV]
theorem YsV(ps:List (Dv×Value))(d:Dv)(c:Value):irs (ps++[(d,c)])=irs ps++[(c,d.2.1)]:=by simp[irs]
theorem YkY(W:World)(b j:Nat)(v:Value):W.grownBy (W.setCell ⟨b,j,none⟩ v) (some b):=
  ⟨rfl,rfl,rfl,by simp,fun k _ hk=>Below.heap_setCell W _ v k (fun e=>hk (by rw[e]))⟩
theorem YsW{W W':World}{b:Nat}{e:TypeId}{sz:Nat}{v:Value}{k:Nat}{l:List Value}(h:W.ownsRow b e sz v k l)(hb:Below W.heap.size W W'):W'.ownsRow b e sz v k l:=by
  refine⟨h.1,?_⟩
  rcases h.2 with h| ⟨g,cap,cur,h1,h2,h3,h4⟩
  ·exact .inl h
  ·exact .inr ⟨g,cap,cur,h1,h2,(hb.block _ (YxT.1 h3).1).trans h3,h4⟩
theorem YsX{W:World}{b:Nat}{e:TypeId}{sz:Nat}{v:Value}{k:Nat}{l:List Value}(h:W.ownsRow b e sz v k l){B:Nat}(hB:W.heap.size<=B):v.ownBlock=none\/v.ownBlock≠some B:=by
  cases hv:v.ownBlock with
  |none=>exact .inl rfl
  |some g=>refine .inr fun e=> ?_;injection e with e;have:=(h.lt g hv).2;omega
theorem take_get(l:List Dv)(n:Nat)(h:n<l.length):l.take (n+1)=l.take n++[l.getD n dvZ]:=by
  rw[List.take_add_one]
  simp[YwT,h]
section
variable{w:World}{l:List Dv}{v i:Value}{W W1 w1:World}{ps:List (Dv×Value)}{d:Dv}{cs:Array Value}{c v':Value}{cs':Array Value}
theorem I1.row1(hi:I1 w l v i W ps)(hbel:Below (W.heap.size+1) (W.alloc (.cells cs 47)) W1):((W1.setCell ⟨W.heap.size,1,none⟩ c).alloc (.cells cs' 47)).ownsRow w.heap.size 47 4 v ps.length (rowsV ps):=
  ((YsW (hi.row.alloc _) (by rw[World.size_alloc];exact hbel)).kept (YkY W1 W.heap.size 1 c) (YsX hi.row (Yxs _))).alloc _
theorem I1.push(hi:I1 w l v i W ps)(hk:ps.length<l.length)(hd:l.getD ps.length dvZ=d)(hbel:Below (W.heap.size+1) (W.alloc (.cells cs 47)) W1)(hown:W1.ownsRow (W.heap.size+1) 3 1 c d.2.1.length (iv d.2.1))
    (hgrow:((W1.setCell ⟨W.heap.size,1,none⟩ c).alloc (.cells cs' 47)).grownBy w1 v.ownBlock) (hrow:w1.ownsRow w.heap.size 47 4 v' (ps.length+1) (rowsV ps++dvV d c)):I1 w l v' (.int .i64 ((ps.length+1:Nat):Int)) w1 (ps++[(d,c)]):=by
  have hln:(ps++[(d,c)]).length=ps.length+1:=by simp
  have hB:W1.heap[W.heap.size]?=_:=(hbel.block _ (Nat.lt_succ_self _)).trans (World.alloc_heap_new W _)
  have hle:=hi.bel.size
  have r1:=hi.row1 (c:=c) (cs':=cs') hbel
  have ir1:IR 3 W1 w.heap.size (irs ps++[(c,d.2.1)]):=IR.add (hi.ir.keep0 (World.grownBy_alloc W _ none)) hbel (fun r hr k hk=>Nat.lt_succ_of_lt (hi.ir.lt r hr k hk)) hown (by omega)
  have ir2:=(ir1.kept (YkY W1 W.heap.size 1 c) fun r hr=>YkX (by decide) (ir1.row r hr) hB).keep0 (World.grownBy_alloc _ (.cells cs' 47) none)
  refine⟨by rw[hln];exact hk,by rw[hln],?_,by rw[hln,YsU];exact hrow,?_,?_⟩
  ·rw[hln,Yxk,hi.fst,take_get _ _ hk,hd];rfl
  ·rw[YsV]
   exact ir2.kept hgrow fun r hr=>Ybg (by decide) (ir2.row r hr) r1
  ·have hs:=hbel.size
   rw[World.size_alloc]at hs
   exact(((hi.bel.trans (((Below.refl _ W).alloc hle _).trans (hbel.mono (by omega)))).setCell (p:=⟨W.heap.size,1,none⟩) hle c).alloc (by rw[World.size_setCell];omega) _).grown hgrow (by simp only[World.size_alloc,World.size_setCell];omega) fun k hk=>(hi.row.lt k hk).1
end
theorem YsY(W:World)(c0 c1 c2 c3:Value)(t:TypeId){b:Nat}(hb:b=W.heap.size): ∀(j:Nat) (u:Value),[c0,c1,c2,c3][j]?=some u->(W.alloc (.cells #[c0,c1,c2,c3] t)).cell? ((⟨b,0,none⟩:Addr).add j)=some u:=by
  intro j u hj
  subst hb
  have h:=World.alloc_heap_new W (.cells #[c0,c1,c2,c3] t)
  match j with
  |0=>injection hj with hj;subst hj;rw[show(⟨W.heap.size,0,none⟩:Addr).add 0=⟨W.heap.size,0,none⟩from rfl];simp only[World.cell?,h];rfl
  |1=>injection hj with hj;subst hj;rw[show(⟨W.heap.size,0,none⟩:Addr).add 1=⟨W.heap.size,1,none⟩from rfl];simp only[World.cell?,h];rfl
  |2=>injection hj with hj;subst hj;rw[show(⟨W.heap.size,0,none⟩:Addr).add 2=⟨W.heap.size,2,none⟩from rfl];simp only[World.cell?,h];rfl
  |3=>injection hj with hj;subst hj;rw[show(⟨W.heap.size,0,none⟩:Addr).add 3=⟨W.heap.size,3,none⟩from rfl];simp only[World.cell?,h];rfl
  |j+4=>cases hj
structure Stop(p:Prop):Prop where
  h:p
theorem stopHere{p:Prop}(h:Stop p):p:=h.h
theorem YkZ{F:Fence}{n:Nat}{P:Program}(w:World){ops:Array Oper}{rest:List Oper}{o:Oper}{a:Act}{Q:Exit->Act->World->Prop}
    (hg:o.guard=none) (l c:Operand) (t:TypeId) (hop:o.op=Op.makeSlice t l c)
    (base:Nat) (e:TypeId) (i:TypeInfo) (z:Value) (size:Nat) (h1:P.underlying t=some (.slice e)) (h2:P.info? e=some i) (h3:i.zero=some z) (h4:i.size=size)
    (kl kc:IntKind) (m:Nat) (hl:a.eval l= .int kl (m:Int)) (hc:a.eval c= .int kc (m:Int)) (b2:i.bytes*m<=281474976710656) (b3:m<=maxLen) (b4:base<=w.heap.size)
    (hK: ∀w',w'.ownsRow base e size (.slice (some ⟨w.heap.size,0,none⟩) m m) m (madeCells z.cells (m*size)).toList->w.grownBy w' none->wpListIn F n P ops Q rest (a.put o.dst (.slice (some ⟨w.heap.size,0,none⟩) m m)) w'):
    wpListIn F n P ops Q (o::rest) a w:=by
  refine wpListIn_plain hg fun K hK'=> ?_
  obtain⟨w',hrun,r1,r2⟩:=run_make_full (P:=P) w base t e i z size h1 h2 h3 h4 kl kc m b2 b3 b4
  unfold Oper.wpIn
  refine⟨?_,?_⟩
  ·simp[Oper.about,hop]
  ·rw[Oper.semAt_plain F _ _ (by rw[hop];intro c hc';cases hc')]
   simp[execOp,hop,hl,hc,hrun,Result.andThen]
   exact hK' _ _ (hK w' r1 r2)
theorem YbQ{W:World}{b:Nat}{e:TypeId}{sz n cap:Nat}{A:Option Addr}{xs:List Value}(h:W.ownsRow b e sz (.slice A n cap) n xs)(hn:0<n): ∃g,A=some ⟨g,0,none⟩/\b<=g:=by
  rcases h.2 with⟨_,e⟩| ⟨g,cap',cur,e,e1,_⟩
  ·omega
  ·injection e with e;exact⟨g,e,e1⟩
theorem Ycr: ∀(ps:List (Dv×Value)) (i j:Nat) (p:Dv×Value),ps[i]?=some p->j<4->(rowsV ps)[i*4+j]?=(dvV p.1 p.2)[j]?
  | [],_,_,_,h,_=>by simp at h
  |q::ps,0,j,p,h,hj=>by
   simp only[List.getElem?_cons_zero,Option.some.injEq]at h
   subst h
   have e:rowsV (q::ps)=dvV q.1 q.2++rowsV ps:=by simp[rowsV]
   rw[e,Nat.zero_mul,Yxx,YwU (by simpa[dvV]using hj)]
  |q::ps,i+1,j,p,h,hj=>by
   have e:rowsV (q::ps)=dvV q.1 q.2++rowsV ps:=by simp[rowsV]
   have hl:(dvV q.1 q.2).length=4:=rfl
   rw[e,Yw0 (by omega),hl,show(i+1)*4+j-4=i*4+j by omega]
   exact Ycr ps i j p (by simpa using h) hj
theorem row4{W:World}{b g n cap:Nat}{ps:List (Dv×Value)}(h:W.ownsRow b 47 4 (.slice (some ⟨g,0,none⟩) n cap) n (rowsV ps)){i:Nat}(hi:i<n){d:Dv}{c:Value}(hp:ps[i]?=some (d,c)):
    W.cell? ⟨g,i*4,none⟩=some (.int .i64 d.1)/\W.cell? ⟨g,i*4+1,none⟩=some c/\W.cell? ⟨g,i*4+2,none⟩=some (.int .u32 d.2.2.1)/\W.cell? ⟨g,i*4+3,none⟩=some (.int .u32 d.2.2.2):=
  ⟨(h.cellAt _ (by omega)).trans (Ycr ps i 0 _ hp (by omega)),(h.cellAt _ (by omega)).trans (Ycr ps i 1 _ hp (by omega)),(h.cellAt _ (by omega)).trans (Ycr ps i 2 _ hp (by omega)),(h.cellAt _ (by omega)).trans (Ycr ps i 3 _ hp (by omega))⟩
def bv(u:List Bool):List Value:=u.map Value.bool
theorem Yc8(u:List Bool)(i:Nat)(h:i<u.length):(bv u)[i]?=some (.bool (u.getD i false)):=by
  simp[bv,YwT,h]
def ResV(W:World)(h0:Nat)(v:Value)(out:List Dv):Prop:=
  (out=[]/\ ∃A c,v= .slice A 0 c)\/ ∃g cap N ps,v= .slice (some ⟨g,0,none⟩) out.length cap/\W.ownsRow h0 47 4 (.slice (some ⟨g,0,none⟩) N cap) N (rowsV ps)/\out.length<=N/\ps.length=N/\ (ps.take out.length).map (·.1)=out/\IR 3 W h0 (irs (ps.take out.length))
structure I2(w:World)(l:List Dv)(v:Value)(ps:List (Dv×Value))(uv:Value)(W:World)(u:List Bool):Prop where
  fst:ps.map (·.1)=l
  row:W.ownsRow w.heap.size 47 4 v l.length (rowsV ps)
  ir:IR 3 W w.heap.size (irs ps)
  ul:u.length=l.length
  us:W.ownsRow w.heap.size 4 1 uv l.length (bv u)
  bel:Below w.heap.size w W
section
variable{w:World}{l:List Dv}{v:Value}{ps:List (Dv×Value)}{uv:Value}{W W':World}{u:List Bool}
theorem I2.at(h:I2 w l v ps uv W u){i:Nat}(hi:i<l.length): ∃A cap,ps[i]?=some (l.getD i dvZ,.slice A (l.getD i dvZ).2.1.length cap)/\W.ownsRow w.heap.size 3 1 (.slice A (l.getD i dvZ).2.1.length cap) (l.getD i dvZ).2.1.length (iv (l.getD i dvZ).2.1):=by
  have hl:ps.length=l.length:=by rw[<-h.fst,YwY]
  obtain⟨p,e1⟩: ∃p,ps[i]?=some p:=⟨_,YwO (by omega)⟩
  have e2:p.1=l.getD i dvZ:=by
    rw[YwT,<-h.fst,YwR,e1];rfl
  have hm:(p.2,p.1.2.1)∈irs ps:=Yw3.2 ⟨p,YwQ e1,rfl⟩
  have hr:=h.ir.row _ hm
  obtain⟨A,cap,e⟩:=Ybv hr
  obtain⟨d,c⟩:=p
  have e2:d=l.getD i dvZ:=e2
  have e:c= .slice A d.2.1.length cap:=e
  subst e
  rw[<-e2]
  exact⟨A,cap,e1,hr⟩
theorem I2.atp(h:I2 w l v ps uv W u){i:Nat}{d:Dv}{c:Value}(hp:ps[i]?=some (d,c)):W.ownsRow w.heap.size 3 1 c d.2.1.length (iv d.2.1):=
  h.ir.row (c,d.2.1) (Yw3.2 ⟨_,YwQ hp,rfl⟩)
theorem I2.alloc(h:I2 w l v ps uv W u)(o:Obj):I2 w l v ps uv (W.alloc o) u:=
  ⟨h.fst,h.row.alloc o,h.ir.keep0 (World.grownBy_alloc W o none),h.ul,h.us.alloc o,h.bel.alloc h.bel.size o⟩
theorem I2.set{gu cap:Nat}(h:I2 w l v ps (.slice (some ⟨gu,0,none⟩) l.length cap) W u)(j:Nat)(x:Bool):I2 w l v ps (.slice (some ⟨gu,0,none⟩) l.length cap) (W.setCell ⟨gu,j,none⟩ (.bool x)) (u.set j x):=by
  obtain⟨s1,s2⟩:=h.us.stored j (.bool x)
  refine⟨h.fst,h.row.kept s2 (Ybg (by decide) h.row h.us),h.ir.kept s2 fun r hr=>Ybg (by decide) (h.ir.row r hr) h.us,by rw[Yw5];exact h.ul,?_,h.bel.setCell (h.us.lt gu rfl).1 _⟩
  rw[show bv (u.set j x)=(bv u).set j (.bool x) by simp only[bv,List.map_set]]
  exact s1
theorem I2.res(h:I2 w l v ps uv W u):ResV W w.heap.size v l:=by
  have hl:ps.length=l.length:=by rw[<-h.fst,YwY]
  by_cases e:l=[]
  ·subst e
   obtain⟨A,c,rfl⟩:=Ybv h.row
   exact .inl ⟨rfl,A,c,rfl⟩
  ·obtain⟨A,c,rfl⟩:=Ybv h.row
   obtain⟨g,rfl,_⟩:=YbQ h.row (Yxq.2 e)
   exact .inr ⟨g,c,_,ps,rfl,h.row,Yxs _,hl,by rw[List.take_of_length_le (by omega)];exact h.fst,by rw[List.take_of_length_le (by omega)];exact h.ir⟩
end
end Go.Proofs
namespace Go.Proofs
open Go Go.RowKit Go.Shelf Go.Abs
theorem IR.cons{te:TypeId}{W:World}{h0:Nat}{rs:List (Value×List Int)}{v:Value}{xs:List Int}(h:IR te W h0 rs)(hv:W.ownsRow h0 te 1 v xs.length (iv xs))(hne: ∀r∈rs,∀k,r.1.ownBlock=some k->v.ownBlock≠some k):IR te W h0 ((v,xs)::rs):=by
  refine⟨fun r hr=> ?_,List.pairwise_cons.2 ⟨fun r hr=> ?_,h.ne⟩⟩
  ·rcases Yw2.1 hr with rfl|hr
   ·exact hv
   ·exact h.row r hr
  ·cases e:v.ownBlock with
   |none=>exact .inl rfl
   |some k=>exact .inr fun e2=>hne r hr k e2.symm e
theorem Yf5{W:World}{b:Nat}{e:TypeId}{sz n cap:Nat}{A:Option Addr}{xs:List Value}(h:W.ownsRow b e sz (.slice A n cap) n xs):n<=cap:=by
  rcases h.2 with⟨_,e⟩| ⟨g,cap',cur,e,_,_,e1,_⟩
  ·omega
  ·injection e with _ _ e;omega
theorem Yc9(a b:List (Dv×Value)):irs (a++b)=irs a++irs b:=Yxk ..
theorem Yk9: ∀(ps:List (Dv×Value)) (n:Nat) (d:Dv) (c:Value),n<ps.length->rowsV (ps.set n (d,c))=((((rowsV ps).set (n*4) (.int .i64 d.1)).set (n*4+1) c).set (n*4+2) (.int .u32 d.2.2.1)).set (n*4+3) (.int .u32 d.2.2.2)
  | [],_,_,_,h=>by simp at h
  |q::ps,0,d,c,_=>by
   have e:rowsV (q::ps)=dvV q.1 q.2++rowsV ps:=by simp[rowsV]
   have e2:rowsV ((q::ps).set 0 (d,c))=dvV d c++rowsV ps:=by simp[rowsV]
   rw[e,e2];rfl
  |q::ps,n+1,d,c,h=>by
   have e:rowsV (q::ps)=dvV q.1 q.2++rowsV ps:=by simp[rowsV]
   have e2:rowsV ((q::ps).set (n+1) (d,c))=dvV q.1 q.2++rowsV (ps.set n (d,c)):=by simp[rowsV]
   have hl:(dvV q.1 q.2).length=4:=rfl
   rw[e,e2,Yk9 ps n d c (by simpa using h),show(n+1)*4=n*4+4 by omega]
   have st: ∀(xs:List Value) (j:Nat) (v:Value),(dvV q.1 q.2++xs).set (j+4) v=dvV q.1 q.2++xs.set j v:=fun xs j v=>by
     rw[List.set_append_right _ _ (by rw[hl];omega),hl,Nat.add_sub_cancel]
   rw[st,show n*4+4+1=(n*4+1)+4 by omega,st,show n*4+4+2=(n*4+2)+4 by omega,st,show n*4+4+3=(n*4+3)+4 by omega,st]
structure I3(w:World)(l:List Dv)(v uv nv:Value)(u:List Bool)(W:World)(k:Nat)(ps:List (Dv×Value))(num:List Int)(acc:List Dv):Prop where
  kl:k<=l.length
  nk:acc.length<=k
  pl:ps.length=l.length
  nl:num.length=l.length
  ul:u.length=l.length
  rest:(ps.drop k).map (·.1)=l.drop k
  front:(ps.take acc.length).map (·.1)=acc
  row:W.ownsRow w.heap.size 47 4 v l.length (rowsV ps)
  us:W.ownsRow w.heap.size 4 1 uv l.length (bv u)
  ir:IR 3 W w.heap.size ((nv,num)::irs (ps.take acc.length++ps.drop k))
  sel:sel u k (l.drop k) num acc=YtQ l
  bel:Below w.heap.size w W
structure I3m(w:World)(l:List Dv)(v uv nv:Value)(u:List Bool)(k n:Nat)(ps:List (Dv×Value))(num:List Int)(B:Nat)(d:Dv)(c:Value)(xs:List Int)(W:World):Prop where
  row:W.ownsRow w.heap.size 47 4 v l.length (rowsV ps)
  us:W.ownsRow w.heap.size 4 1 uv l.length (bv u)
  ir:IR 3 W w.heap.size ((nv,num)::irs (ps.take n)++(c,xs)::irs (ps.drop (k+1)))
  bel:Below w.heap.size w W
  box:W.heap[B]?=some (.cells #[.int .i64 d.1,c,.int .u32 d.2.2.1,.int .u32 d.2.2.2] 47 (0,0))
section
variable{w:World}{l:List Dv}{v uv nv:Value}{u:List Bool}{W:World}{k n:Nat}{ps:List (Dv×Value)}{num:List Int}{acc:List Dv}{B:Nat}{d:Dv}{c:Value}{xs:List Int}
theorem I3.start(h:I2 w l v ps uv W u)(hm:marks l l.length (List.replicate l.length false)=some u){W':World}(hg:W.grownBy W' none)
    (hn:W'.ownsRow w.heap.size 3 1 (.slice (some ⟨W.heap.size,0,none⟩) l.length l.length) l.length (iv (List.replicate l.length 0))):
    I3 w l v uv (.slice (some ⟨W.heap.size,0,none⟩) l.length l.length) u W' 0 ps (List.replicate l.length 0) []:=by
  have hl:ps.length=l.length:=by rw[<-h.fst,YwY]
  refine⟨Yxz _,Yxs _,hl,List.length_replicate,h.ul,by simpa using h.fst,rfl,h.row.kept hg Yey,h.us.kept hg Yey,?_,?_,h.bel.grown hg h.bel.size (fun k e=>by cases e)⟩
  ·refine IR.cons (by simpa using h.ir.keep0 hg) (by rw[List.length_replicate];exact hn) fun r hr k hk e=> ?_
   simp only[Value.ownBlock,Option.some.injEq]at e
   have:=h.ir.lt r (by simpa using hr) k hk
   omega
  ·rw[List.drop_zero]
   simp only[YtQ,hm]
theorem I3.at(h:I3 w l v uv nv u W k ps num acc)(hk:k<l.length): ∃A cap,ps[k]?=some (l.getD k dvZ,.slice A (l.getD k dvZ).2.1.length cap)/\ps.drop k=(l.getD k dvZ,.slice A (l.getD k dvZ).2.1.length cap)::ps.drop (k+1):=by
  have hp:=h.pl
  obtain⟨p,e1⟩: ∃p,ps[k]?=some p:=⟨_,YwO (by omega)⟩
  have ed:ps.drop k=p::ps.drop (k+1):=by
    rw[Yxm (by omega)]
    rw[YwO (by omega)]at e1
    injection e1 with e1;rw[e1]
  have e2:p.1=l.getD k dvZ:=by
    have:=h.rest
    rw[ed,Yxm hk,YwS]at this
    injection this with this _
    rw[this,YwT,YwO hk];rfl
  have hm:(p.2,p.1.2.1)∈ (nv,num)::irs (ps.take acc.length++ps.drop k):=Yxj _ (Yw3.2 ⟨p,Yxi.2 (.inr (by rw[ed];exact Yw6 ..)),rfl⟩)
  obtain⟨A,cap,e⟩:=Ybv (h.ir.row _ hm)
  obtain⟨d,c⟩:=p
  have e2:d=l.getD k dvZ:=e2
  have e:c= .slice A d.2.1.length cap:=e
  subst e
  rw[<-e2]
  exact⟨A,cap,e1,ed⟩
theorem I3.skip(h:I3 w l v uv nv u W k ps num acc)(hk:k<l.length)(hu:u.getD k false=false)(o:Obj):I3 w l v uv nv u (W.alloc o) (k+1) ps num acc:=by
  obtain⟨A,cap,e1,ed⟩:=h.at hk
  have hdl:l.drop k=l.getD k dvZ::l.drop (k+1):=by
    rw[Yxm hk];simp[YwT,hk]
  refine⟨hk,Nat.le_succ_of_le h.nk,h.pl,h.nl,h.ul,?_,h.front,h.row.alloc o,h.us.alloc o,?_,?_,h.bel.alloc h.bel.size o⟩
  ·have:=h.rest
   rw[ed,hdl,YwS]at this
   injection this
  ·refine(h.ir.keep0 (World.grownBy_alloc W o none)).sub (List.Sublist.cons_cons _ ?_)
   rw[Yc9,Yc9,ed]
   exact List.Sublist.append_left (List.sublist_cons_self _ _) _
  ·have:=h.sel
   rw[hdl]at this
   simpa only[Go.Abs.sel,hu,Bool.false_eq_true,if_false]using this
theorem I3.mid(h:I3 w l v uv nv u W k ps num acc){p:Value}(hd:ps.drop k=(d,p)::ps.drop (k+1)):I3m w l v uv nv u k acc.length ps num W.heap.size d p d.2.1 (W.alloc (.cells #[.int .i64 d.1,p,.int .u32 d.2.2.1,.int .u32 d.2.2.2] 47)):=by
  refine⟨h.row.alloc _,h.us.alloc _,?_,h.bel.alloc h.bel.size _,World.alloc_heap_new W _⟩
  have:=h.ir.keep0 (World.grownBy_alloc W (.cells #[.int .i64 d.1,p,.int .u32 d.2.2.1,.int .u32 d.2.2.2] 47) none)
  rw[Yc9,hd]at this
  exact this
theorem I3m.alloc(h:I3m w l v uv nv u k n ps num B d c xs W)(o:Obj):I3m w l v uv nv u k n ps num B d c xs (W.alloc o):=
  ⟨h.row.alloc o,h.us.alloc o,h.ir.keep0 (World.grownBy_alloc W o none),h.bel.alloc h.bel.size o,(Below.heap_alloc _ _ _ (YxT.1 h.box).1).trans h.box⟩
theorem I3m.crow(h:I3m w l v uv nv u k n ps num B d c xs W):W.ownsRow w.heap.size 3 1 c xs.length (iv xs):=h.ir.row (c,xs) (Yxi.2 (.inr (Yw6 ..)))
theorem I3m.nrow(h:I3m w l v uv nv u k n ps num B d c xs W):W.ownsRow w.heap.size 3 1 nv num.length (iv num):=h.ir.row (nv,num) (Yw6 ..)
theorem Yla{te:TypeId}{h0 m g cap:Nat}{ys:List Value}{cs:Array Value}(hb:W.heap[B]?=some (.cells cs 47 (0,0)))(hr:W.ownsRow h0 te 1 (.slice (some ⟨g,0,none⟩) m cap) m ys)(ht:te≠47)(j:Nat)(x:Value):(W.setCell ⟨g,j,none⟩ x).heap[B]?=some (.cells cs 47 (0,0)):=by
  rcases YkX ht hr hb with e|e
  ·cases e
  ·rw[Below.heap_setCell W _ x B (fun e2=>e (by rw[e2];rfl))];exact hb
theorem I3m.cset{g m cap:Nat}(h:I3m w l v uv nv u k n ps num B d (.slice (some ⟨g,0,none⟩) m cap) xs W)(hm:m=xs.length)(j:Nat)(x:Int):I3m w l v uv nv u k n ps num B d (.slice (some ⟨g,0,none⟩) m cap) (xs.set j x) (W.setCell ⟨g,j,none⟩ (.int .i64 x)):=by
  subst hm
  have s2:=(h.crow.stored j (.int .i64 x)).2
  exact⟨h.row.kept s2 (Ybg (by decide) h.row h.crow),h.us.kept s2 (Ybg (by decide) h.us h.crow),h.ir.set j x,h.bel.setCell (h.crow.lt g rfl).1 _,Yla h.box h.crow (by decide) j _⟩
theorem I3m.nset{g m cap:Nat}(h:I3m w l v uv (.slice (some ⟨g,0,none⟩) m cap) u k n ps num B d c xs W)(hm:m=num.length)(j:Nat)(x:Int):I3m w l v uv (.slice (some ⟨g,0,none⟩) m cap) u k n ps (num.set j x) B d c xs (W.setCell ⟨g,j,none⟩ (.int .i64 x)):=by
  subst hm
  have s2:=(h.nrow.stored j (.int .i64 x)).2
  exact⟨h.row.kept s2 (Ybg (by decide) h.row h.nrow),h.us.kept s2 (Ybg (by decide) h.us h.nrow),IR.set (A:=[]) h.ir j x,h.bel.setCell (h.nrow.lt g rfl).1 _,Yla h.box h.nrow (by decide) j _⟩
theorem I3.next{g cap gn capn:Nat}(h:I3 w l (.slice (some ⟨g,0,none⟩) l.length cap) uv (.slice (some ⟨gn,0,none⟩) l.length capn) u W k ps num acc){W':World}(hk:k<l.length)(hu:u.getD k false=true)
    (h':I3m w l (.slice (some ⟨g,0,none⟩) l.length cap) uv (.slice (some ⟨gn,0,none⟩) l.length capn) u k acc.length ps num B (l.getD k dvZ) c (YtN num (l.getD k dvZ)).2.1 W'):
    I3 w l (.slice (some ⟨g,0,none⟩) l.length cap) uv (.slice (some ⟨gn,0,none⟩) l.length capn) u
      (((((W'.setCell ⟨gn,k,none⟩ (.int .i64 acc.length)).setCell ⟨g,acc.length*4,none⟩ (.int .i64 (l.getD k dvZ).1)).setCell ⟨g,acc.length*4+1,none⟩ c).setCell ⟨g,acc.length*4+2,none⟩ (.int .u32 (l.getD k dvZ).2.2.1)).setCell ⟨g,acc.length*4+3,none⟩ (.int .u32 (l.getD k dvZ).2.2.2))
      (k+1) (ps.set acc.length (YtN num (l.getD k dvZ),c)) (num.set k acc.length) (acc++[YtN num (l.getD k dvZ)]):=by
  have hnk:=h.nk
  have hpl:=h.pl
  have hdl:l.drop k=l.getD k dvZ::l.drop (k+1):=by
    rw[Yxm hk];simp[YwT,hk]
  have e1:(YtN num (l.getD k dvZ)).1=(l.getD k dvZ).1:=by unfold YtN;split<;>rfl
  have e2:(YtN num (l.getD k dvZ)).2.2.1=(l.getD k dvZ).2.2.1:=by unfold YtN;split<;>rfl
  have e3:(YtN num (l.getD k dvZ)).2.2.2=(l.getD k dvZ).2.2.2:=by unfold YtN;split<;>rfl
  have hlen:(acc++[YtN num (l.getD k dvZ)]).length=acc.length+1:=by simp
  have hN:=h'.nset h.nl.symm k acc.length
  obtain⟨a1,a2⟩:=hN.row.stored (acc.length*4) (.int .i64 (l.getD k dvZ).1)
  obtain⟨b1,b2⟩:=a1.stored (acc.length*4+1) c
  obtain⟨c1,c2⟩:=b1.stored (acc.length*4+2) (.int .u32 (l.getD k dvZ).2.2.1)
  obtain⟨d1,d2⟩:=c1.stored (acc.length*4+3) (.int .u32 (l.getD k dvZ).2.2.2)
  have hg:w.heap.size<=g:=(hN.row.lt g rfl).1
  have drop_set:(ps.set acc.length (YtN num (l.getD k dvZ),c)).drop (k+1)=ps.drop (k+1):=by
    rw[List.drop_set,if_pos (by omega)]
  have take_set:(ps.set acc.length (YtN num (l.getD k dvZ),c)).take (acc.length+1)=ps.take acc.length++[(YtN num (l.getD k dvZ),c)]:=by
    rw[List.take_add_one,List.take_set,List.set_eq_of_length_le (by simp;omega),Yw4 (by omega)]
    rfl
  refine⟨hk,by rw[hlen];omega,by rw[Yw5];exact hpl,by rw[Yw5];exact h.nl,h.ul,?_,?_,?_,?_,?_,?_,?_⟩
  ·rw[drop_set]
   have:=h.rest
   obtain⟨A,cap,_,ed⟩:=h.at hk
   rw[ed,hdl,YwS]at this
   injection this
  ·rw[hlen,take_set,Yxk,h.front];rfl
  ·rw[Yk9 _ _ _ _ (by omega),e1,e2,e3]
   exact d1
  ·have ne:=Ybg (by decide:(4:Nat)≠47) hN.us hN.row
   exact(((hN.us.kept a2 ne).kept b2 ne).kept c2 ne).kept d2 ne
  ·rw[hlen,take_set,drop_set,Yw9,Yc9]
   have ne: ∀r∈_,_:=fun r hr=>Ybg (by decide:(3:Nat)≠47) (hN.ir.row r hr) hN.row
   exact(((hN.ir.kept a2 ne).kept b2 ne).kept c2 ne).kept d2 ne
  ·have:=h.sel
   rw[hdl]at this
   simpa only[Go.Abs.sel,hu,if_true]using this
  ·exact(((hN.bel.setCell (p:=⟨g,acc.length*4,none⟩) hg _).setCell (p:=⟨g,acc.length*4+1,none⟩) hg _).setCell (p:=⟨g,acc.length*4+2,none⟩) hg _).setCell (p:=⟨g,acc.length*4+3,none⟩) hg _
theorem I3.next'{g cap gn capn:Nat}(hd:l.getD k dvZ=d)(h:I3 w l (.slice (some ⟨g,0,none⟩) l.length cap) uv (.slice (some ⟨gn,0,none⟩) l.length capn) u W k ps num acc){W':World}(hk:k<l.length)(hu:u.getD k false=true)
    (h':I3m w l (.slice (some ⟨g,0,none⟩) l.length cap) uv (.slice (some ⟨gn,0,none⟩) l.length capn) u k acc.length ps num B d c (YtN num d).2.1 W'):
    I3 w l (.slice (some ⟨g,0,none⟩) l.length cap) uv (.slice (some ⟨gn,0,none⟩) l.length capn) u
      (((((W'.setCell ⟨gn,k,none⟩ (.int .i64 acc.length)).setCell ⟨g,acc.length*4,none⟩ (.int .i64 d.1)).setCell ⟨g,acc.length*4+1,none⟩ c).setCell ⟨g,acc.length*4+2,none⟩ (.int .u32 d.2.2.1)).setCell ⟨g,acc.length*4+3,none⟩ (.int .u32 d.2.2.2))
      (k+1) (ps.set acc.length (YtN num d,c)) (num.set k acc.length) (acc++[YtN num d]):=by
  subst hd
  exact h.next hk hu h'
theorem I3m.drew(h:I3m w l v uv nv u k n ps num B d c xs W):I3m w l v uv nv u k n ps num B d c xs W.drew:=⟨h.row,h.us,⟨h.ir.row,h.ir.ne⟩,h.bel.drew,h.box⟩
theorem Ys7{b g n cap i:Nat}{ys:List Value}(h:W.ownsRow b 47 4 (.slice (some ⟨g,0,none⟩) n cap) n ys)(hi:i<n)(v0 v1 v2:Value):
    (∃x,W.cell? ⟨g,i*4,none⟩=some x)/\ (∃x,(W.setCell ⟨g,i*4,none⟩ v0).cell? ⟨g,i*4+1,none⟩=some x)/\ (∃x,((W.setCell ⟨g,i*4,none⟩ v0).setCell ⟨g,i*4+1,none⟩ v1).cell? ⟨g,i*4+2,none⟩=some x)/\
      (∃x,(((W.setCell ⟨g,i*4,none⟩ v0).setCell ⟨g,i*4+1,none⟩ v1).setCell ⟨g,i*4+2,none⟩ v2).cell? ⟨g,i*4+3,none⟩=some x)/\
      W.frozen? ⟨g,i*4,none⟩=false/\ (W.setCell ⟨g,i*4,none⟩ v0).frozen? ⟨g,i*4+1,none⟩=false/\ ((W.setCell ⟨g,i*4,none⟩ v0).setCell ⟨g,i*4+1,none⟩ v1).frozen? ⟨g,i*4+2,none⟩=false/\
      (((W.setCell ⟨g,i*4,none⟩ v0).setCell ⟨g,i*4+1,none⟩ v1).setCell ⟨g,i*4+2,none⟩ v2).frozen? ⟨g,i*4+3,none⟩=false:=by
  have s0:=(h.stored (i*4) v0).1
  have s1:=(s0.stored (i*4+1) v1).1
  have s2:=(s1.stored (i*4+2) v2).1
  have hl:=h.1
  have key: ∀{W:World} {zs:List Value},W.ownsRow b 47 4 (.slice (some ⟨g,0,none⟩) n cap) n zs-> ∀j,j<n*4-> ∃x,W.cell? ⟨g,j,none⟩=some x:=fun{W zs} h j hj=>by
    rw[h.cellAt j hj]
    exact⟨_,YwO (by rw[h.1];exact hj)⟩
  exact⟨key h _ (by omega),key s0 _ (by omega),key s1 _ (by omega),key s2 _ (by omega),h.frozenAt _,s0.frozenAt _,s1.frozenAt _,s2.frozenAt _⟩
theorem Ys8(F:Int->Int)(f:List Int)(j:Nat)(h:j<f.length):((f.take j).map F++f.drop j).getD j 0=f.getD j 0:=by
  rw[YwT,Yw0 (by simp;omega),YwY,List.length_take,Nat.min_eq_left (by omega),Nat.sub_self,Yxh,Nat.add_zero,YwT]
theorem Ys9(F:Int->Int)(f:List Int)(j:Nat)(h:j<f.length):((f.take j).map F++f.drop j).set j (F (f.getD j 0))=(f.take (j+1)).map F++f.drop (j+1):=by
  rw[List.set_append_right _ _ (by simp;omega),YwY,List.length_take,Nat.min_eq_left (by omega),Nat.sub_self,Yxm h,List.set_cons_zero,List.take_add_one,Yxk,YwO h,Yw9,YwT,YwO h]
  rfl
theorem Yf6(F:Int->Int)(f:List Int)(j:Nat):((f.take j).map F++f.drop j).length=f.length:=by
  simp only[Yxl,YwY,List.length_take,List.length_drop];omega
theorem I3.res{A:Option Addr}{cap:Nat}(h:I3 w l (.slice A l.length cap) uv nv u W l.length ps num acc):YtQ l=acc/\ResV W w.heap.size (.slice A acc.length cap) acc:=by
  have e:YtQ l=acc:=by rw[<-h.sel,List.drop_eq_nil_of_le (Yxs _)];rfl
  refine⟨e,?_⟩
  have hnk:=h.nk
  have hpl:=h.pl
  by_cases h0:acc=[]
  ·subst h0;exact .inl ⟨rfl,A,cap,rfl⟩
  ·have:0<acc.length:=Yxq.2 h0
   obtain⟨g,rfl,_⟩:=YbQ h.row (by omega)
   refine .inr ⟨g,cap,l.length,ps,rfl,h.row,hnk,hpl,h.front,h.ir.sub ?_⟩
   rw[Yc9]
   exact(List.sublist_append_left _ _).cons _
end
end Go.Proofs
namespace Go.Proofs
open Go Go.RowKit Go.Shelf Go.Abs
attribute [local go_sem] Oper.semAt_some
attribute [local go_sem] sa0 sa1 sa2 sa3
theorem Tryd.info3:(Tryd.prog.info? 3).map (fun i=>(i.zero,i.size,i.bytes))=some (some (.int .i64 0),1,8):=by kernel_rfl
theorem Tryd.info4:(Tryd.prog.info? 4).map (fun i=>(i.zero,i.size,i.bytes))=some (some (.bool false),1,1):=by kernel_rfl
set_option maxRecDepth 100000 in
set_option maxHeartbeats 4000000 in
theorem Tryd.prune1{fm:FM}{L:Nat->Go.Abs.Loc}{w:World}{A:Option Addr}{c:Nat}(l:List Dv)(hl:l.length<=65536)(hf: ∀i,(l.getD i dvZ).2.1.length<=65536)(harg:ArgP fm w L A c l):
    Calls Tryd.prog 20 #[.slice A l.length c] w fun e W'=> ∃v,e= .returned v/\Below w.heap.size w W'/\ResV W' w.heap.size v (YtQ l):=by
  refine(callsIn_wide (n:=2)).1 ?_
  refine callsIn_of_wp Tryd.func20 rfl trivial ?_ rfl
  simp only[Tryd.ntmps20,List.size_toArray,Yxe,List.length_nil,Nat.reduceAdd,Nat.reduceSub,Array.replicate_succ,Array.replicate_zero,List.push_toArray,List.append_toArray,Yxd,Yxg]
  have t25:=Tryd.underlying25;have a25:=Tryd.isAgg25;have z25:=Tryd.sizeOf25;have v25:=Tryd.zeroValue25
  have t45:=Tryd.underlying45;have a45:=Tryd.isAgg45;have z45:=Tryd.sizeOf45;have v45:=Tryd.zeroValue45
  have t47:=Tryd.underlying47;have a47:=Tryd.isAgg47;have z47:=Tryd.sizeOf47;have v47:=Tryd.zeroValue47
  have t3:=Tryd.underlying3;have a3:=Tryd.isAgg3;have z3:=Tryd.sizeOf3;have v3:=Tryd.zeroValue3
  have t4:=Tryd.underlying4;have a4:=Tryd.isAgg4;have z4:=Tryd.sizeOf4;have v4:=Tryd.zeroValue4
  gi_wp2
  gi_loopw [3,18] (fun v i wr=> ∃ps,I1 w l v i wr ps) (fun _ i _=>l.length-(intOf i).toNat)
  case atStart=>
    exact⟨[],Yxz _,rfl,rfl,World.ownsRow_nil _ _ _ _,IR.nil,Below.refl _ _⟩
  case round=>
    obtain⟨ps,hi⟩:=hrel
    obtain rfl:=hi.i
    by_cases hk:ps.length<l.length
    ·have hne:l≠ []:=fun e=>by rw[e]at hk;simp at hk
     obtain⟨b,o,rfl,hb,hlc,hcs⟩:=harg hne
     obtain⟨f,hf1,hfv,k0,k1,k2,k3⟩:=hcs ps.length hk
     have c0:wr.cell? ⟨b,o+ps.length*4,none⟩=_:=hi.bel.cell (by exact hb)|>.trans k0
     have c1:wr.cell? ⟨b,o+ps.length*4+1,none⟩=_:=hi.bel.cell (by exact hb)|>.trans k1
     have c2:wr.cell? ⟨b,o+ps.length*4+2,none⟩=_:=hi.bel.cell (by exact hb)|>.trans k2
     have c3:wr.cell? ⟨b,o+ps.length*4+3,none⟩=_:=hi.bel.cell (by exact hb)|>.trans k3
     generalize hd:l.getD ps.length dvZ=d at*
     obtain⟨B,m,cf,rfl⟩: ∃B m cf,f= .slice B m cf:=by
       generalize hq:fromA d=q at hfv
       cases hfv with
       |rd0 A es m=>exact⟨A,0,m,rfl⟩
       |rd b o m es l vals=>exact⟨_,_,m,rfl⟩
       |_=>cases hq
     have hdl:d.2.1.length<=65536:=by rw[<-hd];exact hf _
     gi_wp2_with (first| (refine⟨trivial,?_⟩;refine CallsIn.mono (callsIn_wide.2 (YsS (YsO (hi.bel.alloc hi.bel.size _) hfv (YsR d)) hdl)) ?_;rintro e W1 ⟨v1,rfl,hown,hbel⟩;obtain⟨A1,p1,rfl⟩:=Ybv hown;rw[World.size_alloc]at hown hbel;have hB:W1.heap[wr.heap.size]?=_:=(hbel.block _ (Nat.lt_succ_self _)).trans (World.alloc_heap_new wr _);have e0:W1.cell? ⟨wr.heap.size,0,none⟩=_:=cell_of_row _ _ _ _ _ _ hB;have e1:W1.cell? ⟨wr.heap.size,1,none⟩=_:=cell_of_row _ _ _ _ _ _ hB;have e2:W1.cell? ⟨wr.heap.size,2,none⟩=_:=cell_of_row _ _ _ _ _ _ hB;have e3:W1.cell? ⟨wr.heap.size,3,none⟩=_:=cell_of_row _ _ _ _ _ _ hB;have f0:=fun j=>frozen_of_row W1 wr.heap.size j _ _ hB;clear hB)| (gi_at_builtin;refine stopHere ?_))
     refine⟨?_⟩
     obtain⟨i0,hi0,hz0,hz1,hz2⟩:=info_parts Tryd.info47
     have hmx:65540<=maxLen:=by decide
     have hs1:=hbel.size
     have hs0:=hi.bel.size
     rw[World.size_alloc]at hs1
     refine wpListIn_append_own_at _ rfl _ _ 25 rfl w.heap.size 47 i0 _ 4 40 t25 hi0 hz0 hz1 hz2 rfl (by decide) _ ps.length (rowsV ps) rfl (hi.row1 hbel) ⟨W1.heap.size,0,none⟩ 1 1 (dvV d (.slice A1 d.2.1.length p1)) rfl rfl (YsY _ _ _ _ _ _ (by simp only[World.size_setCell])) ?h1 (by omega) (by omega) (by simp only[World.size_alloc,World.size_setCell];omega) ?_
     case h1=>
       intro u hu
       simp only[dvV,Yw2,List.not_mem_nil,or_false]at hu
       rcases hu with rfl|rfl|rfl|rfl<;>rfl
     intro v' w1 hown' hgrow hnil hat
     have hI:=hi.push hk hd hbel hown hgrow hown'
     clear hown' hgrow hown hbel hat hnil
     obtain⟨A2,p2,rfl⟩:=Ybv hI.row
     gi_wp2
     exact⟨⟨_,by simpa using hI⟩,by simp only[intOf];omega⟩
    ·have hN:ps.length=l.length:=by have:=hi.len;omega
     have hfst:ps.map (·.1)=l:=by rw[hi.fst,hN];exact List.take_of_length_le (Yxs _)
     have hrow:=hi.row
     rw[hN]at hrow
     obtain⟨A2,p2,rfl⟩:=Ybv hrow
     obtain⟨i4,hi4,hy0,hy1,hy2⟩:=info_parts Tryd.info4
     have t68:=Tryd.underlying68;have a68:=Tryd.isAgg68;have z68:=Tryd.sizeOf68;have v68:=Tryd.zeroValue68
     have hs0:=hi.bel.size
     have hmx:65540<=maxLen:=by decide
     gi_wp2_with (gi_at_make;refine stopHere ?_)
     refine⟨?_⟩
     refine YkZ _ rfl _ _ 68 rfl w.heap.size 4 i4 _ 1 t68 hi4 hy0 hy1 .i64 .i64 l.length rfl rfl (by rw[hy2];omega) (by omega) hs0 ?_
     intro W2 hu2 hg2
     have h2:I2 w l (.slice A2 l.length p2) ps (.slice (some ⟨wr.heap.size,0,none⟩) l.length l.length) W2 (List.replicate l.length false):=
       ⟨hfst,hrow.kept hg2 Yey,hi.ir.keep0 hg2,List.length_replicate,by rw[show bv (List.replicate l.length false)=_ from List.map_replicate ..];rw[Nat.mul_one]at hu2;rw[<-toList_madeCells_one];exact hu2,hi.bel.grown hg2 hs0 (fun k e=>by cases e)⟩
     generalize wr.heap.size=gu at h2
     clear hu2 hg2 hs0
     gi_wp2
     clear hi hk harg
     gi_loopw [7] (fun i wr=> ∃(n:Nat) (u:List Bool),i= .int .i64 ((n:Int)-1)/\n<=l.length/\marks l n u=marks l l.length (List.replicate l.length false)/\I2 w l (.slice A2 l.length p2) ps (.slice (some ⟨gu,0,none⟩) l.length l.length) wr u) (fun i _=>(intOf i+1).toNat)
     case atStart=>exact⟨l.length,_,rfl,Yxs _,rfl,h2⟩
     case round=>
       obtain⟨n,u,rfl,hn,hmk,h2⟩:=hrel
       cases n with
       |zero=>
        have hM:marks l l.length (List.replicate l.length false)=some u:=hmk.symm
        obtain⟨i3,hi3,hx0,hx1,hx2⟩:=info_parts Tryd.info3
        have hs0:=h2.bel.size
        gi_wp2_with (gi_at_make;refine stopHere ?_)
        refine⟨?_⟩
        refine YkZ _ rfl _ _ 45 rfl w.heap.size 3 i3 _ 1 t45 hi3 hx0 hx1 .i64 .i64 l.length rfl rfl (by rw[hx2];omega) (by omega) hs0 ?_
        intro W3 hn3 hg3
        have h3:=I3.start h2 hM hg3 (by rw[Nat.mul_one]at hn3;rw[show iv (List.replicate l.length 0)=_ from List.map_replicate ..,<-toList_madeCells_one];exact hn3)
        have hok:Yuj l:=(Yf2 l _).1 (by rw[hM];simp)
        generalize wr.heap.size=gn at h3
        clear hn3 hg3 hs0 h2 hM hmk
        gi_wp2
        gi_loopw [11,98] (fun n k wr=> ∃(k':Nat) (ps:List (Dv×Value)) (num:List Int) (acc:List Dv),n= .int .i64 acc.length/\k= .int .i64 (k':Int)/\I3 w l (.slice A2 l.length p2) (.slice (some ⟨gu,0,none⟩) l.length l.length) (.slice (some ⟨gn,0,none⟩) l.length l.length) u wr k' ps num acc) (fun _ k _=>l.length-(intOf k).toNat)
        case atStart=>exact⟨0,_,_,_,rfl,rfl,h3⟩
        case round=>
          clear h3
          obtain⟨k,ps,num,acc,rfl,rfl,h3⟩:=hrel
          by_cases hk:k<l.length
          ·obtain⟨g,rfl,hg⟩:=YbQ h3.row (by omega)
           obtain⟨A,cap,hp,hdr⟩:=h3.at hk
           obtain⟨c0,c1,c2,c3⟩:=row4 h3.row hk hp
           have hnk:=h3.nk
           generalize hd:l.getD k dvZ=d at*
           cases hb:u.getD k false with
           |false=>
            have h4:=h3.skip hk hb (.cells #[.int .i64 d.1,.slice A d.2.1.length cap,.int .u32 d.2.2.1,.int .u32 d.2.2.2] 47)
            have cu:(wr.alloc (.cells #[.int .i64 d.1,.slice A d.2.1.length cap,.int .u32 d.2.2.1,.int .u32 d.2.2.2] 47)).cell? ⟨gu,k,none⟩=_:=(h4.us.cellAt k (by omega)).trans (Yc8 u k (by rw[h4.ul];exact hk))
            rw[hb]at cu
            gi_wp2
            exact⟨⟨k+1,ps,num,acc,rfl,by simp,h4⟩,by simp only[intOf];omega⟩
           |true=>
            have hmid:=h3.mid hdr
            have cu:(wr.alloc (.cells #[.int .i64 d.1,.slice A d.2.1.length cap,.int .u32 d.2.2.1,.int .u32 d.2.2.2] 47)).cell? ⟨gu,k,none⟩=_:=(hmid.us.cellAt k (by omega)).trans (Yc8 u k (by rw[h3.ul];exact hk))
            rw[hb]at cu
            gi_upto_if 109 with(refine⟨trivial,?_⟩;refine CallsIn.mono (callsIn_wide.2 (YfZ d _ _)) ?_;rintro e W4 ⟨rfl,hW4⟩;have h5:=hW4▸hmid.alloc _;clear hW4)
            clear c0 c1 c2 c3 cu hmid
            generalize hB:wr.heap.size=B at h5
            generalize hr:YtJ d=rd
            have hokk:Hid (rd=true-> ∀x∈d.2.1,0<=x/\x< (k:Int)):=fun e x hx=>hok k hk (by rw[hd,hr];exact e) x (by rw[hd];exact hx)
            gi_cut []from 141 (fun wr=>I3m w l (.slice (some ⟨g,0,none⟩) l.length p2) (.slice (some ⟨gu,0,none⟩) l.length l.length) (.slice (some ⟨gn,0,none⟩) l.length l.length) u k acc.length ps num B d (.slice A d.2.1.length cap) (YtN num d).2.1 wr)
            case first=>
              cases rd with
              |false=>
               gi_wp2
               gi_meet
               case rel=>
                 rw[show YtN num d=d by unfold YtN;rw[if_neg (by rw[hr];simp)]]
                 exact h5
              |true=>
               have hokk2:Hid (∀x∈d.2.1,0<=x/\x< (k:Int)):=hokk.out rfl
               clear hokk
               have b1:W4.cell? ⟨B,1,none⟩=_:=cell_of_row _ _ _ _ _ _ h5.box
               gi_wp2
               clear b1
               gi_loopw [113] (fun j wr=> ∃(j':Nat),j= .int .i64 (j':Int)/\j'<=d.2.1.length/\I3m w l (.slice (some ⟨g,0,none⟩) l.length p2) (.slice (some ⟨gu,0,none⟩) l.length l.length) (.slice (some ⟨gn,0,none⟩) l.length l.length) u k acc.length ps num B d (.slice A d.2.1.length cap) ((d.2.1.take j').map (fun x=>num.getD x.toNat 0)++d.2.1.drop j') wr) (fun j _=>d.2.1.length-(intOf j).toNat)
               case atStart=>exact⟨0,rfl,Yxz _,h5⟩
               case round=>
                 clear h5
                 obtain⟨j,rfl,hj,h5⟩:=hrel
                 have hdl:d.2.1.length<=65536:=by rw[<-hd];exact hf k
                 by_cases hlt:j<d.2.1.length
                 ·have hc:=h5.crow
                  rw[Yf6]at hc
                  obtain⟨gc,rfl,_⟩:=YbQ hc (by omega)
                  have cj:wr.cell? ⟨gc,j,none⟩=_:=(hc.cellAt j (by omega)).trans (Yc7 _ j (by rw[Yf6];exact hlt))
                  rw[Ys8 _ _ _ hlt]at cj
                  have hx:=hokk2.out (d.2.1.getD j 0) (by rw[YwT,YwO hlt];exact Yxa hlt)
                  have hst:=h5.drew.cset (Yf6 _ _ _).symm j (num.getD (d.2.1.getD j 0).toNat 0)
                  rw[Ys9 (fun x=>num.getD x.toNat 0) _ _ hlt]at hst
                  generalize d.2.1.getD j 0=x at cj hx hst
                  obtain⟨y,rfl⟩: ∃y:Nat,x=(y:Int):=⟨x.toNat,by omega⟩
                  have hyk:y<k:=by omega
                  rw[YxR]at hst
                  have hnl:=h3.nl
                  have hnr:=h5.nrow
                  rw[hnl]at hnr
                  have cn:wr.cell? ⟨gn,y,none⟩=_:=(hnr.cellAt y (by omega)).trans (Yc7 num y (by omega))
                  have fc:=hc.frozenAt j
                  have b1:wr.cell? ⟨B,1,none⟩=_:=cell_of_row _ _ _ _ _ _ h5.box
                  have cj':wr.drew.cell? ⟨gc,j,none⟩=_:=cj
                  have cn':wr.drew.cell? ⟨gn,y,none⟩=_:=cn
                  have fc':wr.drew.frozen? ⟨gc,j,none⟩=_:=fc
                  have b1':wr.drew.cell? ⟨B,1,none⟩=_:=b1
                  have hmo:Tryd.prog.follows .mixedOrders=true:=by kernel_rfl
                  gi_wp2
                  gi_region_o
                  all_goals gi_wp2
                  all_goals exact⟨⟨j+1,by simp,hlt,hst⟩,by simp only[intOf];omega⟩
                 ·have hj2:j=d.2.1.length:=by omega
                  subst hj2
                  gi_wp2
                  gi_meet
                  case rel=>
                    rw[show(YtN num d).2.1=d.2.1.map fun x=>num.getD x.toNat 0 by unfold YtN;rw[if_pos hr]]
                    rw[List.take_of_length_le (Yxs _),List.drop_eq_nil_of_le (Yxs _),List.append_nil]at h5
                    exact h5
            case rest=>
              clear h5
              have hnl:=h3.nl
              have hN:=hcut.nset hnl.symm k acc.length
              have hnr:=hcut.nrow
              rw[hnl]at hnr
              have cn:wc.cell? ⟨gn,k,none⟩=_:=(hnr.cellAt k (by omega)).trans (Yc7 num k (by omega))
              have fn:=hnr.frozenAt k
              have b0:=cell_of_row _ _ 0 _ _ _ hN.box
              have b1:=cell_of_row _ _ 1 _ _ _ hN.box
              have b2:=cell_of_row _ _ 2 _ _ _ hN.box
              have b3:=cell_of_row _ _ 3 _ _ _ hN.box
              obtain⟨⟨x0,e0⟩,⟨x1,e1⟩,⟨x2,e2⟩,⟨x3,e3⟩,f0,f1,f2,f3⟩:=Ys7 (i:=acc.length) hN.row (by omega) (.int .i64 d.1) (.slice A d.2.1.length cap) (.int .u32 d.2.2.1)
              gi_wp2
              all_goals exact⟨⟨k+1,_,_,_,by simp,by simp,h3.next' hd hk hb hcut⟩,by simp only[intOf];omega⟩
          ·have hk2:k=l.length:=by have:=h3.kl;omega
           subst hk2
           have hnk:=h3.nk
           obtain⟨q1,q2⟩:=h3.res
           have hout: ∃v,Ending.returned (.slice A2 acc.length p2)= .returned v/\Below w.heap.size w wr/\ResV wr w.heap.size v (YtQ l):=⟨_,rfl,h3.bel,by rw[q1];exact q2⟩
           have hcap:=Yf5 h3.row
           gi_wp2
           all_goals(refine bodyPost_ret (v:=.slice A2 acc.length p2) (by simp[results,Tryd.results20,go_sem,a25,z25]) rfl hout)
       |succ m=>
        rw[show((m+1:Nat):Int)-1=(m:Int) by omega]
        have hm:m<l.length:=hn
        obtain⟨g,rfl,hg⟩:=YbQ h2.row (by omega)
        obtain⟨A,cap,hp,hc⟩:=h2.at hm
        obtain⟨c0,c1,c2,c3⟩:=row4 h2.row hm hp
        have cu:wr.cell? ⟨gu,m,none⟩=_:=(h2.us.cellAt m (by omega)).trans (Yc8 u m (by rw[h2.ul];exact hm))
        have fu:=h2.us.frozenAt m
        gi_upto_region 12 with gi_in
        gi_cut []from 141 (fun wr=>I2 w l (.slice (some ⟨g,0,none⟩) l.length p2) ps (.slice (some ⟨gu,0,none⟩) l.length l.length) wr (u.set m (u.getD m false||decide (m+1=l.length))))
        case first=>
          clear c0 c1 c2 c3 hp hc
          cases hb:u.getD m false with
          |true=>
           rw[hb]at cu
           gi_wp2
           gi_meet
           case rel=>rw[hb];exact h2.set m true
          |false=>
           rw[hb]at cu
           gi_wp2
           gi_meet
           case rel=>
             rw[hb,Bool.false_or,show decide (m+1=l.length)=((m:Int)==(l.length:Int)-1) by rw[YxN];simp;omega]
             exact h2.set m _
        case rest=>
          clear c0 c1 c2 c3 cu fu hc h2
          have hmk1:YxD (Yvl l m (u.set m (u.getD m false||decide (m+1=l.length)))) (marks l m)=marks l l.length (List.replicate l.length false):=hmk
          clear hmk
          generalize u.set m (u.getD m false||decide (m+1=l.length))=u1 at hcut hmk1
          obtain⟨c0,c1,c2,c3⟩:=row4 hcut.row hm hp
          generalize hd:l.getD m dvZ=d at*
          cases hr:YtJ d with
          |false=>
           have hms:Yvl l m u1=some u1:=by unfold Yvl;rw[hd,if_neg (by rw[hr];simp)]
           rw[hms,YxG]at hmk1
           gi_wp2_with (refine⟨trivial,?_⟩;refine CallsIn.mono (callsIn_wide.2 (YfZ d _ _)) ?_;rintro e W4 ⟨he,hW4⟩;rw[hr]at he;subst he;have h4:=hW4▸hcut.alloc _;clear hW4)
           exact⟨⟨m,u1,rfl,by omega,hmk1,h4⟩,by simp only[intOf];omega⟩
          |true=>
           have hms:Yvl l m u1=Yuw m d.2.1 u1:=by unfold Yvl;rw[hd,if_pos hr]
           rw[hms]at hmk1
           gi_wp2_with (refine⟨trivial,?_⟩;refine CallsIn.mono (callsIn_wide.2 (YfZ d _ _)) ?_;rintro e W4 ⟨he,hW4⟩;rw[hr]at he;subst he;have h4:=hW4▸hcut.alloc _;clear hW4;have d1:=(row4 h4.row hm hp).2.1)
           clear c0 c1 c2 c3 d1 hcut
           gi_loopw [67] (fun k wr=> ∃(j:Nat) (u':List Bool),k= .int .i64 (j:Int)/\j<=d.2.1.length/\Yuw m (d.2.1.drop j) u'=Yuw m d.2.1 u1/\I2 w l (.slice (some ⟨g,0,none⟩) l.length p2) ps (.slice (some ⟨gu,0,none⟩) l.length l.length) wr u') (fun k _=>d.2.1.length-(intOf k).toNat)
           case atStart=>exact⟨0,u1,rfl,Yxz _,rfl,h4⟩
           case round=>
             clear h4
             obtain⟨j,u',rfl,hj,hmj,h4⟩:=hrel
             have hdl:d.2.1.length<=65536:=by rw[<-hd];exact hf m
             by_cases hlt:j<d.2.1.length
             ·have hc:=h4.atp hp
              obtain⟨gc,rfl,_⟩:=YbQ hc (by omega)
              have cj:wr.cell? ⟨gc,j,none⟩=_:=(hc.cellAt j (by omega)).trans (Yc7 d.2.1 j hlt)
              have hdr:d.2.1.drop j=d.2.1.getD j 0::d.2.1.drop (j+1):=by
                rw[Yxm hlt];simp[YwT,hlt]
              rw[hdr,Yuw]at hmj
              generalize d.2.1.getD j 0=x at cj hmj
              by_cases hx:x<0\/(m:Int)<=x
              ·rw[if_pos hx]at hmj
               have hpr:YtQ l=l:=by
                 unfold YtQ
                 rw[<-hmk1,<-hmj];rfl
               have hout: ∃v,Ending.returned (.slice (some ⟨g,0,none⟩) l.length p2)= .returned v/\Below w.heap.size w wr/\ResV wr w.heap.size v (YtQ l):=⟨_,rfl,h4.bel,by rw[hpr];exact h4.res⟩
               clear hpr hmj hmk1 hms
               gi_wp2
               all_goals(refine bodyPost_ret (v:=.slice (some ⟨g,0,none⟩) l.length p2) (by simp[results,Tryd.results20,go_sem,a25,z25]) rfl hout)
              ·rw[if_neg hx]at hmj
               obtain⟨y,rfl⟩: ∃y:Nat,x=(y:Int):=⟨x.toNat,by omega⟩
               rw[YxR]at hmj
               have hy:y<m:=by omega
               have cy:wr.cell? ⟨gu,y,none⟩=_:=(h4.us.cellAt y (by omega)).trans (Yc8 u' y (by rw[h4.ul];omega))
               have cm:wr.cell? ⟨gu,m,none⟩=_:=(h4.us.cellAt m (by omega)).trans (Yc8 u' m (by rw[h4.ul];omega))
               have fu:=h4.us.frozenAt y
               have hs: ∀x,I2 w l (.slice (some ⟨g,0,none⟩) l.length p2) ps (.slice (some ⟨gu,0,none⟩) l.length l.length) (wr.setCell ⟨gu,y,none⟩ (.bool x)) (u'.set y x):=h4.set y
               generalize hb:u'.getD y false=b at cy hmj
               generalize u'.getD m false=b2 at cm hmj
               cases b with
               |true=>
                gi_wp2
                exact⟨⟨j+1,_,by simp,hlt,hmj,hs true⟩,by simp only[intOf];omega⟩
               |false=>
                gi_wp2
                exact⟨⟨j+1,_,by simp,hlt,hmj,hs b2⟩,by simp only[intOf];omega⟩
             ·have hj2:j=d.2.1.length:=by omega
              subst hj2
              rw[List.drop_eq_nil_of_le (Yxs _),Yuw]at hmj
              rw[<-hmj,YxG]at hmk1
              clear hmj
              gi_wp2
              exact⟨⟨m,u',rfl,by omega,hmk1,h4⟩,by simp only[intOf];omega⟩
end Go.Proofs
namespace Go.Proofs
open Go Go.RowKit Go.Shelf Go.Abs
theorem Yta{α β:Type}{F:α->β}(l:List α)(i:Nat)(a:α)(h:l[i]?=some a):(l.map F)[i]?=some (F a):=by rw[YwR,h];rfl
theorem Ylb(l:List Dv)(i:Nat)(h:i<l.length):(l.map dvC.enc)[i]?=some [.v (.int .i64 (l.getD i dvZ).1),fromA (l.getD i dvZ),.v (.int .u32 (l.getD i dvZ).2.2.1),.v (.int .u32 (l.getD i dvZ).2.2.2)]:=by
  have h1:l[i]?=some (l.getD i dvZ):=by rw[YwT,YwO h];rfl
  exact(Yta (F:=dvC.enc) l i _ h1)
theorem Ytb{fm:FM}{w:World}{L:Nat->Go.Abs.Loc}{x:Value}{l:List Dv}(h:VR fm w L x (.rd 4 (l.map dvC.enc))): ∃A c,x= .slice A l.length c/\ArgP fm w L A c l:=by
  have hlen:(l.map dvC.enc).length=l.length:=YwY ..
  have hmap:=Ylb l
  generalize l.map dvC.enc=m at h hlen hmap
  cases h with
  |rd0 A es c=>
   have h0:l=[]:=YwZ.1 hlen.symm
   subst h0
   exact⟨A,c,rfl,fun h=>absurd rfl h⟩
  |rd b o c es m vals hne hes hes0 hlc hb hbs hc h1 hr=>
   rw[hlen]
   refine⟨_,c,rfl,fun _=>⟨b,o,rfl,hbs,by omega,fun i hi=>⟨vals i 1,h1 i _ 1 _ (hmap i hi) rfl,hr i _ 1 _ (hmap i hi) rfl,?_,?_,?_,?_⟩⟩⟩
   ·have e:=hc i _ 0 _ (hmap i hi) rfl
    rw[Yae (hr i _ 0 _ (hmap i hi) rfl)]at e
    exact e
   ·exact hc i _ 1 _ (hmap i hi) rfl
   ·have e:=hc i _ 2 _ (hmap i hi) rfl
    rw[Yae (hr i _ 2 _ (hmap i hi) rfl)]at e
    exact e
   ·have e:=hc i _ 3 _ (hmap i hi) rfl
    rw[Yae (hr i _ 3 _ (hmap i hi) rfl)]at e
    exact e
theorem Ytc{fm:FM}{W:World}{L:Nat->Go.Abs.Loc}{h0:Nat}(hL: ∀b,YtW L b->b<h0){c:Value}{xs:List Int}(h:W.ownsRow h0 3 1 c xs.length (iv xs)):c.oneCell'=true/\VR fm W L c (.rd 1 (xs.map fI)):=by
  obtain⟨A,cap,rfl⟩:=Ybv h
  refine⟨rfl,?_⟩
  by_cases hx:xs=[]
  ·subst hx;exact .rd0 _ _ _
  have hpos:0<xs.length:=Yxq.2 hx
  obtain⟨g,rfl,hg⟩:=YbQ h hpos
  have hlen:(xs.map fI).length=xs.length:=YwY ..
  have hcap:=Yf5 h
  have hat: ∀(i:Nat) (e:List AV) (j:Nat) (x:AV),(xs.map fI)[i]?=some e->e[j]?=some x->i<xs.length/\j=0/\x= .v (.int .i64 (xs.getD i 0)):=fun i e j x h1 h2=>by
    have hi:i<xs.length:=by have:=(YwP.1 h1).1;rwa[hlen]at this
    rw[YwR,YwO hi]at h1
    simp only[YxF,Option.some.injEq]at h1
    subst h1
    match j with
    |0=>injection h2 with h2;subst h2;exact⟨hi,rfl,by rw[YwT,YwO hi];rfl⟩
    |j+1=>cases h2
  rw[<-hlen]
  refine .rd g 0 cap 1 _ (fun i _=>.int .i64 (xs.getD i 0)) (by simpa using hx) (fun e he=> ?_) (by decide) (by rw[hlen];exact hcap) (fun ho=> ?_) (h.lt g rfl).2 (fun i e j x h1 h2=> ?_) (fun i e j x h1 h2=>rfl) (fun i e j x h1 h2=> ?_)
  ·obtain⟨x,_,rfl⟩:=Yw3.1 he;rfl
  ·have:=hL g ho;omega
  ·obtain⟨hi,rfl,rfl⟩:=hat i e j x h1 h2
   rw[show 0+i*1+0=i by omega]
   exact(h.cellAt i (by omega)).trans (Yc7 xs i hi)
  ·obtain⟨hi,rfl,rfl⟩:=hat i e j x h1 h2
   exact .v _
theorem Ytd{fm:FM}{W:World}{L:Nat->Go.Abs.Loc}{h0:Nat}(hL: ∀b,YtW L b->b<h0){v:Value}{out:List Dv}(h:ResV W h0 v out):VR fm W L v (.rd 4 (out.map dvC.enc)):=by
  rcases h with⟨rfl,A,c,rfl⟩| ⟨g,cap,N,ps,rfl,hrow,hN,hpl,hfst,hir⟩
  ·exact .rd0 _ _ _
  by_cases hx:out=[]
  ·subst hx;exact .rd0 _ _ _
  have hlen:(out.map dvC.enc).length=out.length:=YwY ..
  have hcap:=Yf5 hrow
  have hat: ∀(i:Nat) (e:List AV) (j:Nat) (x:AV),(out.map dvC.enc)[i]?=some e->e[j]?=some x-> ∃c,i<out.length/\j<4/\ps[i]?=some (out.getD i dvZ,c)/\ ∃y,(dvV (out.getD i dvZ) c)[j]?=some y/\y.oneCell'=true/\VR fm W L y x:=fun i e j x h1 h2=>by
    have hi:i<out.length:=by have:=(YwP.1 h1).1;rwa[hlen]at this
    rw[Ylb out i hi]at h1
    injection h1 with h1;subst h1
    obtain⟨⟨d,c⟩,hp⟩: ∃p,ps[i]?=some p:=⟨_,YwO (by omega)⟩
    have hpt:(ps.take out.length)[i]?=some (d,c):=by rw[Yw8,if_pos hi];exact hp
    have hd:d=out.getD i dvZ:=by
      have e1:((ps.take out.length).map (·.1))[i]?=some d:=by rw[YwR,hpt];rfl
      rw[hfst]at e1
      rw[YwT,e1];rfl
    subst hd
    have hm:(c,(out.getD i dvZ).2.1)∈irs (ps.take out.length):=Yw3.2 ⟨_,YwQ hpt,rfl⟩
    obtain⟨k1,k2⟩:=Ytc (fm:=fm) hL (hir.row _ hm)
    match j with
    |0=>injection h2 with h2;subst h2;exact⟨c,hi,by omega,hp,_,rfl,rfl,.v _⟩
    |1=>injection h2 with h2;subst h2;exact⟨c,hi,by omega,hp,_,rfl,k1,k2⟩
    |2=>injection h2 with h2;subst h2;exact⟨c,hi,by omega,hp,_,rfl,rfl,.v _⟩
    |3=>injection h2 with h2;subst h2;exact⟨c,hi,by omega,hp,_,rfl,rfl,.v _⟩
    |j+4=>cases h2
  have hg:h0<=g:=(hrow.lt g rfl).1
  rw[<-hlen]
  have hval: ∀(i:Nat) (e:List AV) (j:Nat) (x:AV),(out.map dvC.enc)[i]?=some e->e[j]?=some x-> ∃y,(rowsV ps)[i*4+j]?=some y/\W.cell? ⟨g,0+i*4+j,none⟩=some y/\y.oneCell'=true/\VR fm W L y x:=fun i e j x h1 h2=>by
    obtain⟨c,hi,hj,hp,y,r1,r2,r3⟩:=hat i e j x h1 h2
    have r4:=(Ycr ps i j _ hp hj).trans r1
    exact⟨y,r4,by rw[Yxx];exact(hrow.cellAt _ (by omega)).trans r4,r2,r3⟩
  refine .rd g 0 cap 4 _ (fun i j=>(rowsV ps).getD (i*4+j) undef) (fun e=>hx (List.map_eq_nil_iff.1 e)) (fun e he=> ?_) (by decide) (by rw[hlen];omega) (fun ho=> ?_) (hrow.lt g rfl).2 (fun i e j x h1 h2=> ?_) (fun i e j x h1 h2=> ?_) (fun i e j x h1 h2=> ?_)
  ·obtain⟨d,_,rfl⟩:=Yw3.1 he;exact Yax dvC d
  ·have:=hL g ho;omega
  ·obtain⟨y,r1,r2,_⟩:=hval i e j x h1 h2
   simp only[YwT,r1,YxI];exact r2
  ·obtain⟨y,r1,r2,r3,_⟩:=hval i e j x h1 h2
   simp only[YwT,r1,YxI];exact r3
  ·obtain⟨y,r1,r2,r3,r4⟩:=hval i e j x h1 h2
   simp only[YwT,r1,YxI];exact r4
theorem Tryd.pruneC{fm:FM}(hcal:YtL Tryd.prog 20=true):YvT Tryd.prog fm 20:=by
  intro g
  rintro args H r H' ⟨n,rfl,rfl,_,_,hR⟩
  refine⟨hcal,fun w L vs hr hsz hv=> ?_⟩
  obtain⟨x,y,tvs,v,h1,h2,h3,rfl,h5,h6,rfl⟩:=hR
  have hl:tvs.length=1:=Yeg h2
  have hfill:=YaV h2
  have key: ∀(x y:List Dv),Yvm x=some y->Sg.fill ⟨[0],[.l dvC],[],.cons (.l dvC) .nil⟩ x=some ⟨zipE [0] tvs,[]⟩->YtU (.l dvC) (unp (.cons (.l dvC) .nil) y)=some (v,[])->
      tvs=[.l dvC x]/\v= .l dvC y/\y=YtQ x/\x.length<=65536/\ ∀d∈x,d.2.1.length<=65536:=by
    intro x y e1 e2 e3
    obtain⟨e0,e1⟩:=Yaa e1
    injection e1 with e1;subst e1
    simp only[YxL,decide_eq_true_eq,Yw1]at e0
    refine⟨Yp1 hl e2,?_,rfl,e0.1,e0.2⟩
    have:some (TV.l dvC (YtQ x),([]:List Lf))=some (v,[]):=e3
    simp_all
  obtain⟨rfl,rfl,rfl,k1,k2⟩:=key x y h1 hfill h5
  obtain⟨l,rfl⟩: ∃l:List Dv,l=x:=⟨x,rfl⟩
  obtain⟨A,c,e,harg⟩:=Ytb (hv 0 _ rfl)
  have hvs:vs= #[.slice A l.length c]:=by
    apply Array.ext
    ·exact hsz
    ·intro i h1 h2
     match i,h2 with
     |0,_=>simpa[YxV h1]using e
  subst hvs
  have hf: ∀i,(l.getD i dvZ).2.1.length<=65536:=fun i=>by
    rw[YwT]
    by_cases hi:i<l.length
    ·rw[YwO hi];exact k2 _ (Yxa hi)
    ·rw[Yw7 (by omega)];simp[dvZ]
  refine(Tryd.prune1 l k1 hf harg).mono ?_
  rintro e W' ⟨v,rfl,hb,hres⟩
  exact⟨v,L,rfl,Yci hb,LStep.refl _ _,hr.mono (Yci hb) (fun b hb' _=>hb.block b hb'),Ytd (fun b ho=>YsQ hr ho) hres⟩
end Go.Proofs
