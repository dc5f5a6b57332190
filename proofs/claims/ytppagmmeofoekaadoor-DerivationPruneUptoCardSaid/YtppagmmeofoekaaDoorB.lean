/- Loops over maps, with what stands behind them: whatever the order of the entries. No condition. -/
import Derived.Test.YtppagmmeofoekaaDoorA3
import Derived.Shelf.Spec.SlicesGrow
import Derived.Laws.AppendOwn
import Derived.Shelf.Strings.Builder1
import Derived.Shelf.Small.Strs
import Derived.Shelf.Strings.Repeat
import Derived.Carry
import Derived.WalkKit
import Derived.ProofKit
import Derived.OpenShut
import Derived.Shelf.Sort.Plain
import Derived.Shelf.Strings.OnBuilder
import Derived.JoinedCond
import Derived.LaidMore
import Derived.Shelf.Slices.CompactI
import Derived.Shelf.Strconv.Itoa4
import Derived.Lib.AppendIntMem
import Derived.Shelf.Strings.Split
import Derived.Shelf.Strconv.ParseIntPublic10
set_option linter.unusedVariables false
set_option linter.unusedSimpArgs false
set_option linter.unusedSectionVars false
open List renaming getElem?_eq_getElem → YwO, getElem?_eq_some_iff → YwP, getElem?_map → YwR, map_cons → YwS, getD_eq_getElem?_getD → YwT, length_map → YwY, length_eq_zero_iff → YwZ, mem_cons → Yw2, getElem?_set_self → Yw4, mem_cons_self → Yw6, getElem?_eq_none → Yw7, ext_getElem? → Yxc, nil_append → Yxd, cons_append → Yxg, mem_cons_of_mem → Yxj, map_append → Yxk
open Nat renaming beq → Yxr, le_refl → Yxs, eq_of_beq_eq_true → Yxt, blt → Yxu, ble → Yxv, lt_of_lt_of_le → Yxw, zero_add → Yxx, le_trans → Yxy, zero_le → Yxz, le_of_ble_eq_true → YxC
open Option renaming bind → YxD
open Bool renaming and_eq_true → YxL, or_eq_true → YxP, and_self → YxQ
open Array renaming getD_eq_getD_getElem? → YxS, getElem?_eq_some_iff → YxT
namespace Go.Abs
open Go Go.RowKit
abbrev ItP:=List Int×List Int×Int×Int×Int
def Yvk(c:Cs)(l:List (Cs.cons (.i .i64) c).den):List Int:= @List.map (Cs.cons (.i .i64) c).den Int (fun x=>fstP c x) l
def itV(it:Nat)(s:VSt):Option ItP:=
 match YtT s.env it with
 | .np i=>match vget s.heap i with
   |some (.st [.np a,.i .i64 s0,.i .i64 t0,.l c sn,_])=>match asL c I64 sn with
    |some sn=>match vget s.heap a with
     |some (.st (.i .i64 n:: .l (.cons (.i .i64) c') l::tags))=>bif Yxr tags.length 1||Yxr tags.length 2 then some (Yvk c' l,sn,n,s0,t0)else none
     |some (.fm (.mp o n) c _ _ l)=>some (Yvk (.cons (kty o) (.cons (.l c) .nil)) l,sn,n,s0,t0)
     |_=>none
    |none=>none
   |_=>none
 |_=>none
def addI(sn:List Int)(b:Int):List Int:=sn++[b]
def Yws(it nx mo:Nat)(b:Int)(s:VSt):Option VSt:=
 match YtT s.env it with
 | .np i=>match vget s.heap i with
   |some (.st [m,s0,t0,.l c sn,tg])=>match asL c I64 sn with
    |some sn=>some ⟨(mo,.b true)::(nx,.u)::s.env,vset s.heap i (some (.st [m,s0,t0,.l I64 (addI sn b),tg]))⟩
    |none=>none
   |_=>none
 |_=>none
def Yvs(mo out:Nat)(bb:VCode):VCode:=.seq (.cond (.t mo) .skip (.exit out)) bb
def itR(g:Sg)(it:Nat)(x:g.c.den):Option ItP:=match g.fill x with|some s=>itV it s|none=>none
def Ywt(T:Tabs)(own:List (Nat×Option Nat×Bool))(g:Sg)(it nx mo out:Nat)(bb:VCode)(x:g.c.den)(b:Int):Option g.c.den:=
 match g.fill x with
 |some s=>match Yws it nx mo b s with
  |some s1=>ev T (Yvs mo out bb) s1 fun e s'=>match e with
   | .nor=>match YuH T.kb g.ts (ownV own s')with| (vs,X)=>g.read vs X
   |_=>none
  |none=>none
 |none=>none
def endR(T:Tabs)(g:Sg)(nx mo out:Nat)(bb rest:VCode)(outs:List Out1)(x:g.c.den):Option (Alt outs):=
 match g.fill x with
 |some s=>ev T (Yvs mo out bb) ⟨(mo,.b false)::(nx,.u)::s.env,s.heap⟩ fun e s'=>match e with
  | .exit id=>bif Yxr id out then ev T rest s' (fun e s''=>outK T.kb outs e s'')else none
  |_=>none
 |none=>none
def preR(T:Tabs)(pre:VCode)(own:List (Nat×Option Nat×Bool))(g0 g:Sg)(x:g0.c.den):Option g.c.den:=
 match g0.fill x with
 |some s=>ev T pre s fun e s'=>match e with
  | .nor=>match YuH T.kb g.ts (ownV own s')with| (vs,X)=>g.read vs X
  |_=>none
 |none=>none
section
variable{A R:Type}
inductive RunR(p:A->ItP)(t:A->Int->Option A)(r:A->Option R)(B:List Int)(c:Int):List Int->A->R->Prop
 |fin {sn:List Int} {x:A} {y:R} (h: ∀b∈B,b∈sn) (hp:p x=(B,sn,c,c,c)) (hr:r x=some y):RunR p t r B c sn x y
 |go {sn:List Int} {x:A} {y:R} (f:Int->A) (hp:p x=(B,sn,c,c,c)) (hb: ∃b∈B,b∉sn) (ht: ∀b∈B,b∉sn->t x b=some (f b))
  (hg: ∀b∈B,b∉sn->RunR p t r B c (sn++[b]) (f b) y):RunR p t r B c sn x y
def Good(p:A->ItP)(t:A->Int->Option A)(r:A->Option R)(x:A)(y:R):Prop:= ∃B c,RunR p t r B c [] x y
open Classical in
noncomputable def rngF(p:A->ItP)(t:A->Int->Option A)(r:A->Option R)(x:A):Option R:=
 if h: ∃y,Good p t r x y then some (Classical.choose h)else none
theorem Ypp{p:A->ItP}{t:A->Int->Option A}{r:A->Option R}{x:A}{y:R}(h:rngF p t r x=some y):Good p t r x y:=by
 unfold rngF at h
 split at h
 ·grind
 trivial
theorem RunR.p{p:A->ItP}{t:A->Int->Option A}{r:A->Option R}{B:List Int}{c:Int}{sn:List Int}{x:A}{y:R}(h:RunR p t r B c sn x y):p x=(B,sn,c,c,c):=by cases h<;>assumption
end
section
variable{Fr:Nat->Prop}{H0:Heap}{T:Tabs}{C:Ctx}
def Yu1(B sn:List Int):Nat:=(B.filter fun b=> !sn.contains b).length
theorem Ypq{B sn:List Int}{b:Int}(h:b∈B)(hn:b∉sn):Yu1 B (sn++[b])<Yu1 B sn:=by
 unfold Yu1
 induction B with
 |nil=>cases h
 |cons a B ih=>
  have hle: ∀B:List Int,(B.filter fun x=> !(sn++[b]).contains x).length<=(B.filter fun x=> !sn.contains x).length:=by
   intro B
   induction B with
   |nil=>simp
   |cons c B ih=>
    grind
  grind
theorem Ypr{bl:List (List AV)}{sn:List Int}(h:Rows bl I64 sn):bl=sn.map fun b=>[.v (.int .i64 b)]:=by
 refine Yxc fun i=> ?_
 rw[YwR]
 cases hi:bl[i]? with
 |none=>
  have:sn[i]?=none:=by
   rw[List.getElem?_eq_none_iff]at hi⊢
   have hl:bl.length=sn.length:=h.1
   omega
  simp_all
 |some e=>
  have hlt:=(YwP.1 hi).1
  have hl:bl.length=sn.length:=h.1
  have hs:sn[i]?=some sn[i]:=YwO (by omega)
  have hcc:=h.2 i e _ hi hs
  rw[hs]
  have h1:=hcc.1
  match e,h1 with
  | [z],_=>
    have:=hcc.2 0 z _ rfl rfl
    rw[show z= .v (.int .i64 sn[i])from YaF this];rfl
theorem Yps{el:List (List AV)}{c:Cs}{l:List (Cs.cons (.i .i64) c).den}(h:Rows el (.cons (.i .i64) c) l):el.map YuV=(Yvk c l).map some:=by
 unfold Yvk
 refine Yxc fun i=> ?_
 rw[YwR,YwR,YwR]
 cases hi:el[i]? with
 |none=>
  have:l[i]?=none:=by
   rw[List.getElem?_eq_none_iff]at hi⊢
   have hl:el.length=l.length:=h.1
   omega
  simp_all
 |some e=>
  have hlt:=(YwP.1 hi).1
  have hl:el.length=l.length:=h.1
  have hs:l[i]?=some l[i]:=YwO (by omega)
  have hcc:=h.2 i e _ hi hs
  rw[hs]
  have h1:=hcc.1
  match e,h1 with
  |z::r,_=>
   have:=hcc.2 0 z _ rfl rfl
   rw[show z= .v (.int .i64 (fstP c l[i]))from YaF this];rfl
theorem Ypt(c:Cs)(l:List (Cs.cons (.i .i64) c).den)(i:Nat):(Yvk c l)[i]?=(l[i]?).map fun x=>fstP c x:=by unfold Yvk;exact YwR
def MapB(X:YtI)(a:Nat)(n:Int)(B:List Int):Prop:=
 (∃c' l tags,vget X a=some (.st (.i .i64 n:: .l (.cons (.i .i64) c') l::tags))/\ (tags.length=1\/tags.length=2)/\B=Yvk c' l)\/
 ∃o c v h l,vget X a=some (.fm (.mp o n) c v h l)/\B=Yvk (.cons (kty o) (.cons (.l c) .nil)) l
theorem Ypu{X:YtI}{pl:Pl}{H:Heap}{a y:Nat}{n:Int}{B:List Int}(hr:HRel Fr H0 X pl H)(h:MapB X a n B)(hp:pl (.m a)=some y): ∃O el tags,H[y]?=some (some O)/\mapO O=some (n,el,tags)/\el.map YuV=B.map some:=by
 rcases h with⟨c',l,tags,h1,h2,rfl⟩| ⟨o,c,v,h,l,h1,rfl⟩
 ·obtain⟨el,at',R0,f8,f9,f10,f11⟩:=YdN hr h1 hp h2
  exact⟨_,el,_,f8,f9,Yps f10⟩
 ·obtain⟨y',el,g1,g2,g3,g4,g6⟩:=hr.obj a _ h1
  rw[hp]at g1;injection g1 with g1;subst g1
  refine⟨_,el,[.v (.bool false)],g2,rfl,?_⟩
  apply Yxc
  intro i
  rw[YwR,YwR]
  refine Eq.trans ?_ (congrArg (Option.map some) (Ypt (.cons (kty o) (.cons (.l c) .nil)) l i).symm)
  show Option.map YuV el[i]?=Option.map some (Option.map (fun x:(mapC o (.l c) .nil).den=>x.1) ((show List (mapC o (.l c) .nil).den from l)[i]?))
  by_cases hi:i<l.length
  ·obtain⟨r,e,_⟩:=Yfn (g6 i _ l[i] (YwO (by omega:i<el.length)) (YwO hi))
   rw[YwO (by omega:i<el.length),e]
   exact congrArg (fun z=>Option.map some (Option.map (fun x:(mapC o (.l c) .nil).den=>x.1) z)) (YwO (l:=(show List (mapC o (.l c) .nil).den from l)) hi).symm
  ·rw[Yw7 (by omega)]
   exact congrArg (fun z=>Option.map some (Option.map (fun x:(mapC o (.l c) .nil).den=>x.1) z)) (Yw7 (l:=(show List (mapC o (.l c) .nil).den from l)) (Nat.le_of_not_lt hi)).symm
theorem Ypv{X:YtI}{a:Nat}{n:Int}{B:List Int}(h:MapB X a n B): ∃o,vget X a=some o:=by
 rcases h with⟨_,_,_,h,_⟩| ⟨_,_,_,_,_,h,_⟩<;>exact⟨_,h⟩
theorem Ypw{it:Nat}{s:VSt}{B sn:List Int}{n s0 t0:Int}(h:itV it s=some (B,sn,n,s0,t0)):
  ∃i a tg,YtT s.env it= .np i/\vget s.heap i=some (.st [.np a,.i .i64 s0,.i .i64 t0,.l I64 sn,tg])/\MapB s.heap a n B:=by
 unfold itV at h
 split at h
 ·rename_i i hi
  split at h
  ·rename_i a s0' t0' c sn' tg ho
   split at h
   ·rename_i sn2 hs
    split at h
    ·rename_i n' c' l tags hm
     obtain⟨e1,e2⟩:=Yaa h
     injection e2 with e2;injection e2 with e3 e2;injection e2 with e4 e2;injection e2 with e5 e2;injection e2 with e6 e7
     subst e3;subst e4;subst e5;subst e6;subst e7
     obtain⟨ec,es⟩:=Yaz hs
     subst ec;subst es
     simp at e1
     exact⟨i,_,_,hi,ho,.inl ⟨_,_,_,hm,e1,rfl⟩⟩
    ·rename_i o n' c' ver hole l hm
     injection h with e2;injection e2 with e3 e2;injection e2 with e4 e2;injection e2 with e5 e2;injection e2 with e6 e7
     subst e3;subst e4;subst e5;subst e6;subst e7
     obtain⟨ec,es⟩:=Yaz hs
     subst ec;subst es
     exact⟨i,_,_,hi,ho,.inr ⟨_,_,_,_,_,hm,rfl⟩⟩
    trivial
   trivial
  trivial
 trivial
theorem Ypx(hT:TOK T C)(hfr:FrOK Fr H0){id it nx mo out:Nat}{own0 own:List (Nat×Option Nat×Bool)}{g0 g:Sg}{outs:List Out1}{pre bb rest:VCode}
  (hl0:LsOK Fr H0 C T pre) (hl1:LsOK Fr H0 C T (Yvs mo out bb)) (hl2:LsOK Fr H0 C T rest)
  {p:g.c.den->ItP} {t:g.c.den->Int->Option g.c.den} {r:g.c.den->Option (Alt outs)} {u:g0.c.den->Option g.c.den} {F:g0.c.den->Option (Alt outs)}
  (hp: ∀x,itR g it x=some (p x)) (ht: ∀x b,Ywt T own g it nx mo out bb x b=t x b) (hr: ∀x,endR T g nx mo out bb rest outs x=r x) (hu: ∀x,preR T pre own g0 g x=u x)
  (hF: ∀x y,F x=some y-> ∃z,u x=some z/\Good p t r z y):
  Yud Fr H0 T.kb C (.seq (.seq pre.er (.blk out (.loop (.seq (.reg [⟨some nx,.px .mnxt [.t it],none,false,false⟩,⟨some mo,.ext (.t nx) 0,none,false,false⟩]) (Yvs mo out bb).er)))) rest.er) ⟨id,own0,g0,outs,F⟩:=by
 intro x0 y hx0 s00 hfill0 q b st hs0
 obtain⟨z,hz,B,c,hrun⟩:=hF x0 y hx0
 rw[<-hu]at hz
 unfold preR at hz
 have hfill0':g0.fill x0=some s00:=hfill0
 rw[hfill0']at hz
 simp only at hz
 let QF:Ex->ASt->Prop:=fun ex st'=> ∃s',altK outs y (fun o z=>o.ex=ex/\o.g.fill z=some s')/\VS Fr H0 (T.kb,q) b s' st'
 refine YdC (YdC (YaC hT hfr hz hl0 hs0 (fun e s' st' g1 g2=> ?_)))
 cases e with
 |exit id'=>trivial
 |ret=>trivial
 |nor=>
 simp only at g1
 show Sat C (.blk out _) _ st'
 cases hkp:YuH T.kb g.ts (ownV own s')with
 |mk vs X=>
 rw[hkp]at g1
 simp only at g1
 obtain⟨hb,hkb,pl,he,hrl,hpk⟩:=g2
 obtain⟨st1,pl1,k1,k2,k3,k4,k8,k9⟩:=YaG (ws:=own) hb he hrl
 obtain⟨pl2,k5,k6,k7,k10⟩:=YcY (env:=(ownV own s').env) (X:=(ownV own s').heap) k3 k4 (Yxy hkb k8) hkp
 refine YhP (YhQ (fun m t=> ∃x sn s,RunR p _ r B c sn x y/\m=Yu1 B sn/\g.fill x=some s/\VS Fr H0 (T.kb,q) b s t)
  ⟨Yu1 B [],st1,⟨z,[],_,hrun,rfl,YaV g1,k2,k7,pl2,k5,k6,fun i hi w hw=>hpk i hi w (k9 i (Yxw hi hkb) w (k10 i hi w hw))⟩,k1⟩ ?_)
 rintro m s1 ⟨x,sn,s,hrn,rfl,hfill,hvs⟩
 have hit:itV it s=some (B,sn,c,c,c):=by
  have:=hp x
  unfold itR at this
  rw[hfill]at this
  rw[hrn.p]at this
  trivial
 obtain⟨i,a,tg,e1,e2,e3⟩:=Ypw hit
 obtain⟨oa,hoa⟩:=Ypv e3
 obtain⟨hb,hkb,pl,he,hrl,hpk⟩:=hvs
 have hti:=he it
 rw[e1]at hti
 obtain⟨yi,f1,f2⟩:=YaB e2 hti
 obtain⟨e,f3,_,f4⟩:=YdL hrl e2 f2
 obtain⟨a0,r1,rfl,q0,f4⟩:=f4.inv
 obtain⟨a1,r2,rfl,q1,f4⟩:=f4.inv
 obtain⟨a2,r3,rfl,q2,f4⟩:=f4.inv
 obtain⟨a3,r4,rfl,q3,f4⟩:=f4.inv
 obtain⟨a4,r5,rfl,q4,f4⟩:=f4.inv
 have:r5=[]:=YwZ.1 f4.1.symm
 subst this
 obtain⟨ya,rfl,f5⟩:=YaB hoa q0
 cases q1;cases q2
 obtain⟨bl,f6,f7⟩:=YdM q3
 obtain⟨O,el,at',f8,f9,hbo⟩:=Ypu hrl e3 f5
 have hbl:=Ypr f7
 refine YdC (Ypo (S:=a3) (tg:=a4) f1 f3 rfl f6 hbl f8 f9 hbo (fun hall=> ?_) (fun bn hbB hbn=> ?_))
 ·
  have hend:r x=some y:=by
   cases hrn with
   |fin _ _ h=>exact h
   |go f _ hb' _ _=>grind
  rw[<-hr]at hend
  unfold endR at hend
  rw[hfill]at hend
  simp only at hend
  show Sat C (Yvs mo out bb).er _ ⟨(mo,.v (.bool false))::(nx,.u)::s1.env,s1.heap,s1.base⟩
  refine YaC hT hfr hend hl1 (b:=b) (q:=q) (st:=⟨(mo,.v (.bool false))::(nx,.u)::s1.env,s1.heap,s1.base⟩) ⟨hb,hkb,pl,Ybr (d:=some mo) (Ybr (d:=some nx) he (.u _)) (.b false),hrl,hpk⟩ (fun e s' st' g1 g2=> ?_)
  cases e with
  |nor=>trivial
  |ret=>trivial
  |exit id'=>
   simp only at g1
   obtain⟨g1,g3⟩:=Yaa g1
   show Ex.blk out _ (.exit id') st'
   have e0:(id'==out)=true:=by simp_all
   simp only[Ex.blk,e0]
   show Sat C rest.er _ st'
   exact YaC hT hfr g3 hl2 g2 (fun e2 s2 st2 g4 g5=>Yeb g4 g5)
 ·
  cases hrn with
  |fin h _ _=>simp_all
  |go f _ _ htt hgg=>
   have h1:=htt bn hbB hbn
   rw[<-ht]at h1
   unfold Ywt at h1
   rw[hfill]at h1
   have hsI:Yws it nx mo bn s=some ⟨(mo,.b true)::(nx,.u)::s.env,vset s.heap i (some (.st [.np a,.i .i64 c,.i .i64 c,.l I64 (addI sn bn),tg]))⟩:=by
    unfold Yws
    simp only[e1,e2]
    rfl
   simp only[hsI]at h1
   obtain⟨m1,m2⟩:=Yb2 (o':=.st [.np a,.i .i64 c,.i .i64 c,.l I64 (addI sn bn),tg]) hrl e2 f2 ⟨5,[[.np ya,.v (.int .i64 c),.v (.int .i64 c),.rd 1 (bl++[[.v (.int .i64 bn)]]),a4]]⟩ rfl rfl (fun _ _ _ _ _ e=>by cases e) (fun _ _ _ _ _ e=>by cases e)
    (fun hx=>⟨yi,_,f2,Yw4 (YwP.1 f3).1,by simp,CT.cons ((TR.np a ya _ hoa f5).ext hx) (CT.cons (.i _ _) (CT.cons (.i _ _) (CT.cons
     (show TR _ _ (.l I64 (addI sn bn)) (.rd 1 (bl++[[.v (.int .i64 bn)]]))from Ybn (c:=I64) (l:=addI sn bn) (YbI (c:=I64) (l:=sn) (m:=[bn]) f7 ⟨rfl,fun j e v h1 h2=>by
      match j,h1,h2 with
      |0,h1,h2=>injection h1 with h1;subst h1;have hv:some bn=some v:=h2;injection hv with hv;subst hv;exact⟨rfl,fun j x x' h1 h2=>by
       match j,h1,h2 with
       |0,h1,h2=>simp[Cs.enc,I64,Ty.enc,fstP]at h1 h2;subst h1;subst h2;exact .refl _
       |j+1,h1,h2=>trivial⟩
      |j+1,h1,h2=>trivial⟩)) (CT.cons (q4.ext hx) CT.nil))))⟩)
   show Sat C (Yvs mo out bb).er _ ⟨(mo,.v (.bool true))::(nx,.u)::s1.env,s1.heap.set yi (some ⟨5,[[.np ya,.v (.int .i64 c),.v (.int .i64 c),.rd 1 (bl++[[.v (.int .i64 bn)]]),a4]]⟩),s1.base⟩
   refine YaC hT hfr h1 hl1 (b:=b) (q:=q) (st:=⟨(mo,.v (.bool true))::(nx,.u)::s1.env,s1.heap.set yi (some ⟨5,[[.np ya,.v (.int .i64 c),.v (.int .i64 c),.rd 1 (bl++[[.v (.int .i64 bn)]]),a4]]⟩),s1.base⟩) ⟨hb,by rw[Yac];omega,pl,Ybr (d:=some mo) (Ybr (d:=some nx) (he.ext m2) (.u _)) (.b true),m1,hpk⟩ (fun e s' st' g1 g2=> ?_)
   cases e with
   |exit id'=>trivial
   |ret=>trivial
   |nor=>
    simp only at g1
    cases hkp:YuH T.kb g.ts (ownV own s')with
    |mk vs X=>
     rw[hkp]at g1
     simp only at g1
     obtain⟨hb,hkb,pl,he,hr,hpk⟩:=g2
     obtain⟨st1,pl1,k1,k2,k3,k4,k8,k9⟩:=YaG (ws:=own) hb he hr
     obtain⟨pl2,k5,k6,k7,k10⟩:=YcY (env:=(ownV own s').env) (X:=(ownV own s').heap) k3 k4 (Yxy hkb k8) hkp
     exact⟨Yu1 B (sn++[bn]),st1,⟨f bn,sn++[bn],_,hgg bn hbB hbn,rfl,YaV g1,k2,k7,pl2,k5,k6,fun i hi w hw=>hpk i hi w (k9 i (Yxw hi hkb) w (k10 i hi w hw))⟩,Ypq hbB hbn,k1⟩
end
theorem Ypy{A0 A R:Type}{u:A0->Option A}{p:A->ItP}{t:A->Int->Option A}{r:A->Option R}{x:A0}{y:R}(h:YxD (u x) (rngF p t r)=some y): ∃z,u x=some z/\Good p t r z y:=by
 cases hz:u x with
 |none=>simp_all
 |some z=>rw[hz]at h;exact⟨z,rfl,Ypp h⟩
end Go.Abs
namespace Go.Abs
open Go Go.RowKit Go.Shelf Go.Proofs
structure BldOK(P:Program)(fm:FM)(ρ:Ren):Prop where
 X:Builder.Extra P ρ
 bt:fm.bt=ρ.t 72
theorem Yjw{vals:Array Value}(h:vals.size=1):vals= #[vals.getD 0 undef]:=by
 apply Array.ext
 ·simp[h]
 simp_all
theorem Yjx{fm:FM}{w:World}{Lc:Nat->Loc}{h:HF}(hr:HR fm w Lc h){x:Nat}{b:AV}(hx:h x=some (some ⟨2,[[.np x,b]]⟩)){v:Value}(hv:VR fm w Lc v (.ptr x 0 0)):
  ∃g p s cur,v= .pointer (some ⟨g,0,none⟩)/\Lc x= .cells g 2 1/\w.heap[g]?=some (.cells cur fm.bt (0,0))/\cur.size=2/\cur[0]?=some p/\cur[1]?=some s/\ (p= .pointer none\/p= .pointer (some ⟨g,0,none⟩))/\s.oneCell'=true/\VR fm w Lc s b:=by
 obtain⟨g,es,cap,hL,e1,rfl⟩:=Ydl hr hx hv
 have hob:=hr.obj x _ hx
 rw[hL]at hob
 obtain⟨h0,h1,h2,h3,h4,cur,ty,h5,h6,h7⟩:=hob
 have hes:es=2:=h0
 subst hes
 have hc:1<=cap:=by trivial
 have hs0:0<cur.size:=by omega
 have hs1:1<cur.size:=by omega
 obtain⟨_,k1⟩:=h7 0 _ 0 _ rfl rfl
 obtain⟨k2,k3⟩:=h7 0 _ 1 _ rfl rfl
 obtain⟨g',hL',ht,hp⟩:=(Ydm hr hx k1).resolve_right (fun h=>h.elim (fun⟨g,e,_⟩=>by grind) (fun⟨g,e,_⟩=>by grind))
 rw[hL]at hL';injection hL' with e1 e2 e3;subst e1;subst e3
 obtain⟨c2,f2,ht⟩:=ht
 rw[h5]at ht;injection ht with ht;injection ht with _ ht _
 subst ht
 exact⟨g,_,_,cur,by simp,hL,h5,h6,YbS hs0,YbS hs1,hp,k2,k3⟩
theorem YpC{P:Program}{fm:FM}{f:FuncId}{ρ:Ren}(L:Lays.n240 P ρ)(B:BldOK P fm ρ)(hf':ρ.f 240=f){w:World}{Lc:Nat->Loc}{h:HF}(hr:HR fm w Lc h){x:Nat}{b:AV}(hx:h x=some (some ⟨2,[[.np x,b]]⟩)){vals:Array Value}(hsz:vals.size=1)(hv:VR fm w Lc (vals.getD 0 undef) (.ptr x 0 0)):
  Calls P f vals w fun e w'=>e= .returned (.tuple #[])/\Keep Lc w w'/\HR fm w' Lc h:=by
 obtain⟨g,p,s,cur,e1,hL,hg,hcs,hp0,hs1,hp,hone,hvs⟩:=Yjx hr hx hv
 rw[Yjw hsz,e1]
 subst hf'
 have hc0:w.cell? ⟨g,0,none⟩=some p:=by rw[Lib.cell_of_heap hg];omega
 rcases hp with rfl|rfl
 ·have hsh:w.shape? g=some (ρ.t 72,2):=by
   unfold World.shape?;rw[hg];simp[hcs,B.bt]
  refine(Any.Builder_copyCheck_fresh L B.X.toX72 g w hc0 hsh (Lib.frozen_of_heap hg 0)).mono ?_
  rintro e w' ⟨rfl,rfl⟩
  rw[setCell_eq_setRow w g 0 cur _ _ _ hg]
  have hob:=hr.obj x _ hx
  rw[hL]at hob
  obtain⟨h0,h1,h2,h3,h4,cur',ty',h5,h6,h7⟩:=hob
  obtain⟨k1,k2⟩:=Ydg (cur':=cur.setIfInBounds 0 (.pointer (some ⟨g,0,none⟩))) (el:=[[.np x,b]]) hr hx hL hg (by grind) (by simp) (by simp) (fun i e j c hi hj=>by
   match i,hi with
   |0,hi=>
    simp at hi;subst hi
    match j,hj with
    |0,hj=>
     simp at hj;subst hj
     have hlt:0<cur.size:=by omega
     simp only[Nat.zero_mul,Nat.add_zero]
     have:(cur.setIfInBounds 0 (.pointer (some ⟨g,0,none⟩))).getD 0 undef= .pointer (some ⟨g,0,none⟩):=by
      simp[Array.getD,hlt]
     rw[this]
     exact⟨rfl,.npAt g x _ hL ⟨cur,(0,0),hg⟩ (.inr rfl)⟩
    |1,hj=>
     simp at hj;subst hj
     simp
     have:(cur.setIfInBounds 0 (.pointer (some ⟨g,0,none⟩))).getD 1 undef=s:=by
      rw[YxS,Array.getElem?_setIfInBounds_ne (by decide),hs1];rfl
     grind
    |j+2,hj=>trivial
   |i+1,hi=>trivial)
  refine⟨rfl,k1,?_⟩
  have:(fun b'=>if b'=x then some (some (⟨2,[[.np x,b]]⟩:AObj))else h b')=h:=by
   grind
  grind
 ·refine(Any.Builder_copyCheck_used L B.X.toX72 g w hc0).mono ?_
  rintro e w' ⟨rfl,rfl⟩
  exact⟨rfl,Keep.refl _ _,hr⟩
def vchkE2(g:Nat):FnE:=⟨g,false,⟨[0],[.ptr 0 0 0],[.st [.np 0,.ref 1],.sb],.cons .s .nil⟩,.tp [],[.st [.np 0,.ref 1],.sb],.cons .s .nil,fun l=>some l⟩
theorem Yeg{g:Sg}{vs:List TV}{X:YtI}{x:g.c.den}(h:g.read vs X=some x):vs.length=g.vs.length:=by
 unfold Sg.read at h
 split at h
 ·rename_i svs sos k1 k2
  obtain⟨e1,_⟩:=Yaa h
  simp at e1
  rw[<-Yee k1,SV.eqs_of e1.1]
 trivial
theorem YpD{P:Program}{fm:FM}{f:FuncId}{ρ:Ren}(L:Lays.n240 P ρ)(B:BldOK P fm ρ)(hf':ρ.f 240=f){Xs:YtI}{pls:Pl}{Kp:Nat->Prop}{H:Heap}{args:List AV}{b:TV}
  (hct:CT Xs pls [.ptr 0 0 0] args) (hrs:HRel Kp H Xs pls H) (hfr:FrOK Kp H) (h0:vget Xs 0=some (.st [.np 0,b])) (hren:renX Xs (List.range Xs.length)=Xs) (hX:wfX Xs Xs=true)
  {w:World} {Lc:Nat->Loc} {vals:Array Value} (hr:HR fm w Lc (hf H)) (hsz:vals.size=args.length) (hv: ∀j a,args[j]?=some a->VR fm w Lc (vals.getD j undef) a):
  Calls P f vals w fun e w'=> ∃v L',e= .returned v/\Keep Lc w w'/\LStep Lc L' w.heap.size/\HR fm w' L' (hf (Yub Kp H Xs.length Xs (plI pls Xs.length H.length Xs)))/\VR fm w' L' v (encT Xs (plI pls Xs.length H.length Xs) (.tp [])):=by
 obtain⟨a0,ra,rfl,ha0,hra⟩:=hct.inv
 have hra0:ra=[]:=YwZ.1 hra.1.symm
 subst hra0
 obtain⟨x,rfl,hp,_⟩:=Ybm h0 ha0
 obtain⟨x',e,g1,g2,g3,g4⟩:=hrs.obj 0 _ h0
 rw[hp]at g1;injection g1 with g1;subst g1
 obtain⟨c0,e',rfl,q1,q2⟩:=g4.inv
 obtain⟨c1,e'',rfl,q3,q4⟩:=q2.inv
 have he'':e''=[]:=YwZ.1 q4.1.symm
 subst he''
 obtain⟨y,rfl,hy⟩:=YaB h0 q1
 rw[hp]at hy;injection hy with hy;subst hy
 refine(YpC L B hf' (h:=hf H) (x:=x) (b:=c1) hr g2 (by trivial) (hv 0 _ rfl)).mono ?_
 rintro e w' ⟨rfl,k1,k2⟩
 have hfin:=YfP (Xs:=Xs) (pls:=pls) (Xh:=Xs) (ph:=pls) (v:=.tp []) (a:=.tup []) (m:=List.range Xs.length) (s:=⟨[],H,H.length⟩) hrs hfr hrs rfl (Yxs _) (fun i hi x hx=>hx) List.nodup_range (List.prefix_refl _) (.tp [] [] rfl (fun j c a h=>by simp)) (by rfl) (by simp_all)
 rw[hren]at hfin
 obtain⟨L2,f1,f2,f3⟩:=hfin fm w' Lc (.tuple #[]) k2 (.tup _ _ rfl (fun j a h=>by grind))
 refine⟨_,L2,rfl,k1,f1 Lc w.heap.size (fun b hb=> ?_) (LStep.refl _ _),f2,f3⟩
 apply Classical.byContradiction
 intro hlt
 exact hb ((hr.fresh b).2 (Yw7 (by simp_all)))
theorem YpE{P:Program}{fm:FM}{f:FuncId}{g:Nat}{ρ:Ren}(L:Lays.n240 P ρ)(B:BldOK P fm ρ)(hf':ρ.f 240=f)(hcal:YtL P f=true):FOK P fm f (vchkE2 g).RI:=by
 rintro args H r H' ⟨x,y,vs,Xs,pls,Kp,v,l,X2,h1,h2,h3,hct,hrs,hfr,hall,h5,h6,h7,h8,h9,h10,rfl,rfl⟩
 refine⟨hcal,fun w Lc vals hr hsz hv=> ?_⟩
 have hl:=Yeg h2
 have hfill:=YaV h2
 have key: ∀(x y:ByteArray),some x=some y->Sg.fill (vchkE2 g).args x=some ⟨zipE [0] vs,Xs⟩->vs.length=1->YtU (.tp []) (unp (.cons .s .nil) y)=some (v,l)->Yt8 [.st [.np 0,.ref 1],.sb] l=some (X2,[])->
   vs=[.ptr 0 0 0]/\Xs=[some (.st [.np 0,.ref 1]),some (.sb x)]/\v= .tp []/\X2=Xs:=by
  intro x y hF hfill hlen e5 e6
  injection hF with hF;subst hF
  have hu:unp (.cons .s .nil) x=[⟨.s,x⟩]:=rfl
  unfold Sg.fill at hfill
  simp only[vchkE2,hu,Yt9,YtU,Yt8,YuQ]at hfill
  injection hfill with hfill;injection hfill with hz hX
  match vs,hlen with
  | [v0],_=>
    simp only[zipE,List.cons.injEq,Prod.mk.injEq,and_true,true_and]at hz
    obtain⟨rfl,rfl⟩:=e5
    simp only[Yt8,YuQ,Yt9,YtU,Option.some.injEq,Prod.mk.injEq,and_true]at e6
    simp_all
 obtain⟨rfl,hXs,rfl,rfl⟩:=key x y h1 hfill hl h5 h6
 exact YpD L B hf' hct hrs hfr (b:=.ref 1) (by rw[hXs];rfl) (by rw[hXs];rfl) h9 hr hsz hv
theorem YpF{P:Program}{fm:FM}{T:Tabs}(hS:Yue P fm T){g:Nat}(hp:T.pf g=false)
  (hG: ∀f,fm f=g->YtL P f=true/\ ∃ρ:Ren,Lays.n240 P ρ/\BldOK P fm ρ/\ρ.f 240=f):Yue P fm ⟨T.pf,vchkE2 g::T.fs,T.ls,0⟩:=by
 obtain⟨C,hC,hT⟩:=hS
 have hpC:C.pf g=true->Pure (vchkE2 g).RI:=fun h=>by rw[hT.p.pf,hp]at h;cases h
 exact⟨Yum C g (vchkE2 g).RI,Ybs hC hpC (fun f hf=>by obtain⟨k1,ρ,k2,k3,k4⟩:=hG f hf;exact YpE k2 k3 k4 k1),Ycg (e:=vchkE2 g) hT (fun h=>by rw[show(vchkE2 g).g=g from rfl,hp]at h;cases h) (fun _ _ _ _ _ h=>h)⟩
end Go.Abs
namespace Go.Abs
open Go Go.RowKit Go.Shelf Go.Proofs
variable{P:Program}{ρ:Ren}
set_option maxHeartbeats 1000000 in
set_option maxRecDepth 100000 in
theorem YpG(L:Lays.n169 P ρ)(X:Builder.Extra P ρ)(b:Nat)(l:List UInt8)(w:World){p:Value}{g cap:Nat}{cur:Array Value}(hbk:w.heap[b]?=some (.cells #[p,.slice (some ⟨g,0,none⟩) l.length cap] (ρ.t 72) (0,0)))
  (hg:w.heap[g]?=some (.cells cur (ρ.t 5) (0,0))) (hsz:l.length<=cur.size) (hnc:l.length<=cap) (hcm:cap<=maxLen) (hcells: ∀j x,l[j]?=some x->w.cell? ⟨g,j,none⟩=some (.int .u8 x.toNat)) (h0:l≠ []):
  Calls P (ρ.f 169) #[.pointer (some ⟨b,0,none⟩)] w fun e w'=>e= .returned (.string ⟨l.toArray⟩)/\w'.heap=(w.freeze ⟨g,0,none⟩ l.length).heap/\w'.os=w.os/\w'.tape=w.tape/\w'.output=w.output:=by
 have hl0:l.length≠0:=by simpa using h0
 have c1:w.drew.cell? ⟨b,1,none⟩=some (.slice (some ⟨g,0,none⟩) l.length cap):=by
  have:w.drew.heap[b]?=some (.cells #[p,.slice (some ⟨g,0,none⟩) l.length cap] (ρ.t 72) (0,0)):=hbk
  rw[Lib.cell_of_heap this];rfl
 have hSD:(Builtin.unsafeSliceData_ #[(ρ.t 37)] (ρ.t 127) #[.slice (some ⟨g,0,none⟩) l.length cap]).run P w.drew= .ok (.pointer (some ⟨g,0,none⟩)) w.drew:=
  Lib.run_unsafeSliceData_row _ _ _ _ _ _ (by omega)
 have hUS:(Builtin.unsafeString_ #[(ρ.t 127),(ρ.t 3)] (ρ.t 9) #[.pointer (some ⟨g,0,none⟩),.int .i64 l.length]).run P w.drew= .ok (.string ⟨l.toArray⟩) (w.drew.freeze ⟨g,0,none⟩ l.length):=by
  refine Lib.run_unsafeString_row w.drew (ρ.t 127) (ρ.t 3) (ρ.t 9) (ρ.t 5) L.t127 X.cellsByte g cur.size (by have hg':w.drew.heap[g]?=some (.cells cur (ρ.t 5) (0,0)):=hg;simp[World.shape?,hg']) l h0 (by omega) (by unfold maxLen at hcm;omega) ?_
  intro j x hx
  have:=hcells j x hx
  rw[Addr.add_lit,Yxx];exact this
 have mixed:=L.mixed
 have t72:=L.t72;have a72:=L.a72;have z72:=L.z72;have v72:=L.v72;have u72:=run_underlying L.t72
 have t70:=L.t70;have a70:=L.a70;have z70:=L.z70;have v70:=L.v70;have u70:=run_underlying L.t70
 have t37:=L.t37;have a37:=L.a37;have z37:=L.z37;have v37:=L.v37;have u37:=run_underlying L.t37
 have t127:=L.t127;have a127:=L.a127;have z127:=L.z127;have v127:=L.v127;have u127:=run_underlying L.t127
 have t3:=L.t3;have a3:=L.a3;have z3:=L.z3;have v3:=L.v3;have u3:=run_underlying L.t3
 have t9:=L.t9;have a9:=L.a9;have z9:=L.z9;have v9:=L.v9;have u9:=run_underlying L.t9
 have t5:=X.t5;have a5:=X.a5;have z5:=X.z5;have v5:=X.v5;have u5:=run_underlying X.t5
 go_enter L.f169,Body.n169_ntmps ρ
 go_wp2
 go_region_o
 all_goals(go_wp2;go_ret;refine⟨rfl,?_⟩;unfold World.freeze;rw[if_neg hl0,if_neg hl0];exact⟨rfl,rfl,rfl,rfl⟩)
theorem YpH{fm:FM}{w w':World}{Lc:Nat->Loc}{h:HF}(hr:HR fm w Lc h){y g es cap:Nat}(hL:Lc y= .cells g es cap)(hk:Keep Lc w w')(ho: ∀b,b<w.heap.size->OwnC Lc b->b≠g->w'.heap[b]?=w.heap[b]?)(n:Nat):
  LStep Lc (fun b=>if b=y then .dead else Lc b) n/\HR fm w' (fun b=>if b=y then .dead else Lc b) (fun b=>if b=y then some none else h b):=by
 obtain⟨k1,k2⟩:=Yby hr y n (fun g' e=>by simp_all)
 have ks:LStep Lc (fun b=>if b=y then .dead else Lc b) w.heap.size:=(Yby hr y w.heap.size (fun g' e=>by simp_all)).1
 refine⟨k1,⟨fun b o hb=> ?_,k2.live,k2.fresh,k2.inj,fun b g' hb=> ?_,fun b o g' es' cap' h1 h2 h3=>hk.typ _ _ (k2.byt b o g' es' cap' h1 h2 h3),k2.mps,hr.tab.mono hk ks.ownc⟩⟩
 ·by_cases e:b=y
  ·simp_all
  ·simp[e]at hb
   simp only[e,if_false]
   have hob:=hr.obj b o hb
   revert hob
   cases hLb:Lc b with
   |fresh=>exact id
   |dead=>exact id
   |nil=>exact id
   |hid g=>exact id
   |cells g' es' cap'=>
    rintro⟨h0,h1,h2,h3,h4,cur',ty',h5,h6,h7⟩
    refine⟨h0,h1,h2,h3,h4,cur',ty',?_,h6,fun i e' j x hi hj=>⟨(h7 i e' j x hi hj).1,(h7 i e' j x hi hj).2.mono hk ks⟩⟩
    rw[ho g' (YxT.1 h5).1 (.inl ⟨b,es',cap',hLb⟩) (fun eg=>e (hr.inj b y g _ _ _ _ (by rw[hLb,eg]) hL))]
    exact h5
   |mp i g'=>
    intro hm
    obtain⟨_,hm1,hm2⟩:=hr.mpb hLb
    obtain⟨oy,hoy⟩:=hr.live y (.inl ⟨g,es,cap,hL⟩)
    have hob:=hr.obj y oy hoy
    rw[hL]at hob
    obtain⟨_,_,_,_,_,cur,ty,h5,_⟩:=hob
    exact YaW hm hk ks (fun ob h1=>by
     rw[ho g' (YxT.1 h1).1 (.inr ⟨b,i,hLb⟩) (fun eg=>by grind)]
     exact h1)
 ·have:=k2.hid b g' hb
  exact⟨Yxw this.1 hk.size,this.2⟩
theorem Yci{Lc:Nat->Loc}{w w':World}(h:Below w.heap.size w w'):Keep Lc w w':=
 ⟨h.os,h.tape,h.output,h.size,fun b hb _=>h.block b hb,fun b t ht=>ht.of (h.block b ht.lt)⟩
theorem YpI{Lc:Nat->Loc}{w w':World}{g n es cap y:Nat}(hL:Lc y= .cells g es cap)(hh:w'.heap=(w.freeze ⟨g,0,none⟩ n).heap)(h1:w'.os=w.os)(h2:w'.tape=w.tape)(h3:w'.output=w.output):
  Keep Lc w w'/\ ∀b,b≠g->w'.heap[b]?=w.heap[b]?:=by
 have hb: ∀b,b≠g->w'.heap[b]?=w.heap[b]?:=fun b hb=>by
  rw[hh];unfold World.freeze
  grind
 refine⟨⟨h1,h2,h3,?_,fun b _ ho=>hb b (fun e=>ho (e▸ .inl ⟨y,es,cap,hL⟩)),fun b t ht=> ?_⟩,hb⟩
 ·rw[hh];unfold World.freeze;grind
 ·by_cases e:b=g
  ·subst e
   obtain⟨c,f,ht⟩:=ht
   unfold TyAt
   rw[hh];unfold World.freeze
   grind
  ·exact ht.of (hb b e)
theorem YpJ{P:Program}{fm:FM}{f:FuncId}{ρ:Ren}(L:Lays.n169 P ρ)(B:BldOK P fm ρ)(hbu:fm.bu=ρ.t 5)(hf':ρ.f 169=f){w:World}{Lc:Nat->Loc}{h:HF}(hr:HR fm w Lc h){x y:Nat}{s:ByteArray}(hx:h x=some (some ⟨2,[[.np x,.ref y 0 (strA s).length]]⟩))(hy:h y=some (some ⟨0,strA s⟩))
  {vals:Array Value} (hsz:vals.size=1) (hv:VR fm w Lc (vals.getD 0 undef) (.ptr x 0 0)):
  Calls P f vals w fun e w'=>e= .returned (.string s)/\Keep Lc w w'/\LStep Lc (fun b=>if b=y then .dead else Lc b) w.heap.size/\HR fm w' (fun b=>if b=y then .dead else Lc b) (fun b=>if b=y then some none else h b):=by
 obtain⟨g0,p,sl,cur,e1,hL0,hg0,hcs,hp0,hs1,hp,hone,hvs⟩:=Yjx hr hx hv
 rw[Yjw hsz,e1]
 subst hf'
 have hcur:cur= #[p,sl]:=by
  grind
 subst hcur
 rw[B.bt]at hg0
 have hemp:s.size=0->s=⟨#[]⟩:=fun h0=>by
  cases s with|mk d=>have:d= #[]:=Array.eq_empty_of_size_eq_zero h0
                     grind
 have hob:=hr.obj y _ hy
 have hnh: ∀g,Lc y≠ .hid g:=fun g e=>by rw[e]at hob;exact hob
 have below: ∀{w':World},Below w.heap.size w w'->Keep Lc w w'/\LStep Lc (fun b=>if b=y then .dead else Lc b) w.heap.size/\HR fm w' (fun b=>if b=y then .dead else Lc b) (fun b=>if b=y then some none else h b):=fun hb=>by
  obtain⟨k1,k2⟩:=Yby (hr.mono (Yci hb) (fun b hb' _=>hb.block b hb')) y w.heap.size hnh
  exact⟨Yci hb,k1,k2⟩
 rcases Ya4 hr hy hvs with⟨g,es,cap,hL,e2,e3,rfl⟩| ⟨A,b,hL,hA,_,e3,rfl⟩
 ·have e2:es=1:=e2
  subst e2
  have hty:=hr.byt y _ g 1 cap hy rfl hL
  rw[hL]at hob
  obtain⟨_,_,h2,h3,h4,cur',ty,h5,h6,h7⟩:=hob
  obtain⟨c',f',hty⟩:=hty
  rw[h5]at hty;injection hty with hty;injection hty with _ hty _
  rw[hbu]at hty
  subst hty
  simp only[Nat.zero_mul,Nat.sub_zero,strA_len']at hg0 h2 e3
  by_cases h0:s.size=0
  ·rw[h0]at hg0
   rw[hemp h0]
   by_cases hc0:cap=0
   ·subst hc0
    refine(Any.Builder_String_noroom L B.X w.heap.size g0 g p cur' w (Yxs _) hg0 h5).mono ?_
    grind
   ·refine(Any.Builder_String_room L B.X w.heap.size g0 g cap p w hc0 hg0).mono ?_
    grind
  ·have hl:s.toList.length=s.size:=by rw[Ya0];rfl
   have hs:(⟨s.toList.toArray⟩:ByteArray)=s:=by rw[Ya0]
   rw[<-hl]at hg0
   refine(YpG L B.X g0 s.toList w (p:=p) (g:=g) (cap:=cap) (cur:=cur') hg0 h5 (by omega) (by omega) h3 (fun j x hj=> ?_) (fun e=>h0 (by simp_all))).mono ?_
   ·have hj':(strA s)[j]?=some [.v (.int .u8 x.toNat)]:=by unfold strA;simp_all
    obtain⟨_,k1⟩:=h7 j _ 0 _ hj' rfl
    rw[Lib.cell_of_heap h5]
    have hlt:j<cur'.size:=by grind
    have:=Yae k1
    simp at this
    simp_all
   ·rintro e w' ⟨rfl,q1,q2,q3,q4⟩
    obtain⟨k1,k2⟩:=YpI hL q1 q2 q3 q4
    obtain⟨k3,k4⟩:=YpH hr hL k1 (fun b _ _ hb=>k2 b hb) w.heap.size
    simp_all
 ·rw[hL]at hob
  have hel:strA s=[]:=hob.1
  have h0:s.size=0:=by rw[<-strA_len',hel];rfl
  rw[hA (hob.2 rfl)]at hg0
  rw[hemp h0]
  refine(Any.Builder_String_nil L B.X w.heap.size g0 p w hg0).mono ?_
  grind
def vstrE(g:Nat):FnE:=⟨g,false,⟨[0],[.ptr 0 0 0],[.st [.np 0,.ref 1],.sb],.cons .s .nil⟩,.s,[.st [.np 0,.u],.dd],.cons .s .nil,fun s=>some s⟩
theorem YpK{P:Program}{fm:FM}{f:FuncId}{ρ:Ren}(L:Lays.n169 P ρ)(B:BldOK P fm ρ)(hbu:fm.bu=ρ.t 5)(hf':ρ.f 169=f){s:ByteArray}{pls:Pl}{Kp:Nat->Prop}{H:Heap}{args:List AV}
  (hct:CT [some (.st [.np 0,.ref 1]),some (.sb s)] pls [.ptr 0 0 0] args) (hrs:HRel Kp H [some (.st [.np 0,.ref 1]),some (.sb s)] pls H) (hfr:FrOK Kp H)
  {w:World} {Lc:Nat->Loc} {vals:Array Value} (hr:HR fm w Lc (hf H)) (hsz:vals.size=args.length) (hv: ∀j a,args[j]?=some a->VR fm w Lc (vals.getD j undef) a):
  Calls P f vals w fun e w'=> ∃v L',e= .returned v/\Keep Lc w w'/\LStep Lc L' w.heap.size/\HR fm w' L' (hf (Yub Kp H 2 [some (.st [.np 0,.u]),none] (plI pls 2 H.length [some (.st [.np 0,.u]),none])))/\VR fm w' L' v (encT [some (.st [.np 0,.u]),none] (plI pls 2 H.length [some (.st [.np 0,.u]),none]) (.s s)):=by
 obtain⟨a0,ra,rfl,ha0,hra⟩:=hct.inv
 have hra0:ra=[]:=YwZ.1 hra.1.symm
 subst hra0
 obtain⟨x,rfl,hp,_⟩:=Ybm (o:=.st [.np 0,.ref 1]) rfl ha0
 obtain⟨x',e,g1,g2,g3,g4⟩:=hrs.obj 0 (.st [.np 0,.ref 1]) rfl
 rw[hp]at g1;injection g1 with g1;subst g1
 obtain⟨c0,e',rfl,q1,q2⟩:=g4.inv
 obtain⟨c1,e'',rfl,q3,q4⟩:=q2.inv
 have he'':e''=[]:=YwZ.1 q4.1.symm
 subst he''
 obtain⟨y',rfl,hy'⟩:=YaB (o:=.st [.np 0,.ref 1]) rfl q1
 rw[hp]at hy';injection hy' with hy';subst hy'
 obtain⟨y,hpy,hy,rfl⟩:=YdK hrs (a:=1) (b:=s) rfl q3
 refine(YpJ L B hbu hf' (h:=hf H) (x:=x) (y:=y) (s:=s) hr g2 hy (by trivial) (hv 0 _ rfl)).mono ?_
 rintro e w' ⟨rfl,k1,k2,k3⟩
 obtain⟨m1,m2⟩:=YcM hrs (a:=1) (o:=.sb s) rfl hpy
 have hne:x≠y:=fun e=>by
  simp_all
 have hpx:plK pls 1 (.m 0)=some x:=by trivial
 have hHx:(H.set y none)[x]?=some (some ⟨2,[[.np x,.ref y 0 (strA s).length]]⟩):=by
  grind
 obtain⟨n1,n2⟩:=Yb2 m1 (a:=0) (x:=x) (o:=.st [.np 0,.ref 1]) (o':=.st [.np 0,.u]) rfl hpx ⟨2,[[.np x,.ref y 0 (strA s).length]]⟩ rfl rfl (fun _ _ _ _ _ e=>by cases e) (fun _ _ _ _ _ e=>by cases e)
  (fun hx=>⟨x,[.np x,.ref y 0 (strA s).length],hpx,Yw4 (YwP.1 hHx).1,by decide,.cons (.np 0 x (.st [.np 0,.u]) rfl hpx) (.cons (.u _) .nil)⟩)
 have hset:(H.set y none).set x (some ⟨2,[[.np x,.ref y 0 (strA s).length]]⟩)=H.set y none:=by
  apply Yxc
  grind
 rw[hset]at n1
 have hh:(fun b=>if b=y then some none else hf H b)=hf (H.set y none):=by
  funext b
  simp only[hf]
  grind
 rw[hh]at k3
 have hfin:=YfP (Xs:=[some (.st [.np 0,.ref 1]),some (.sb s)]) (pls:=pls) (Xh:=[some (.st [.np 0,.u]),none]) (ph:=plK pls 1) (v:=.s s) (a:=.v (.string s)) (m:=List.range 2) (s:=⟨[],H.set y none,H.length⟩) hrs hfr n1 rfl (Yxs _) (fun i hi x hx=>by
   unfold plK at hx
   simp_all) List.nodup_range (List.prefix_refl _) (.s s) rfl rfl
 obtain⟨L2,f1,f2,f3⟩:=hfin fm w' _ (.string s) k3 (.v _)
 exact⟨_,L2,rfl,k1,f1 Lc w.heap.size (fun b hb=>by
  apply Classical.byContradiction
  intro hlt
  exact hb ((hr.fresh b).2 (Yw7 (by simp_all)))) k2,f2,f3⟩
theorem YpL{P:Program}{fm:FM}{f:FuncId}{g:Nat}{ρ:Ren}(L:Lays.n169 P ρ)(B:BldOK P fm ρ)(hbu:fm.bu=ρ.t 5)(hf':ρ.f 169=f)(hcal:YtL P f=true):FOK P fm f (vstrE g).RI:=by
 rintro args H r H' ⟨x,y,vs,Xs,pls,Kp,v,l,X2,h1,h2,h3,hct,hrs,hfr,hall,h5,h6,h7,h8,h9,h10,rfl,rfl⟩
 refine⟨hcal,fun w Lc vals hr hsz hv=> ?_⟩
 have hl:=Yeg h2
 have hfill:=YaV h2
 have key: ∀(x y:ByteArray),some x=some y->Sg.fill (vstrE g).args x=some ⟨zipE [0] vs,Xs⟩->vs.length=1->YtU .s (unp (.cons .s .nil) y)=some (v,l)->Yt8 [.st [.np 0,.u],.dd] l=some (X2,[])->
   vs=[.ptr 0 0 0]/\Xs=[some (.st [.np 0,.ref 1]),some (.sb x)]/\v= .s x/\X2=[some (.st [.np 0,.u]),none]:=by
  intro x y hF hfill hlen e5 e6
  injection hF with hF;subst hF
  have hu:unp (.cons .s .nil) x=[⟨.s,x⟩]:=rfl
  unfold Sg.fill at hfill
  simp only[vstrE,hu,Yt9,YtU,Yt8,YuQ]at hfill
  injection hfill with hfill;injection hfill with hz hX
  match vs,hlen with
  | [v0],_=>
    simp only[zipE,List.cons.injEq,Prod.mk.injEq,and_true,true_and]at hz
    simp only[hu,YtU,Option.some.injEq,Prod.mk.injEq]at e5
    obtain⟨rfl,rfl⟩:=e5
    simp only[Yt8,YuQ,Yt9,YtU,Option.some.injEq,Prod.mk.injEq,and_true]at e6
    simp_all
 obtain⟨rfl,rfl,rfl,rfl⟩:=key x y h1 hfill hl h5 h6
 exact YpK L B hbu hf' hct hrs hfr hr hsz hv
theorem YpM{P:Program}{fm:FM}{T:Tabs}(hS:Yue P fm T){g:Nat}(hp:T.pf g=false)
  (hG: ∀f,fm f=g->YtL P f=true/\ ∃ρ:Ren,Lays.n169 P ρ/\BldOK P fm ρ/\fm.bu=ρ.t 5/\ρ.f 169=f):Yue P fm ⟨T.pf,vstrE g::T.fs,T.ls,0⟩:=by
 obtain⟨C,hC,hT⟩:=hS
 have hpC:C.pf g=true->Pure (vstrE g).RI:=fun h=>by rw[hT.p.pf,hp]at h;cases h
 exact⟨Yum C g (vstrE g).RI,Ybs hC hpC (fun f hf=>by obtain⟨k1,ρ,k2,k3,k4,k5⟩:=hG f hf;exact YpL k2 k3 k4 k5 k1),Ycg (e:=vstrE g) hT (fun h=>by rw[show(vstrE g).g=g from rfl,hp]at h;cases h) (fun _ _ _ _ _ h=>h)⟩
end Go.Abs
namespace Go.Abs
open Go Go.RowKit Go.Shelf Go.Proofs
theorem YpN{P:Program}{fm:FM}{T:Tabs}(hS:Yue P fm T){e:FnE}(hp:T.pf e.g=true)(hG: ∀f,fm f=e.g->FOK P fm f (YuO e.R)):Yue P fm ⟨T.pf,e::T.fs,T.ls,0⟩:=by
 obtain⟨C,hC,hT⟩:=hS
 exact⟨Yum C e.g (YuO e.R),Ybs hC (fun _=>Yfc _) hG,YfN hT hp⟩
end Go.Abs
namespace Go.Abs
open Go Go.RowKit Go.ChangeShapes Go.WideShapes Go.ChangeAt
section
variable{H:Type}{enc:TypeId×Value->H}{P:Program}{fm:FM}{T:Tabs}
theorem YpO{W:World}{base:Nat}{t:TypeId}{fs:Array Field}(ht:P.underlying t=some (.struct fs)){v:Value}(hv:Value.okWide P W .any base t v){b:Nat}{sp:Nat->Bool}{held:Bool}{d:DataW H}{ps:List MemPlace}
  (hd:DataW.Trod enc P W b sp held t v d ps) {bulk:DataW H->Nat} {es:Nat} {X:Type} {e:X->List TV} {sz:X->Nat} {ok:X->Prop} (hR:Reads enc P W b sp held fm bulk t es (fun x=>avTs (e x)) sz ok):
  ∃x,ok x/\sz x<=bulk d/\VR fm W Yug v (avT (.ag (e x))):=by
 simp only[Value.okWide,ht]at hv
 obtain⟨cs,rfl,_,_⟩:=hv
 obtain⟨fuel,hd⟩:=hd
 obtain⟨x,h1,h2,h3,h4,h5⟩:=hR fuel _ d ps hd
 have h2':cs.size=es:=by trivial
 have key: ∀j a,(avTs (e x))[j]?=some a->(cs.getD j undef).oneCell'=true/\VR fm W Yug (cs.getD j undef) a:=by
  intro j a hj
  have hlt:j<cs.size:=by grind
  have:=h5 j cs[j] a (by simp[Value.cells,hlt]) hj
  rw[YxS]
  grind
 refine⟨x,h1,h4,?_⟩
 exact .agg cs _ (by simp_all) (fun j a hj=>(key j a hj).1) (fun j a hj=>(key j a hj).2)
theorem YpP{W:World}{base:Nat}{t:TypeId}(hns: ∀fs,P.underlying t≠some (.struct fs))(hna: ∀n u,P.underlying t≠some (.array n u)){v:Value}(hv:Value.okWide P W .any base t v)(hag: ∀cs,¬Cell.okWide P W .any base t (.agg cs)){b:Nat}{sp:Nat->Bool}{held:Bool}{d:DataW H}{ps:List MemPlace}
  (hd:DataW.Trod enc P W b sp held t v d ps) {bulk:DataW H->Nat} {X:Type} {e:X->List TV} {sz:X->Nat} {ok:X->Prop} {p:X->TV} (hp: ∀x,e x=[p x]) (hR:Reads enc P W b sp held fm bulk t 1 (fun x=>avTs (e x)) sz ok):
  ∃x,ok x/\sz x<=bulk d/\VR fm W Yug v (avT (p x)):=by
 have hv2:Cell.okWide P W .any base t v:=by
  unfold Value.okWide at hv
  simp_all
 have hc:v.cells= #[v]:=by
  cases v with
  |agg cs=>simp_all
  |_=>rfl
 obtain⟨fuel,hd⟩:=hd
 obtain⟨x,h1,h2,h3,h4,h5⟩:=hR fuel _ d ps hd
 refine⟨x,h1,h4,?_⟩
 have:=h5 0 v (avT (p x)) (by grind) (by simp[hp x,avTs])
 simp_all
theorem Yjy(hl:laidOutB P=true){W W':World}(hb:Below W.heap.size W W'): ∀{ts:List TypeId} {vs:List Value} {ds:List (DataW H)} {ps:List MemPlace},
  DataW.TrodAll enc P W 0 (fun _=>true) true ts vs ds ps->(∀t∈ts,P.readableRec t=true/\t<P.types.size)->(∀x∈ps,x.block<W.heap.size)->
  DataW.TrodAll enc P W' 0 (fun b=>decide (b<W.heap.size)) true ts vs ds ps
 | [],[],[],ps,h,_,_=>h
 |t::ts,v::vs,d::ds,ps,h,hr,hlt=>by
  obtain⟨p,q,h1,h2,rfl⟩:=h
  have ht:=hr t (Yw6 ..)
  exact⟨p,q,Below.trod hl ht.1 ht.2 h1 hb (fun x hx=>hlt x (List.mem_append_left _ hx)),
   Yjy hl hb h2 (fun u hu=>hr u (Yxj _ hu)) (fun x hx=>hlt x (List.mem_append_right _ hx)),rfl⟩
 | [],_::_,_,_,h,_,_=>h.elim
 | [],[],_::_,_,h,_,_=>h.elim
 |_::_,[],_,_,h,_,_=>h.elim
 |_::_,_::_,[],_,h,_,_=>h.elim
theorem YpQ(hl:laidOutB P=true){f:Func}{s:ChangeSpec}{tb:TypeId}(hres:f.resultTypes= #[tb])(htb:P.underlying tb=some .bool)(hr: ∀t∈f.params.toList,P.readableRec t=true/\t<P.types.size)(hvars:s.vars=[])
  {W W':World} {args:Array Value} {ds gs:List (DataW H)} {before:List MemPlace} (hW:DataW.Whole enc P f.params.toList s.vars false W args.toList ds gs before) (hfn:(s.fn H (ds++gs))={results:=[.lit (.bool true)],args:=ds}) (hb:Below W.heap.size W W'):
  s.post enc P f false true false false W args (.bool true) W':=by
 have hlt:=hW.lt
 have hW':=hW
 obtain⟨p,q,hA,hV,rfl,hfz,hnd⟩:=hW
 rw[hvars]at hV
 obtain⟨rfl,rfl⟩:=trodVars_none hV
 refine⟨ds,[],p++[],[],p,[],hW',?_,?_,?_,hb.frame _,fun h=>by cases h⟩
 ·rw[hfn,hres]
  exact trodAll_cons_mk (shut_bool htb _) trodAll_mk0
 ·rw[hfn]
  exact Yjy hl hb hA hr (fun x hx=>hlt x (List.mem_append_left _ hx))
 ·rw[hfn,hvars];rfl
theorem YpR{w w':World}(h:Keep Yug w w'):Below w.heap.size w w':=
 ⟨h.os,h.tape,h.output,h.size,fun k hk=>h.blk k hk (Yfd k)⟩
theorem YpS(hS:Yue P fm T){e:FnE}(he:e∈T.fs)(hp:T.pf e.g=true){f:FuncId}(hf:fm f=e.g){vs:List TV}(hdt:YtZ vs=true){x:e.args.c.den}{y:e.co.den}(hread:e.args.read vs []=some x)(hF:e.F x=some y)(hfill:YtU e.res (unp e.co y)=some (.b true,[]))
  {W:World} {args:Array Value} (hsz:args.size=vs.length) (hv: ∀j a,(avTs vs)[j]?=some a->VR fm W Yug (args.getD j undef) a) (htb:TabW fm W):
  Calls P f args W fun e W'=>e= .returned (.bool true)/\Below W.heap.size W W':=by
 refine(Ypi hS he hp hf (args:=avTs vs) (r:=avT (.b true)) ⟨x,y,vs,.b true,hF,hread,hdt,rfl,hfill,rfl,rfl⟩ (by simpa[YbN]using hsz) hv htb).mono ?_
 rintro ex w' ⟨v,rfl,hk,L',hvr⟩
 have:=Yae (show VR fm w' L' v (.v (.bool true))from hvr)
 rw[this]
 exact⟨rfl,YpR hk⟩
end
end Go.Abs
namespace Go.Abs
open Go Go.RowKit Go.ChangeShapes Go.WideShapes Go.ChangeAt
mutual
def Ty.sz:(t:Ty)->t.den->Nat
 | .i _,_=>1
 | .b,_=>1
 | .s,x=>ByteArray.size x+1
 | .l c,v=>(List.map c.sz v).sum+1
def Cs.sz:(c:Cs)->c.den->Nat
 | .nil,_=>0
 | .cons t r,x=>t.sz (fstP r x)+r.sz (sndP r x)
end
mutual
def Ty.rng:(t:Ty)->t.den->Prop
 | .i k,n=>(Lit.int k n).wf=true
 | .b,_=>True
 | .s,_=>True
 | .l c,v=> ∀x∈ (show List c.den from v),c.rng x
def Cs.rng:(c:Cs)->c.den->Prop
 | .nil,_=>True
 | .cons t r,x=>t.rng (fstP r x)/\r.rng (sndP r x)
end
def Cs.tk:Nat->Cs->Cs
 |0,_=>.nil
 |_+1,.nil=>.nil
 |n+1,.cons t r=>.cons t (Cs.tk n r)
def Cs.dp:Nat->Cs->Cs
 |0,c=>c
 |_+1,.nil=>.nil
 |n+1,.cons _ r=>Cs.dp n r
def Cs.jn:(n:Nat)->(c:Cs)->(Cs.tk n c).den->(Cs.dp n c).den->c.den
 |0,_,_,y=>y
 |_+1,.nil,_,_=>()
 |n+1,.cons t r,x,y=>mkP r (fstP (Cs.tk n r) x) (Cs.jn n r (sndP (Cs.tk n r) x) y)
theorem Yjz: ∀(n:Nat) (c:Cs),n<=c.width->(Cs.tk n c).width=n
 |0,_,_=>rfl
 |n+1,.nil,h=>by trivial
 |n+1,.cons t r,h=>by simp only[Cs.width]at h;simp only[Cs.tk,Cs.width,Yjz n r (by omega)]
theorem YjA: ∀(n:Nat) (c:Cs),n<=c.width->(Cs.dp n c).width+n=c.width
 |0,_,_=>rfl
 |n+1,.nil,h=>by trivial
 |n+1,.cons t r,h=>by simp only[Cs.width]at h;have:=YjA n r (by omega);simp only[Cs.dp,Cs.width];omega
theorem YjB: ∀(n:Nat) (c:Cs) (x:(Cs.tk n c).den) (y:(Cs.dp n c).den),c.enc (Cs.jn n c x y)=(Cs.tk n c).enc x++(Cs.dp n c).enc y
 |0,_,_,y=>rfl
 |n+1,.nil,_,_=>rfl
 |n+1,.cons t r,x,y=>by simp only[Cs.jn,Cs.enc,Yba,YaS,Cs.tk,Cs.dp,Yxg];exact congrArg _ (YjB n r _ _)
theorem YfR: ∀(n:Nat) (c:Cs) (x:(Cs.tk n c).den) (y:(Cs.dp n c).den),c.sz (Cs.jn n c x y)=(Cs.tk n c).sz x+(Cs.dp n c).sz y
 |0,_,_,y=>by simp only[Cs.jn,Cs.tk,Cs.dp,Cs.sz,Yxx]
 |n+1,.nil,_,_=>by rfl
 |n+1,.cons t r,x,y=>by simp only[Cs.jn,Cs.sz,Yba,YaS,Cs.tk,Cs.dp,Nat.add_assoc];exact congrArg _ (YfR n r _ _)
theorem YfS: ∀(n:Nat) (c:Cs) (x:(Cs.tk n c).den) (y:(Cs.dp n c).den),(Cs.tk n c).rng x->(Cs.dp n c).rng y->c.rng (Cs.jn n c x y)
 |0,_,_,y,_,h=>h
 |n+1,.nil,_,_,_,_=>trivial
 |n+1,.cons t r,x,y,h,h2=>by
  simp only[Cs.jn,Cs.rng,Yba,YaS]
  exact⟨h.1,YfS n r _ _ h.2 h2⟩
theorem YjC: ∀(n:Nat) (c:Cs) (x:(Cs.tk n c).den) (y:(Cs.dp n c).den),unp c (Cs.jn n c x y)=unp (Cs.tk n c) x++unp (Cs.dp n c) y
 |0,_,_,y=>rfl
 |n+1,.nil,_,_=>rfl
 |n+1,.cons t r,x,y=>by simp only[Cs.jn,unp,Yba,YaS,Cs.tk,Cs.dp,Yxg];exact congrArg _ (YjC n r _ _)
def okT(P:Program):Nat->TypeId->Cs->Bool
 |0,_,_=>false
 |f+1,t,c=>match P.underlying t with
  |some (.int k)=>c.eqb (.cons (.i k) .nil)
  |some .bool=>c.eqb (.cons .b .nil)
  |some .string=>c.eqb (.cons .s .nil)
  |some (.slice u)=>match c with
   | .cons (.l c') .nil=>Yxu 0 c'.width&&Yxr (P.cellsOf u) c'.width&&okT P f u c'
   |_=>false
  |some (.struct fs)=>Yxr (P.cellsOf t) c.width&&okF (fun g c=>okT P f g c) fs.toList 0 c
  |_=>false
where
 okF (k:TypeId->Cs->Bool):List Field->Nat->Cs->Bool
 | [],_,.nil=>true
 | [],_,_=>false
 |g::r,o,c=>Yxr g.offset o&&Yxv (P.cellsOf g.type) c.width&&k g.type (Cs.tk (P.cellsOf g.type) c)&&okF k r (o+P.cellsOf g.type) (Cs.dp (P.cellsOf g.type) c)
section
variable{H:Type}{enc:TypeId×Value->H}{P:Program}{w:World}{base:Nat}{spare:Nat->Bool}{held:Bool}{fm:FM}{bulk:DataW H->Nat}{all:List (DataW H)->Nat}
theorem YjD(hb:BulkOK bulk all){k:TypeId->Cs->Bool}(hk: ∀t c,k t c=true->Reads enc P w base spare held fm bulk t c.width c.enc c.sz c.rng):
  ∀(fs:List Field) (o:Nat) (c:Cs),okT.okF P k fs o c=true->Yvf enc P w base spare held fm all fs o c.width c.enc c.sz c.rng
 | [],o,.nil,_=>Ynx o
 | [],o,.cons _ _,h=>by trivial
 |g::r,o,c,h=>by
  simp only[okT.okF,YxL]at h
  obtain⟨⟨⟨h1,h2⟩,h3⟩,h4⟩:=h
  have h1:=Yxt h1
  have h2:=YxC h2
  have wt:=Yjz _ _ h2
  have wd:=YjA _ _ h2
  have r1:=hk _ _ h3
  rw[wt]at r1
  have r2:=YjD hb hk r _ _ h4
  have:=Yny hb h1 rfl r1 r2
  intro fuel cs xs hm hle
  obtain⟨⟨x,y⟩,k1,k2,k3,k4⟩:=this fuel cs xs hm (by omega)
  refine⟨Cs.jn _ c x y,YfS _ _ _ _ k1.1 k1.2,?_,?_,?_⟩
  ·exact Yax _ _
  ·rw[YfR];exact k3
  ·rw[YjB];exact k4
theorem Yeh(hb:BulkOK bulk all): ∀(f:Nat) (t:TypeId) (c:Cs),okT P f t c=true->Reads enc P w base spare held fm bulk t c.width c.enc c.sz c.rng
 |0,_,_,h=>by trivial
 |f+1,t,c,h=>by
  unfold okT at h
  split at h
  ·rename_i k hu
   have e:=Cs.eq_of h;subst e
   refine(Ynu hb hu).conv ?_
   intro n hn
   exact⟨n,⟨hn,trivial⟩,rfl,Yxs _⟩
  ·rename_i hu
   have e:=Cs.eq_of h;subst e
   refine(Ynv hb hu).conv ?_
   intro n hn
   exact⟨n,⟨hn,trivial⟩,rfl,Yxs _⟩
  ·rename_i hu
   have e:=Cs.eq_of h;subst e
   refine(Ynw hb hu).conv ?_
   intro n hn
   exact⟨n,⟨hn,trivial⟩,rfl,Yxs _⟩
  ·rename_i u hu
   split at h
   ·rename_i c'
    simp only[YxL]at h
    obtain⟨⟨h1,h2⟩,h3⟩:=h
    have h1:0<c'.width:=YxC h1
    have h2:=Yxt h2
    refine(YnD hb hu h2 h1 (Yeh hb f u c' h3)).conv ?_
    intro l hl
    exact⟨l,⟨hl,trivial⟩,rfl,Yxs _⟩
   trivial
  ·rename_i fs hu
   simp only[YxL]at h
   have h1:=Yxt h.1
   exact Ynz hb hu h1 (YjD hb (fun t c=>Yeh hb f t c) _ _ _ h.2)
  trivial
def Ty.sv:Ty->SV
 | .i k=>.i k
 | .b=>.b
 | .s=>.s
 | .l c=>.l c
def Cs.svs:Cs->List SV
 | .nil=>[]
 | .cons t r=>t.sv::r.svs
def Cs.tvs:(c:Cs)->c.den->List TV
 | .nil,_=>[]
 | .cons t r,x=>tvOf t (fstP r x)::r.tvs (sndP r x)
theorem YjE(t:Ty)(v:t.den):(tvOf t v).sh=some t.sv:=by cases t<;>rfl
theorem YjF(t:Ty)(v:t.den):(tvOf t v).lv=[⟨t,v⟩]:=by cases t<;>rfl
theorem YjG(t:Ty)(v:t.den):avT (tvOf t v)=t.enc v:=by cases t<;>rfl
theorem YjH(t:Ty)(v:t.den):YuI (tvOf t v)=true:=by cases t<;>rfl
theorem YjI: ∀(c:Cs) (x:c.den),TV.shs (c.tvs x)=some c.svs
 | .nil,_=>rfl
 | .cons t r,x=>by simp only[Cs.tvs,TV.shs,YjE,YjI r,Cs.svs]
theorem YjJ: ∀(c:Cs) (x:c.den),TV.lvs (c.tvs x)=unp c x
 | .nil,_=>rfl
 | .cons t r,x=>by simp only[Cs.tvs,TV.lvs,YjF,YjJ r,unp,Yxg,Yxd]
theorem YjK: ∀(c:Cs) (x:c.den),avTs (c.tvs x)=c.enc x
 | .nil,_=>rfl
 | .cons t r,x=>by simp only[Cs.tvs,avTs,YjG,YjK r,Cs.enc]
theorem YjL: ∀(c:Cs) (x:c.den),YtZ (c.tvs x)=true
 | .nil,_=>rfl
 | .cons t r,x=>by simp only[Cs.tvs,YtZ,YjH,YjL r,YxQ]
mutual
theorem SV.eqb_refl: ∀a:SV,a.eqb a=true
 | .i z=>by simp[SV.eqb]
 | .b=>rfl
 | .s=>rfl
 | .u=>rfl
 | .nl=>rfl
 | .ef=>rfl
 | .l z=>by simp[SV.eqb,Cs.eqb_refl z]
 | .e z=>by simp[SV.eqb,Cs.eqb_refl z]
 | .ref z=>by simp[SV.eqb]
 | .pre z=>by simp[SV.eqb]
 | .np z=>by simp[SV.eqb]
 | .ptr z x y=>by simp[SV.eqb]
 | .ag z=>by simp[SV.eqb,SV.eqbs_refl z]
 | .tp z=>by simp[SV.eqb,SV.eqbs_refl z]
 | .clo g z=>by simp[SV.eqb,SV.eqbs_refl z]
theorem SV.eqbs_refl: ∀a:List SV,SV.eqbs a a=true
 | []=>rfl
 |a::r=>by simp[SV.eqbs,SV.eqb_refl a,SV.eqbs_refl r]
end
def argT(P:Program)(t:TypeId)(sv:SV)(c:Cs):Bool:=match P.underlying t with
 |some (.struct _)=>sv.eqb (.ag c.svs)&&okT P 20 t c
 |some (.array _ _)=>false
 |_=>match c with
  | .cons u .nil=>sv.eqb u.sv&&okT P 20 t c
  |_=>false
def Yv4(P:Program):List TypeId->List SV->Cs->Bool
 | [],[],.nil=>true
 |t::ts,v::vs,c=>Yxv (P.cellsOf t) c.width&&argT P t v (Cs.tk (P.cellsOf t) c)&&Yv4 P ts vs (Cs.dp (P.cellsOf t) c)
 |_,_,_=>false
theorem YpT(hb:BulkOK bulk all){W:World}{t:TypeId}{sv:SV}{c:Cs}(h:argT P t sv c=true){v:Value}(hv:Value.okWide P W .any base t v){b:Nat}{sp:Nat->Bool}{held:Bool}{d:DataW H}{ps:List MemPlace}
  (hd:DataW.Trod enc P W b sp held t v d ps): ∃x:c.den,c.rng x/\c.sz x<=bulk d/\ ∃tv:TV,tv.sh=some sv/\tv.lv=unp c x/\YuI tv=true/\VR fm W Yug v (avT tv):=by
 unfold argT at h
 split at h
 ·rename_i fs hu
  simp at h
  have h1:=SV.eq_of h.1
  subst h1
  have hR:=Yeh (enc:=enc) (w:=W) (base:=b) (spare:=sp) (held:=held) (fm:=fm) hb _ _ _ h.2
  obtain⟨x,k1,k2,k3⟩:=YpO (fm:=fm) (e:=c.tvs) hu hv hd (by simpa only[YjK]using hR)
  exact⟨x,k1,k2,.ag (c.tvs x),by simp only[TV.sh,YjI],by simp only[TV.lv,YjJ],by simp only[YuI,YjL],k3⟩
 ·cases h
 ·rename_i hns hna
  split at h
  ·rename_i u
   simp at h
   have h1:=SV.eq_of h.1
   subst h1
   have hR:=Yeh (enc:=enc) (w:=W) (base:=b) (spare:=sp) (held:=held) (fm:=fm) hb _ _ _ h.2
   have hag: ∀cs,¬Cell.okWide P W .any base t (.agg cs):=by
    intro cs hc
    have h2:=h.2
    unfold okT at h2
    cases hu:P.underlying t with
    |none=>simp_all
    |some y=>cases y<;>simp[hu]at h2<;>simp[Cell.okWide,Cell.ok,hu]at hc<;>first|exact hns _ hu|exact hna _ _ hu
   obtain⟨x,k1,k2,k3⟩:=YpP (fm:=fm) (X:=u.den) (e:=fun x=>[tvOf u x]) (p:=tvOf u) (sz:=u.sz) (ok:=u.rng) hns hna hv hag hd (fun _=>rfl) (by
    refine hR.conv ?_
    intro x hx
    refine⟨fstP .nil x,hx.1,?_,?_⟩
    ·simp only[avTs,YjG,Cs.enc]
    ·simp only[Cs.sz];omega)
   exact⟨x,⟨k1,trivial⟩,by trivial,tvOf u x,YjE _ _,YjF _ _,YjH _ _,k3⟩
  trivial
theorem YjM(hb:BulkOK bulk all)(h0: ∀l:List (DataW H),0<=all l){W:World}: ∀{ts:List TypeId} {svs:List SV} {c:Cs},Yv4 P ts svs c=true-> ∀{vs:List Value} {b:Nat} {sp:Nat->Bool} {held:Bool} {ds:List (DataW H)} {ps:List MemPlace},
  DataW.TrodAll enc P W b sp held ts vs ds ps->(∀(j:Nat) t v,ts[j]?=some t->vs[j]?=some v->Value.okWide P W .any base t v)->
  ∃x:c.den,c.rng x/\c.sz x<=all ds/\ ∃tvs:List TV,TV.shs tvs=some svs/\TV.lvs tvs=unp c x/\YtZ tvs=true/\tvs.length=vs.length/\ ∀j a,(avTs tvs)[j]?=some a->VR fm W Yug (vs.getD j undef) a
 | [],[],.nil,_,[],_,_,_,[],_,_,_=>⟨(),trivial,Yxz _,[],rfl,rfl,rfl,rfl,fun j a h=>by trivial⟩
 |t::ts,sv::svs,c,h,v::vs,b,sp,held,d::ds,ps,hd,hv=>by
  simp only[Yv4,YxL]at h
  obtain⟨p,q,h1,h2,rfl⟩:=hd
  obtain⟨x,a1,a2,tv,a3,a4,a5,a6⟩:=YpT (fm:=fm) hb h.1.2 (hv 0 t v rfl rfl) h1
  obtain⟨y,b1,b2,tvs,b3,b4,b5,b6,b7⟩:=YjM hb h0 h.2 h2 (fun j t v e1 e2=>hv (j+1) t v (by trivial) (by trivial))
  refine⟨Cs.jn _ c x y,YfS _ _ _ _ a1 b1,?_,tv::tvs,?_,?_,?_,?_,?_⟩
  ·rw[YfR]
   have:=hb.cons d ds
   omega
  ·simp only[TV.shs,a3,b3]
  ·simp only[TV.lvs,a4,b4,YjC]
  ·simp only[YtZ,a5,b5,YxQ]
  ·simp_all
  ·intro j a hj
   cases j with
   |zero=>simp only[avTs,List.getElem?_cons_zero,Option.some.injEq]at hj;simp_all
   |succ j=>simp only[avTs,List.getElem?_cons_succ]at hj;simp_all
 | [],[],.cons _ _,h,_,_,_,_,_,_,_,_=>by trivial
 | [],_::_,_,h,_,_,_,_,_,_,_,_=>by trivial
 |_::_,[],_,h,_,_,_,_,_,_,_,_=>by trivial
 | [],[],.nil,_,_::_,_,_,_,_,_,hd,_=>hd.elim
 | [],[],.nil,_,[],_,_,_,_::_,_,hd,_=>hd.elim
 |_::_,_::_,_,_,[],_,_,_,_,_,hd,_=>hd.elim
 |_::_,_::_,_,_,_::_,_,_,_,[],_,hd,_=>hd.elim
theorem YjN: ∀(c:Cs) (x:c.den),Yut (unp c x)=⟨c,x⟩
 | .nil,_=>rfl
 | .cons t r,x=>by
   have:=YjN r (sndP r x)
   show(match Yut (unp r (sndP r x))with| ⟨c,y⟩=>(⟨.cons t c,mkP c (fstP r x) y⟩:(c:Cs)×c.den))=_
   rw[this]
   exact congrArg (Sigma.mk (Cs.cons t r)) (Yh5 r x)
theorem YpU{g:Sg}{tvs:List TV}{x:g.c.den}(ho:g.os=[])(h1:TV.shs tvs=some g.vs)(h2:TV.lvs tvs=unp g.c x):g.read tvs []=some x:=by
 unfold Sg.read
 rw[h1]
 have e:Yut (TV.lvs tvs++lvOs [])=⟨g.c,x⟩:=by
  show Yut (TV.lvs tvs++[])=_
  rw[List.append_nil,h2,YjN]
 simp only[shOs,ho,SO.eqbs,Bool.and_true,SV.eqbs_refl,cond_true]
 rw[e]
 exact Cs.cast_refl _ _
end
end Go.Abs
namespace Go.Abs
open Go Go.RowKit Go.ChangeShapes Go.WideShapes Go.ChangeAt
theorem YjO{H:Type}{enc:TypeId×Value->H}{P:Program}{W:World}{b:Nat}{sp:Nat->Bool}{held:Bool}: ∀{ts:List TypeId} {vs:List Value} {ds:List (DataW H)} {ps:List MemPlace},
  DataW.TrodAll enc P W b sp held ts vs ds ps->vs.length=ts.length/\ds.length=ts.length
 | [],[],[],_,_=>⟨rfl,rfl⟩
 |t::ts,v::vs,d::ds,ps,h=>by
  obtain⟨p,q,h1,h2,rfl⟩:=h
  obtain⟨a,b⟩:=YjO h2
  simp_all
 | [],_::_,_,_,h=>h.elim
 | [],[],_::_,_,h=>h.elim
 |_::_,[],_,_,h=>h.elim
 |_::_,_::_,[],_,h=>h.elim
theorem YpV{P:Program}{fm:FM}{T:Tabs}(hS:Yue P fm T)(hl:laidOutB P=true){f:FuncId}{fn:Func}{s:ChangeSpec}{e:FnE}(he:e∈T.fs)(hp:T.pf e.g=true)(hf:fm f=e.g)(hos:e.args.os=[])
  {ps:Array TypeId} (hps:fn.params=ps) (harg:Yv4 P ps.toList e.args.vs e.args.c=true) {tb:TypeId} (hres:fn.resultTypes= #[tb]) (htb:P.underlying tb=some .bool) (hr:(ps.toList.all fun t=>P.readableRec t&&decide (t<P.types.size))=true) (hvars:s.vars=[])
  {H:Type} {enc:TypeId×Value->H} (hfn: ∀ds:List (DataW H),ds.length=ps.size->s.fn H ds={results:=[.lit (.bool true)],args:=ds})
  {bulk:DataW H->Nat} {all:List (DataW H)->Nat} (hb:BulkOK bulk all) {N:Nat}
  (law: ∀x:e.args.c.den,e.args.c.rng x->e.args.c.sz x<=N-> ∃y,e.F x=some y/\YtU e.res (unp e.co y)=some (.b true,[]))
  (W:World) (base:Nat) (args:Array Value) (ds gs:List (DataW H)) (before:List MemPlace)
  (hval: ∀(j:Nat) t v,fn.params[j]?=some t->args[j]?=some v->Value.okWide P W .any base t v)
  (hW:DataW.Whole enc P fn.params.toList s.vars false W args.toList ds gs before) (hk:all (ds++gs)<=N) (hTW:TabW fm W):
  Calls P f args W fun e W'=> ∃v,e= .returned v/\s.post enc P fn false true false false W args v W':=by
 have hW':=hW
 obtain⟨p,q,hA,hV,rfl,hfz,hnd⟩:=hW
 rw[hvars]at hV
 obtain⟨rfl,rfl⟩:=trodVars_none hV
 rw[List.append_nil]at hk
 have hl2:=YjO hA
 rw[hps]at hA hval
 obtain⟨x,k1,k2,tvs,k3,k4,k5,k6,k7⟩:=YjM (fm:=fm) (bulk:=bulk) (all:=all) hb (fun _=>Yxz _) harg hA (fun j t v h1 h2=>hval j t v (by simp_all) (by simp_all))
 obtain⟨y,h1,h2⟩:=law x k1 (Yxy k2 hk)
 refine(YpS hS he hp hf k5 (YpU hos k3 k4) h1 h2 (args:=args) (by simp_all) (fun j a hj=> ?_) hTW).mono fun e W' ⟨he,hb⟩=> ?_
 ·simp_all
 ·subst he
  refine⟨_,rfl,YpQ hl hres htb ?_ hvars hW' ?_ hb⟩
  ·grind
  simp_all
end Go.Abs
namespace Go.Abs
open Go Go.RowKit Go.Shelf Go.Proofs
def YuX(l:List ByteArray)(sep:ByteArray):ByteArray:=⟨(Lib.join (l.map fun s=>s.data.toList) sep.data.toList).toArray⟩
def YvS(l:List ByteArray)(sep:ByteArray):Option ByteArray:=bif Yxv l.length maxEl&&Yxv (YuX l sep).size 140737488355328 then some (YuX l sep)else none
def vjoinE(g:Nat):FnE:=⟨g,true,⟨[0,1],[.l (.cons .s .nil),.s],[],.cons (.l (.cons .s .nil)) (.cons .s .nil)⟩,.s,[],.cons .s .nil,fun(p:List ByteArray×ByteArray)=>YvS p.1 p.2⟩
theorem YpW{P:Program}{fm:FM}{ρ:Ren}(L:Lays.n156 P ρ)(X:Builder.Extra P ρ){w:World}{Lc:Nat->Loc}{l:List ByteArray}{sep:ByteArray}(hle:l.length<=maxEl)(hsz2:(YuX l sep).size<=140737488355328)
  {v0:Value} (hv0:VR fm w Lc v0 (.rd 1 (l.map fun s=>[.v (.string s)]))):Calls P (ρ.f 156) #[v0,.string sep] w fun e w'=>e= .returned (.string (YuX l sep))/\Below w.heap.size w w':=by
 generalize hL:(l.map fun s=>[AV.v (.string s)])=L0 at hv0
 generalize he:(1:Nat)=es at hv0
 cases hv0 with
 |rd0 A es c=>
  have:l=[]:=List.map_eq_nil_iff.1 hL
  subst this
  refine(Any.strings_Join_none L X A c sep w).mono ?_
  rintro e w' ⟨rfl,rfl⟩
  exact⟨rfl,Below.refl _ _⟩
 |rd b o c es l' vs' hne hes hes0 hlc hb hbs hc h1' hr'=>
  subst he
  subst hL
  rw[YwY]
  refine(Any.strings_Join L X b o c l sep w (fun j s hj=> ?_) hbs (Yxy hle (by decide)) (by simp_all) (by trivial)).mono ?_
  ·have g1:=hc j [AV.v (.string s)] 0 (.v (.string s)) (by grind) rfl
   have g2:=Yae (hr' j [AV.v (.string s)] 0 (.v (.string s)) (by grind) rfl)
   simp_all
  ·rintro e w' ⟨rfl,hbb⟩
   trivial
theorem YpX{P:Program}{fm:FM}{f:FuncId}{g:Nat}{ρ:Ren}(L:Lays.n156 P ρ)(X:Builder.Extra P ρ)(hf':ρ.f 156=f)(hcal:YtL P f=true):FOK P fm f (YuO (vjoinE g).R):=by
 rintro args H r H' ⟨n,rfl,rfl,_,_,⟨x,y,vs,v,h1,h2,h3,rfl,h5,h6,rfl⟩⟩
 refine⟨hcal,fun w Lc vals hr hsz hv=> ?_⟩
 have hl:vs.length=2:=Yeg h2
 have hfill:=YaV h2
 have key: ∀(x:List ByteArray×ByteArray) (y:ByteArray),YvS x.1 x.2=some y->Sg.fill ⟨[0,1],[.l (.cons .s .nil),.s],[],.cons (.l (.cons .s .nil)) (.cons .s .nil)⟩ x=some ⟨zipE [0,1] vs,[]⟩->YtU .s (unp (.cons .s .nil) y)=some (v,[])->
   vs=[.l (.cons .s .nil) x.1,.s x.2]/\v= .s (YuX x.1 x.2)/\x.1.length<=maxEl/\ (YuX x.1 x.2).size<=140737488355328:=by
  rintro⟨l,sep⟩ y hF hfill hfv
  obtain⟨hb,hF⟩:=Yaa hF
  injection hF with hF;subst hF
  simp only[YxL]at hb
  have hu2:unp (.cons .s .nil) (show(Cs.cons .s .nil).den from YuX l sep)=[⟨.s,YuX l sep⟩]:=rfl
  injection hfill with hfill;injection hfill with hz _
  match vs,hl with
  | [v0,v1],_=>
    simp only[zipE,List.cons.injEq,Prod.mk.injEq,and_true,true_and]at hz
    simp only[hu2,YtU,Option.some.injEq,Prod.mk.injEq]at hfv
    exact⟨by rw[<-hz.1,<-hz.2];rfl,hfv.1.symm,YxC hb.1,YxC hb.2⟩
 obtain⟨rfl,rfl,hle,hsz2⟩:=key x y h1 hfill h5
 have hv0:=hv 0 (.rd 1 (x.1.map fun s=>[.v (.string s)])) rfl
 have hv1:=Yae (hv 1 (.v (.string x.2)) rfl)
 have hvals:vals= #[vals.getD 0 undef,.string x.2]:=by
  have hs2:vals.size=2:=by trivial
  apply Array.ext
  ·trivial
  ·intro i hi _
   have:i=0\/i=1:=by omega
   rcases this with rfl|rfl
   ·simp[Array.getD,hi]
   ·simpa[Array.getD,hi]using hv1
 subst hf'
 have fin: ∀w',Below w.heap.size w w'-> ∃v L',(Ending.returned (Value.string (YuX x.1 x.2)))= .returned v/\Keep Lc w w'/\LStep Lc L' w.heap.size/\HR fm w' L' (hf (Z n []))/\VR fm w' L' v (avT (.s (YuX x.1 x.2))):=fun w' hb=>
  ⟨_,Lc,rfl,Yci hb,LStep.refl _ _,hr.mono (Yci hb) (fun b hb' _=>hb.block b hb'),.v _⟩
 rw[hvals]
 refine(YpW L X hle hsz2 hv0).mono ?_
 rintro e w' ⟨rfl,hb⟩
 exact fin w' hb
theorem YpY{P:Program}{fm:FM}{T:Tabs}(hS:Yue P fm T){g:Nat}(hp:T.pf g=true)
  (hG: ∀f,fm f=g->YtL P f=true/\ ∃ρ:Ren,Lays.n156 P ρ/\Builder.Extra P ρ/\ρ.f 156=f):Yue P fm ⟨T.pf,vjoinE g::T.fs,T.ls,0⟩:=
 YpN hS (e:=vjoinE g) hp (fun f h=>by obtain⟨k1,ρ,k2,k3,k4⟩:=hG f h;exact YpX k2 k3 k4 k1)
end Go.Abs
namespace Go.Abs
open Go Go.RowKit
def fmOf(l:List Nat)(f:Nat):Nat:=l.getD f 0
def Yu2(g:Nat):List Nat->Nat->Nat->Bool
 | [],_,_=>true
 |x::r,i,k=>(!(Yxr x g)||Yxr k i)&&Yu2 g r i (k+1)
theorem YjP{g i:Nat}: ∀{l:List Nat} {k:Nat},Yu2 g l i k=true-> ∀f,l[f]?=some g->k+f=i
 | [],k,_,f,h=>by simp at h
 |x::r,k,h,f,hf=>by
  simp only[Yu2,YxL,YxP,Bool.not_eq_true']at h
  cases f with
  |zero=>
   simp at hf;subst hf
   rcases h.1 with h1|h1
   ·rw[Nat.beq_refl]at h1;cases h1
   ·exact Yxt h1
  |succ f=>
   have:=YjP h.2 f (by simpa using hf)
   omega
theorem YjQ{l:List Nat}{g i f:Nat}(h:Yu2 g l i 0=true)(hg:g≠0)(hf:fmOf l f=g):f=i:=by
 unfold fmOf at hf
 cases hl:l[f]? with
 |none=>rw[YwT,hl]at hf;exact absurd hf.symm hg
 |some x=>
  rw[YwT,hl]at hf
  have hf:x=g:=hf
  subst hf
  have:=YjP h f hl
  omega
theorem Yag{P:Program}{fm:FM}{pf:Nat->Bool}{l:List Nat}{g i:Nat}{X:Option (Nat×List RV×ACode)}(hl:fm.f=fmOf l)(h:Yu2 g l i 0=true:=by kernel_rfl)(hg:g≠0:=by decide)(ht:fnTr P fm pf i=X:=by kernel_rfl): ∀f,fm f=g->fnTr P fm pf f=X:=fun f hf=>by
 have:f=i:=YjQ h hg (by rw[<-hl];exact hf)
 rw[this];exact ht
end Go.Abs
namespace Go.Abs
open Go Go.RowKit Go.ChangeShapes Go.WideShapes Go.ChangeAt
section
variable{H:Type}{enc:TypeId×Value->H}
theorem YpZ{a:Assume}{C:Checked}{os:Os}{f:FuncId}{fn:Func}{s:OpenSpec}{k:(H:Type)->List (DataW H)->Bool}(hk:s.cond=some k){F:Stop.Interp}{conds:List PathCond}{apart fresh handsOn again:Bool}{X:World->Prop}
  (own:ownKnob C.prog.godebug=none) (started:os.Started) (noInit:C.prog.inits.idxOf? f=none) (hfn:C.prog.funcs[f]?=some fn)
  (witness: ∃(w:World) (tape:Tape) (i:Input),w.os=os/\ (w.forCall tape i).Shaped C.prog/\i.vars=[]/\Input.okWide C.prog (w.forCall tape i) .any w.heap.size f i/\
   ((s.pre enc C.prog fn conds apart (w.forCall tape i).memory i.args/\X (w.forCall tape i).memory)/\sizedMet enc C.prog fn s apart (w.forCall tape i).memory i.args)/\a.holds C.prog (lone (Frame.enter C.prog f i.args .normal) [] (w.forCall tape i)))
  (contract: ∀(W:World) (base:Nat) (args:Array Value) (ds gs:List (DataW H)) (before:List MemPlace),
   (∀(j:Nat) t v,fn.params[j]?=some t->args[j]?=some v->Value.okWide C.prog W .any base t v)->
   DataW.Whole enc C.prog fn.params.toList s.vars apart W args.toList ds gs before->k H (ds++gs)=true->X W.memory->
   Calls C.prog f args W fun e W'=> ∃v,e= .returned v/\ (s.at F).post enc C.prog fn apart fresh handsOn again W args v W'):
  ReturnsInHanded a C os f .any (fun w args=>(s.pre enc C.prog fn conds apart w args/\X w)/\sizedMet enc C.prog fn s apart w args) ((s.at F).post enc C.prog fn apart fresh handsOn again):=by
 refine returnsInHanded_of_calls own started noInit witness ?_
 intro w tape i _ _ _ hok hpre hholds
 obtain⟨_,_,_,fn',hfn',_,_,_,_,hval⟩:=hok
 have e:fn'=fn:=Option.some.inj (hfn'.symm.trans hfn)
 subst e
 obtain⟨ds,gs,before,hw,hc,hkk⟩:=(OpenSpec.pre_some hk conds apart _ _).1 hpre.1.1
 have hw':=DataW.Whole.of_heap (w':=w.forCall tape i) (by rfl) hw
 refine(contract (w.forCall tape i) w.heap.size i.args ds gs before hval hw' hkk hpre.1.2).mono fun e W' ⟨v,he,hp⟩=> ?_
 subst he
 exact ChangeSpec.post_blind hp
theorem Yp0{C:Checked}{os:Os}{f:FuncId}{fn:Func}{s:OpenSpec}{k:(H:Type)->List (DataW H)->Bool}(hk:s.cond=some k){conds:List PathCond}{apart:Bool}{X:World->Prop}(modest:Bool)(w0:World)(args:Array Value)(fuel:Nat)(hos:w0.os=os)
  (hsh:(w0.forCall (fun _ _=>0) ⟨#[],args,[]⟩).Shaped C.prog)
  (hok:Input.okWideB C.prog (w0.forCall (fun _ _=>0) ⟨#[],args,[]⟩) f ⟨#[],args,[]⟩=true)
  {x:List (DataW H)×List (DataW H)×List MemPlace} (hx:DataW.whole enc C.prog (w0.forCall (fun _ _=>0) ⟨#[],args,[]⟩).memory fn.params.toList s.vars apart args.toList fuel=some x)
  (hconds:conds.all (PathCond.test C.prog ⟨fn.params.toList,x.1,s.bare.plain.varTypes C.prog,x.2.1⟩)=true) (hkk:k H (x.1++x.2.1)=true)
  (hX:X (w0.forCall (fun _ _=>0) ⟨#[],args,[]⟩).memory)
  (hsz:s.bare.sizedB enc C.prog fn apart (w0.forCall (fun _ _=>0) ⟨#[],args,[]⟩).memory args fuel=true):
  ∃(w:World) (tape:Tape) (i:Input),w.os=os/\ (w.forCall tape i).Shaped C.prog/\i.vars=[]/\Input.okWide C.prog (w.forCall tape i) .any w.heap.size f i/\
   ((s.pre enc C.prog fn conds apart (w.forCall tape i).memory i.args/\X (w.forCall tape i).memory)/\sizedMet enc C.prog fn s apart (w.forCall tape i).memory i.args)/\ ({modest:=modest}:Assume).holds C.prog (lone (Frame.enter C.prog f i.args .normal) [] (w.forCall tape i)):=
 ⟨w0,fun _ _=>0,⟨#[],args,[]⟩,hos,hsh,(Input.okWide_of_okWideB (base:=0) hok).1,(Input.okWide_of_okWideB hok).2,
  ⟨⟨(OpenSpec.pre_some hk conds apart _ _).2 ⟨x.1,x.2.1,x.2.2,DataW.Whole_of_whole hx,hconds,hkk⟩,hX⟩,sizedMet_of_sizedB hsz⟩,by
  exact⟨by simp,by simp,fun _=>Modest.zero,by simp,by simp⟩⟩
end
end Go.Abs
namespace Go.Abs
open Go Go.RowKit
def YuT:VCode->List (Nat×ACode)
 | .seq a b=>YuT a++YuT b
 | .cond _ a b=>YuT a++YuT b
 | .blk _ b=>YuT b
 | .fz _ b=>YuT b
 | .ow _ b=>YuT b
 | .loop lid b=>[(lid,.loop b.er)]
 | .jn lid b=>[(lid,b.er)]
 |_=>[]
abbrev LL:=List (LpE×ACode)
def getC(id:Nat):LL->Option ACode
 | []=>none
 | (p,c)::r=>bif Yxr p.id id then some c else getC id r
def gotC(ls:LL)(c:VCode):List (Option ACode):=(YuT c).map fun q=>getC q.1 ls
def Yva(c:VCode):List (Option ACode):=(YuT c).map fun q=>some q.2
abbrev fsts(ls:LL):List LpE:=ls.map Prod.fst
theorem YjR{ls:LL}{id:Nat}{e:LpE}{c:ACode}(h:getC id ls=some c)(he:Yvq id (fsts ls)=some e):(e,c)∈ls:=by
 induction ls with
 |nil=>cases h
 |cons a r ih=>
  obtain⟨p,d⟩:=a
  simp only[getC]at h
  simp only[fsts,YwS,Yvq]at he
  grind
section
variable{Fr:Nat->Prop}{H0:Heap}{C:Ctx}{pf:Nat->Bool}{fs:List FnE}{kb:Nat}{ls:LL}
theorem YaJ(hk: ∀q∈ls,Yud Fr H0 kb C q.2 q.1): ∀{c:VCode},gotC ls c=Yva c->LsOK Fr H0 C ⟨pf,fs,fsts ls,kb⟩ c
 | .seq a b,h=>by
   simp only[gotC,Yva,YuT,Yxk]at h
   obtain⟨h1,h2⟩:=List.append_inj h (by simp)
   exact⟨YaJ hk h1,YaJ hk h2⟩
 | .cond _ a b,h=>by
   simp only[gotC,Yva,YuT,Yxk]at h
   obtain⟨h1,h2⟩:=List.append_inj h (by simp)
   exact⟨YaJ hk h1,YaJ hk h2⟩
 | .blk _ b,h=>YaJ (c:=b) hk h
 | .fz _ b,h=>YaJ (c:=b) hk h
 | .ow _ b,h=>YaJ (c:=b) hk h
 | .loop lid b,h=>fun e he=>hk _ (YjR (List.cons.inj h).1 he)
 | .jn lid b,h=>fun e he=>hk _ (YjR (List.cons.inj h).1 he)
 | .skip,_=>trivial
 | .reg _,_=>trivial
 | .regN _ _,_=>trivial
 | .exit _,_=>trivial
 | .ret,_=>trivial
 | .bad,_=>trivial
inductive Lk(lo:Lo)(pf:Nat->Bool)(fs:List FnE)(kb:Nat):LL->Prop
 |n:Lk lo pf fs kb []
 |l {ls:LL} {p:LpE} {b:VCode} (h:Lk lo pf fs kb ls) (s:p.g.c.den->Option (p.g.c.den⊕Alt p.outs)) (hF:p.F=lo.run s:=by rfl) (ok:gotC ls b=Yva b:=by kernel_rfl)
    (eq: ∀x,YvQ ⟨pf,fs,fsts ls,kb⟩ p.own p.g p.outs b x=s x:=by intro x;kernel_rfl):Lk lo pf fs kb ((p,.loop b.er)::ls)
 |j {ls:LL} {p:LpE} {b:VCode} (h:Lk lo pf fs kb ls) (ok:gotC ls b=Yva b:=by kernel_rfl) (eq: ∀x,stepJ ⟨pf,fs,fsts ls,kb⟩ p.g p.outs b x=p.F x:=by intro x;kernel_rfl):Lk lo pf fs kb ((p,b.er)::ls)
 |r {ls:LL} {p:LpE} {c:ACode} (h:Lk lo pf fs kb ls) (hs: ∀C,TOK ⟨pf,fs,fsts ls,kb⟩ C-> ∀Fr H0,FrOK Fr H0->(∀q∈ls,Yud Fr H0 kb C q.2 q.1)->Yud Fr H0 kb C c p):Lk lo pf fs kb ((p,c)::ls)
theorem Lk.snd{lo:Lo}(hlo:LoOK lo)(hT:TOK ⟨pf,fs,[],kb⟩ C)(hf:FrOK Fr H0)(h:Lk lo pf fs kb ls): ∀q∈ls,Yud Fr H0 kb C q.2 q.1:=by
 induction h with
 |n=>simp
 |l h s hF ok eq ih=>
  intro q hq
  rcases Yw2.1 hq with rfl|hq
  ·exact Yo8 (Ych hT) hf (YaJ ih ok) (fun x y h=>Ypz eq (hlo _ _ _ (by simp_all)))
  simp_all
 |j h ok eq ih=>
  intro q hq
  rcases Yw2.1 hq with rfl|hq
  ·exact Yo9 (Ych hT) hf (YaJ ih ok) (fun x y h=>(eq x).trans h)
  simp_all
 |r h hs ih=>
  intro q hq
  rcases Yw2.1 hq with rfl|hq
  ·exact hs C (Ych hT) Fr H0 hf ih
  simp_all
theorem Lk.m{lo:Lo}{id it nx mo out:Nat}{own:List (Nat×Option Nat×Bool)}{g0 g:Sg}{outs:List Out1}{pre bb rest:VCode}(h:Lk lo pf fs kb ls)
  {p:g.c.den->ItP} {t:g.c.den->Int->Option g.c.den} {r:g.c.den->Option (Alt outs)} {u:g0.c.den->Option g.c.den} {F:g0.c.den->Option (Alt outs)}
  (ok:gotC ls (.seq pre (.seq bb rest))=Yva (.seq pre (.seq bb rest)))
  (hp: ∀x,itR g it x=some (p x)) (ht: ∀x b,Ywt ⟨pf,fs,fsts ls,kb⟩ own g it nx mo out bb x b=t x b) (hr: ∀x,endR ⟨pf,fs,fsts ls,kb⟩ g nx mo out bb rest outs x=r x) (hu: ∀x,preR ⟨pf,fs,fsts ls,kb⟩ pre own g0 g x=u x)
  (hF:F=fun x=>YxD (u x) (rngF p t r)):
  Lk lo pf fs kb ((⟨id,own,g0,outs,F⟩,.seq (.seq pre.er (.blk out (.loop (.seq (.reg [⟨some nx,.px .mnxt [.t it],none,false,false⟩,⟨some mo,.ext (.t nx) 0,none,false,false⟩]) (Yvs mo out bb).er)))) rest.er)::ls):=
 .r h (fun C hT Fr H0 hf hk=>by
  obtain⟨k1,k2,k3⟩:=YaJ (pf:=pf) (fs:=fs) hk ok
  exact Ypx hT hf k1 ⟨⟨trivial,trivial⟩,k2⟩ k3 hp ht hr hu (fun x y h=>Ypy (by simp_all)))
end
structure GS(P:Program)(fm:FM)(pf:Nat->Bool)(fs:List FnE)(lo:Lo):Prop where
 lo:LoOK lo
 mx:P.follows .mixedOrders=true
 S:Yue P fm ⟨pf,fs,[],0⟩
abbrev TieF(P:Program)(fm:FM)(pf:Nat->Bool)(g:Nat)(F:VFn):Prop:= ∀f,fm f=g->fnTr P fm pf f=some (F.slots,F.res,F.code.er)
def eqNs:List Nat->List Nat->Bool
 | [],[]=>true
 |a::r,b::s=>Yxr a b&&eqNs r s
 |_,_=>false
theorem YjS: ∀{a b:List Nat},eqNs a b=true->a=b
 | [],[],_=>rfl
 |a::r,b::s,h=>by
  simp only[eqNs,YxL]at h
  rw[Yxt h.1,YjS h.2]
 | [],_::_,h|_::_,[],h=>by cases h
def chkF(pf:Nat->Bool)(p:Bool)(e:FnE)(F:VFn):Bool:=(match p with|true=>pf e.g|false=> !pf e.g)&& (Yxv F.res.length 4&& (eqNs e.args.ts (List.range' 0 e.args.vs.length)&&Yxv e.args.vs.length F.slots))
section
variable{P:Program}{fm:FM}{pf:Nat->Bool}{fs:List FnE}{lo:Lo}
theorem YfT{p:Bool}{e:FnE}{F:VFn}(h:chkF pf p e F=true):pf e.g=p/\F.res.length<=4/\e.args.ts=List.range' 0 e.args.vs.length/\e.args.vs.length<=F.slots:=by
 simp only[chkF,YxL,Nat.ble_eq]at h
 refine⟨?_,h.2.1,YjS h.2.2.1,h.2.2.2⟩
 grind
theorem GS.p(h:GS P fm pf fs lo)(e:FnE){F:VFn}{ls:LL}(hk:Lk lo pf fs 0 ls)(t:TieF P fm pf e.g F)(hc:chkF pf true e F=true:=by kernel_rfl)(ok:gotC ls F.code=Yva F.code:=by kernel_rfl)
  (eq: ∀x,evP ⟨pf,fs,fsts ls,0⟩ F e.args e.res e.co x=e.F x:=by intro x;kernel_rfl):GS P fm pf (e::fs) lo:=by
 obtain⟨h1,h2,h3,h4⟩:=YfT hc
 exact⟨h.1,h.2,Yph h.S h.mx (fsts ls) e h1 F t h2 h3 h4 (fun C hT=>YaJ (hk.snd h.1 (Ych hT) frNo) ok) (fun x y h=>(eq x).trans h)⟩
theorem GS.i(h:GS P fm pf fs lo)(e:FnE){F:VFn}{ls:LL}(hk:Lk lo pf fs e.args.os.length ls)(t:TieF P fm pf e.g F)(hc:chkF pf false e F=true:=by kernel_rfl)(ok:gotC ls F.code=Yva F.code:=by kernel_rfl)
  (eq: ∀x,evI ⟨pf,fs,fsts ls,e.args.os.length⟩ F e.args e.res e.os e.co x=e.F x:=by intro x;kernel_rfl):GS P fm pf (e::fs) lo:=by
 obtain⟨h1,h2,h3,h4⟩:=YfT hc
 exact⟨h.1,h.2,Ypk h.S h.mx (fsts ls) e h1 F t h2 h3 h4 (fun C hT Fr H0 hf=>YaJ (hk.snd h.1 (Ych hT) hf) ok) (fun x y h=>(eq x).trans h)⟩
abbrev FnE.wi(e:FnE)(F:e.args.c.den->Option e.co.den):FnE:=⟨e.g,e.pf,e.args,e.res,e.os,e.co,F⟩
theorem GS.ir(h:GS P fm pf fs lo)(e:FnE){F:VFn}(Fn:Nat->e.args.c.den->Option e.co.den){ls:(e.args.c.den->Option e.co.den)->LL}(hk: ∀r,Lk lo pf (e.wi r::fs) e.args.os.length (ls r))(t:TieF P fm pf e.g F)(hc:chkF pf false e F=true)
  (h0: ∀x,Fn 0 x=none) (hF:e.F=fun x=>lo.run (fixS Fn) (0,x)) (ok: ∀r,gotC (ls r) F.code=Yva F.code) (eq: ∀n x,evI ⟨pf,e.wi (Fn n)::fs,fsts (ls (Fn n)),e.args.os.length⟩ F e.args e.res e.os e.co x=Fn (n+1) x):GS P fm pf (e::fs) lo:=by
 obtain⟨h1,h2,h3,h4⟩:=YfT hc
 exact⟨h.1,h.2,Ypl h.S h.mx e h1 Fn (fun n=>fsts (ls (Fn n))) F t h2 h3 h4 h0 (fun x y hy=>YpB (h.1 _ _ _ (by rw[hF]at hy;exact hy))) (fun n C hT Fr H0 hf=>YaJ ((hk (Fn n)).snd h.1 (Ych hT) hf) (ok _)) (fun n x y h=>(eq n x).trans h)⟩
end
end Go.Abs
namespace Go.Abs
open Go Go.RowKit Go.Shelf Go.Proofs
theorem Yp1{vs:List TV}(hlen:vs.length=1){X:YtI}{va:TV}(h:some (VSt.mk (zipE [0] [va]) [])=some ⟨zipE [0] vs,X⟩):vs=[va]:=by
 match vs,hlen with
 | [v0],_=>
   injection h with h;injection h with h _
   simp only[zipE,List.cons.injEq,Prod.mk.injEq,and_true,true_and]at h
   simp_all
abbrev Dv:Type:=Int×List Int×Int×Int
abbrev dvC:Cs:=.cons (.i .i64) (.cons (.l (.cons (.i .i64) .nil)) (.cons (.i .u32) (.cons (.i .u32) .nil)))
end Go.Abs
namespace Go.Abs
open Go Go.RowKit Go.Shelf Go.Proofs
def YtJ(d:Dv):Bool:=decide (d.1=3)||decide (d.1=4)
def dvZ:Dv:=(0,[],0,0)
def Yuw(i:Nat):List Int->List Bool->Option (List Bool)
 | [],u=>some u
 |k::r,u=>if k<0\/(i:Int)<=k then none else Yuw i r (u.set k.toNat (u.getD k.toNat false||u.getD i false))
def Yvl(out:List Dv)(i:Nat)(u:List Bool):Option (List Bool):=
 if YtJ (out.getD i dvZ)then Yuw i (out.getD i dvZ).2.1 u else some u
def marks(out:List Dv):Nat->List Bool->Option (List Bool)
 |0,u=>some u
 |i+1,u=>YxD (Yvl out i (u.set i (u.getD i false||decide (i+1=out.length)))) (marks out i)
def YtN(num:List Int)(d:Dv):Dv:=if YtJ d then(d.1,d.2.1.map (fun k=>num.getD k.toNat 0),d.2.2.1,d.2.2.2)else d
def sel(used:List Bool):Nat->List Dv->List Int->List Dv->List Dv
 |_,[],_,acc=>acc
 |i,d::r,num,acc=>if used.getD i false then sel used (i+1) r (num.set i acc.length) (acc++[YtN num d])else sel used (i+1) r num acc
def YtQ(l:List Dv):List Dv:=match marks l l.length (List.replicate l.length false)with
 |none=>l
 |some u=>sel u 0 l (List.replicate l.length 0) []
def Yvm(l:List Dv):Option (List Dv):=bif decide (l.length<=65536)&&l.all (fun d=>decide (d.2.1.length<=65536))then some (YtQ l)else none
def pruneE(g:Nat):FnE:=⟨g,true,⟨[0],[.l dvC],[],.cons (.l dvC) .nil⟩,.l dvC,[],.cons (.l dvC) .nil,fun(l:List Dv)=>Yvm l⟩
def YvT(P:Program)(fm:FM)(f:FuncId):Prop:= ∀g:Nat,FOK P fm f (YuO (pruneE g).R)
theorem Yp2{P:Program}{fm:FM}{T:Tabs}(hS:Yue P fm T){g:Nat}(hp:T.pf g=true)
  (hG: ∀f,fm f=g->YtL P f=true/\YvT P fm f):Yue P fm ⟨T.pf,pruneE g::T.fs,T.ls,0⟩:=by
 obtain⟨C,hC,hT⟩:=hS
 exact⟨Yum C g (YuO (pruneE g).R),Ybs hC (fun _=>Yfc _) (fun f hf=>(hG f hf).2 g),YfN (e:=pruneE g) hT hp⟩
end Go.Abs
namespace Go.Abs
def YvU{S R:Type}(step:S->Option (S⊕R)):Nat->S->Option (Option R)
 |0,_=>none
 |n+1,s=>match step s with
  |some (.inl s')=>YvU step n s'
  |some (.inr r)=>some (some r)
  |none=>some none
theorem Ylc{S R:Type}(step:S->Option (S⊕R)): ∀(n:Nat) (x:S) (o:Option R),YvU step n x=some o->Yuk step x=o
 |0,_,_,h=>by cases h
 |n+1,x,o,h=>by
  rw[Yaj]
  simp only[YvU]at h
  split at h
  ·rename_i s hs;rw[hs];exact Ylc step n s o h
  ·rename_i r hs;rw[hs];injection h
  ·rename_i hs;rw[hs];injection h
noncomputable def loM(n:Nat):Lo:=⟨fun step x=>match YvU step n x with|some y=>y|none=>Yuk step x⟩
theorem Yf7(n:Nat):loM n=loO:=by
 unfold loM loO
 congr 1
 funext S R step x
 cases h:YvU step n x with
 |none=>rfl
 |some y=>exact(Ylc step n x y h).symm
end Go.Abs
