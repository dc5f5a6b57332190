/- Loops over maps, with what stands behind them: whatever the order of the entries. No condition. -/
import Derived.Test.YtgegamaadohibaaA3
import Derived.Shelf.Spec.SlicesGrow
import Derived.Laws.AppendOwn
import Derived.Shelf.Strings.Builder1
import Derived.Shelf.Small.Strs
import Derived.Shelf.Strings.Repeat
import Derived.Carry
import Derived.WalkKit
import Derived.ProofKit
import Derived.OpenShut
import Derived.Shelf.Sort.Plain
import Derived.Shelf.Strings.OnBuilder
import Derived.JoinedCond
import Derived.LaidMore
import Derived.Shelf.Slices.CompactI
import Derived.Shelf.Strconv.Itoa4
import Derived.Lib.AppendIntMem
import Derived.Shelf.Spec.SlicesInsert
import Derived.Lib.AppendZerosOnto
import Derived.Shelf.SlGeneric
set_option linter.unusedVariables false
set_option linter.unusedSimpArgs false
set_option linter.unusedSectionVars false
open List renaming getElem?_eq_some_iff → Yz9, getElem?_eq_getElem → YAa, getElem?_map → YAc, map_cons → YAd, mem_cons → YAi, getD_eq_getElem?_getD → YAj, length_eq_zero_iff → YAk, mem_cons_self → YAq, getElem?_set_self → YAr, getElem?_eq_none → YAt, mem_cons_of_mem → YAx, ext_getElem? → YAA, nil_append → YAG, map_append → YAH, length_nil → YAK, cons_append → YAL
open Nat renaming beq → YAN, le_refl → YAO, eq_of_beq_eq_true → YAP, blt → YAQ, ble → YAR, zero_add → YAS, le_trans → YAT, lt_of_lt_of_le → YAU, add_mul → YAW, zero_le → YAX, le_of_ble_eq_true → YAY
open Option renaming bind → YAZ, map_some → YA1, getD_some → YA4
open Bool renaming and_eq_true → YA7, and_self → YBa
open Array renaming getD_eq_getD_getElem? → YBc, getElem?_eq_some_iff → YBd, getElem?_eq_getElem → YBf
namespace Go.Abs
open Go Go.RowKit
abbrev ItP:=List Int×List Int×Int×Int×Int
def YyD(c:Cs)(l:List (Cs.cons (.i .i64) c).den):List Int:= @List.map (Cs.cons (.i .i64) c).den Int (fun x=>fstP c x) l
def itV(it:Nat)(s:VSt):Option ItP:=
 match Yw0 s.env it with
 | .np i=>match vget s.heap i with
   |some (.st [.np a,.i .i64 s0,.i .i64 t0,.l c sn,_])=>match asL c I64 sn with
    |some sn=>match vget s.heap a with
     |some (.st (.i .i64 n:: .l (.cons (.i .i64) c') l::tags))=>bif YAN tags.length 1||YAN tags.length 2 then some (YyD c' l,sn,n,s0,t0)else none
     |some (.fm (.mp o n) c _ _ l)=>some (YyD (.cons (kty o) (.cons (.l c) .nil)) l,sn,n,s0,t0)
     |_=>none
    |none=>none
   |_=>none
 |_=>none
def addI(sn:List Int)(b:Int):List Int:=sn++[b]
def YzJ(it nx mo:Nat)(b:Int)(s:VSt):Option VSt:=
 match Yw0 s.env it with
 | .np i=>match vget s.heap i with
   |some (.st [m,s0,t0,.l c sn,tg])=>match asL c I64 sn with
    |some sn=>some ⟨(mo,.b true)::(nx,.u)::s.env,vset s.heap i (some (.st [m,s0,t0,.l I64 (addI sn b),tg]))⟩
    |none=>none
   |_=>none
 |_=>none
def YyJ(mo out:Nat)(bb:VCode):VCode:=.seq (.cond (.t mo) .skip (.exit out)) bb
def itR(g:Sg)(it:Nat)(x:g.c.den):Option ItP:=match g.fill x with|some s=>itV it s|none=>none
def YzK(T:Tabs)(own:List (Nat×Option Nat×Bool))(g:Sg)(it nx mo out:Nat)(bb:VCode)(x:g.c.den)(b:Int):Option g.c.den:=
 match g.fill x with
 |some s=>match YzJ it nx mo b s with
  |some s1=>ev T (YyJ mo out bb) s1 fun e s'=>match e with
   | .nor=>match YxW T.kb g.ts (ownV own s')with| (vs,X)=>g.read vs X
   |_=>none
  |none=>none
 |none=>none
def endR(T:Tabs)(g:Sg)(nx mo out:Nat)(bb rest:VCode)(outs:List Out1)(x:g.c.den):Option (Alt outs):=
 match g.fill x with
 |some s=>ev T (YyJ mo out bb) ⟨(mo,.b false)::(nx,.u)::s.env,s.heap⟩ fun e s'=>match e with
  | .exit id=>bif YAN id out then ev T rest s' (fun e s''=>outK T.kb outs e s'')else none
  |_=>none
 |none=>none
def preR(T:Tabs)(pre:VCode)(own:List (Nat×Option Nat×Bool))(g0 g:Sg)(x:g0.c.den):Option g.c.den:=
 match g0.fill x with
 |some s=>ev T pre s fun e s'=>match e with
  | .nor=>match YxW T.kb g.ts (ownV own s')with| (vs,X)=>g.read vs X
  |_=>none
 |none=>none
section
variable{A R:Type}
inductive RunR(p:A->ItP)(t:A->Int->Option A)(r:A->Option R)(B:List Int)(c:Int):List Int->A->R->Prop
 |fin {sn:List Int} {x:A} {y:R} (h: ∀b∈B,b∈sn) (hp:p x=(B,sn,c,c,c)) (hr:r x=some y):RunR p t r B c sn x y
 |go {sn:List Int} {x:A} {y:R} (f:Int->A) (hp:p x=(B,sn,c,c,c)) (hb: ∃b∈B,b∉sn) (ht: ∀b∈B,b∉sn->t x b=some (f b))
  (hg: ∀b∈B,b∉sn->RunR p t r B c (sn++[b]) (f b) y):RunR p t r B c sn x y
def Good(p:A->ItP)(t:A->Int->Option A)(r:A->Option R)(x:A)(y:R):Prop:= ∃B c,RunR p t r B c [] x y
open Classical in
noncomputable def rngF(p:A->ItP)(t:A->Int->Option A)(r:A->Option R)(x:A):Option R:=
 if h: ∃y,Good p t r x y then some (Classical.choose h)else none
theorem Yq4{p:A->ItP}{t:A->Int->Option A}{r:A->Option R}{x:A}{y:R}(h:rngF p t r x=some y):Good p t r x y:=by
 unfold rngF at h
 split at h
 ·grind
 trivial
theorem RunR.p{p:A->ItP}{t:A->Int->Option A}{r:A->Option R}{B:List Int}{c:Int}{sn:List Int}{x:A}{y:R}(h:RunR p t r B c sn x y):p x=(B,sn,c,c,c):=by cases h<;>assumption
end
section
variable{Fr:Nat->Prop}{H0:Heap}{T:Tabs}{C:Ctx}
def Yyh(B sn:List Int):Nat:=(B.filter fun b=> !sn.contains b).length
theorem Yq5{B sn:List Int}{b:Int}(h:b∈B)(hn:b∉sn):Yyh B (sn++[b])<Yyh B sn:=by
 unfold Yyh
 induction B with
 |nil=>cases h
 |cons a B ih=>
  have hle: ∀B:List Int,(B.filter fun x=> !(sn++[b]).contains x).length<=(B.filter fun x=> !sn.contains x).length:=by
   intro B
   induction B with
   |nil=>simp
   |cons c B ih=>
    grind
  grind
theorem Yq6{bl:List (List AV)}{sn:List Int}(h:Rows bl I64 sn):bl=sn.map fun b=>[.v (.int .i64 b)]:=by
 refine YAA fun i=> ?_
 rw[YAc]
 cases hi:bl[i]? with
 |none=>
  have:sn[i]?=none:=by
   rw[List.getElem?_eq_none_iff]at hi⊢
   have hl:bl.length=sn.length:=h.1
   omega
  simp_all
 |some e=>
  have hlt:=(Yz9.1 hi).1
  have hl:bl.length=sn.length:=h.1
  have hs:sn[i]?=some sn[i]:=YAa (by omega)
  have hcc:=h.2 i e _ hi hs
  rw[hs]
  have h1:=hcc.1
  match e,h1 with
  | [z],_=>
    have:=hcc.2 0 z _ rfl rfl
    rw[show z= .v (.int .i64 sn[i])from Yaz this];rfl
theorem Yq7{el:List (List AV)}{c:Cs}{l:List (Cs.cons (.i .i64) c).den}(h:Rows el (.cons (.i .i64) c) l):el.map Yyb=(YyD c l).map some:=by
 unfold YyD
 refine YAA fun i=> ?_
 rw[YAc,YAc,YAc]
 cases hi:el[i]? with
 |none=>
  have:l[i]?=none:=by
   rw[List.getElem?_eq_none_iff]at hi⊢
   have hl:el.length=l.length:=h.1
   omega
  simp_all
 |some e=>
  have hlt:=(Yz9.1 hi).1
  have hl:el.length=l.length:=h.1
  have hs:l[i]?=some l[i]:=YAa (by omega)
  have hcc:=h.2 i e _ hi hs
  rw[hs]
  have h1:=hcc.1
  match e,h1 with
  |z::r,_=>
   have:=hcc.2 0 z _ rfl rfl
   rw[show z= .v (.int .i64 (fstP c l[i]))from Yaz this];rfl
theorem Yq8(c:Cs)(l:List (Cs.cons (.i .i64) c).den)(i:Nat):(YyD c l)[i]?=(l[i]?).map fun x=>fstP c x:=by unfold YyD;exact YAc
def MapB(X:YwS)(a:Nat)(n:Int)(B:List Int):Prop:=
 (∃c' l tags,vget X a=some (.st (.i .i64 n:: .l (.cons (.i .i64) c') l::tags))/\ (tags.length=1\/tags.length=2)/\B=YyD c' l)\/
 ∃o c v h l,vget X a=some (.fm (.mp o n) c v h l)/\B=YyD (.cons (kty o) (.cons (.l c) .nil)) l
theorem Yq9{X:YwS}{pl:Pl}{H:Heap}{a y:Nat}{n:Int}{B:List Int}(hr:HRel Fr H0 X pl H)(h:MapB X a n B)(hp:pl (.m a)=some y): ∃O el tags,H[y]?=some (some O)/\mapO O=some (n,el,tags)/\el.map Yyb=B.map some:=by
 rcases h with⟨c',l,tags,h1,h2,rfl⟩| ⟨o,c,v,h,l,h1,rfl⟩
 ·obtain⟨el,at',R0,f8,f9,f10,f11⟩:=Yer hr h1 hp h2
  exact⟨_,el,_,f8,f9,Yq7 f10⟩
 ·obtain⟨y',el,g1,g2,g3,g4,g6⟩:=hr.obj a _ h1
  rw[hp]at g1;injection g1 with g1;subst g1
  refine⟨_,el,[.v (.bool false)],g2,rfl,?_⟩
  apply YAA
  intro i
  rw[YAc,YAc]
  refine Eq.trans ?_ (congrArg (Option.map some) (Yq8 (.cons (kty o) (.cons (.l c) .nil)) l i).symm)
  show Option.map Yyb el[i]?=Option.map some (Option.map (fun x:(mapC o (.l c) .nil).den=>x.1) ((show List (mapC o (.l c) .nil).den from l)[i]?))
  by_cases hi:i<l.length
  ·obtain⟨r,e,_⟩:=YfW (g6 i _ l[i] (YAa (by omega:i<el.length)) (YAa hi))
   rw[YAa (by omega:i<el.length),e]
   exact congrArg (fun z=>Option.map some (Option.map (fun x:(mapC o (.l c) .nil).den=>x.1) z)) (YAa (l:=(show List (mapC o (.l c) .nil).den from l)) hi).symm
  ·rw[YAt (by omega)]
   exact congrArg (fun z=>Option.map some (Option.map (fun x:(mapC o (.l c) .nil).den=>x.1) z)) (YAt (l:=(show List (mapC o (.l c) .nil).den from l)) (Nat.le_of_not_lt hi)).symm
theorem Yra{X:YwS}{a:Nat}{n:Int}{B:List Int}(h:MapB X a n B): ∃o,vget X a=some o:=by
 rcases h with⟨_,_,_,h,_⟩| ⟨_,_,_,_,_,h,_⟩<;>exact⟨_,h⟩
theorem Yrb{it:Nat}{s:VSt}{B sn:List Int}{n s0 t0:Int}(h:itV it s=some (B,sn,n,s0,t0)):
  ∃i a tg,Yw0 s.env it= .np i/\vget s.heap i=some (.st [.np a,.i .i64 s0,.i .i64 t0,.l I64 sn,tg])/\MapB s.heap a n B:=by
 unfold itV at h
 split at h
 ·rename_i i hi
  split at h
  ·rename_i a s0' t0' c sn' tg ho
   split at h
   ·rename_i sn2 hs
    split at h
    ·rename_i n' c' l tags hm
     obtain⟨e1,e2⟩:=Yaa h
     injection e2 with e2;injection e2 with e3 e2;injection e2 with e4 e2;injection e2 with e5 e2;injection e2 with e6 e7
     subst e3;subst e4;subst e5;subst e6;subst e7
     obtain⟨ec,es⟩:=YaA hs
     subst ec;subst es
     simp at e1
     exact⟨i,_,_,hi,ho,.inl ⟨_,_,_,hm,e1,rfl⟩⟩
    ·rename_i o n' c' ver hole l hm
     injection h with e2;injection e2 with e3 e2;injection e2 with e4 e2;injection e2 with e5 e2;injection e2 with e6 e7
     subst e3;subst e4;subst e5;subst e6;subst e7
     obtain⟨ec,es⟩:=YaA hs
     subst ec;subst es
     exact⟨i,_,_,hi,ho,.inr ⟨_,_,_,_,_,hm,rfl⟩⟩
    trivial
   trivial
  trivial
 trivial
theorem Yrc(hT:TOK T C)(hfr:FrOK Fr H0){id it nx mo out:Nat}{own0 own:List (Nat×Option Nat×Bool)}{g0 g:Sg}{outs:List Out1}{pre bb rest:VCode}
  (hl0:LsOK Fr H0 C T pre) (hl1:LsOK Fr H0 C T (YyJ mo out bb)) (hl2:LsOK Fr H0 C T rest)
  {p:g.c.den->ItP} {t:g.c.den->Int->Option g.c.den} {r:g.c.den->Option (Alt outs)} {u:g0.c.den->Option g.c.den} {F:g0.c.den->Option (Alt outs)}
  (hp: ∀x,itR g it x=some (p x)) (ht: ∀x b,YzK T own g it nx mo out bb x b=t x b) (hr: ∀x,endR T g nx mo out bb rest outs x=r x) (hu: ∀x,preR T pre own g0 g x=u x)
  (hF: ∀x y,F x=some y-> ∃z,u x=some z/\Good p t r z y):
  Yxq Fr H0 T.kb C (.seq (.seq pre.er (.blk out (.loop (.seq (.reg [⟨some nx,.px .mnxt [.t it],none,false,false⟩,⟨some mo,.ext (.t nx) 0,none,false,false⟩]) (YyJ mo out bb).er)))) rest.er) ⟨id,own0,g0,outs,F⟩:=by
 intro x0 y hx0 s00 hfill0 q b st hs0
 obtain⟨z,hz,B,c,hrun⟩:=hF x0 y hx0
 rw[<-hu]at hz
 unfold preR at hz
 have hfill0':g0.fill x0=some s00:=hfill0
 rw[hfill0']at hz
 simp only at hz
 let QF:Ex->ASt->Prop:=fun ex st'=> ∃s',altK outs y (fun o z=>o.ex=ex/\o.g.fill z=some s')/\VS Fr H0 (T.kb,q) b s' st'
 refine Ya9 (Ya9 (YaC hT hfr hz hl0 hs0 (fun e s' st' g1 g2=> ?_)))
 cases e with
 |exit id'=>trivial
 |ret=>trivial
 |nor=>
 simp only at g1
 show Sat C (.blk out _) _ st'
 cases hkp:YxW T.kb g.ts (ownV own s')with
 |mk vs X=>
 rw[hkp]at g1
 simp only at g1
 obtain⟨hb,hkb,pl,he,hrl,hpk⟩:=g2
 obtain⟨st1,pl1,k1,k2,k3,k4,k8,k9⟩:=YaF (ws:=own) hb he hrl
 obtain⟨pl2,k5,k6,k7,k10⟩:=Yc7 (env:=(ownV own s').env) (X:=(ownV own s').heap) k3 k4 (YAT hkb k8) hkp
 refine YiI (YiJ (fun m t=> ∃x sn s,RunR p _ r B c sn x y/\m=Yyh B sn/\g.fill x=some s/\VS Fr H0 (T.kb,q) b s t)
  ⟨Yyh B [],st1,⟨z,[],_,hrun,rfl,YaY g1,k2,k7,pl2,k5,k6,fun i hi w hw=>hpk i hi w (k9 i (YAU hi hkb) w (k10 i hi w hw))⟩,k1⟩ ?_)
 rintro m s1 ⟨x,sn,s,hrn,rfl,hfill,hvs⟩
 have hit:itV it s=some (B,sn,c,c,c):=by
  have:=hp x
  unfold itR at this
  rw[hfill]at this
  rw[hrn.p]at this
  trivial
 obtain⟨i,a,tg,e1,e2,e3⟩:=Yrb hit
 obtain⟨oa,hoa⟩:=Yra e3
 obtain⟨hb,hkb,pl,he,hrl,hpk⟩:=hvs
 have hti:=he it
 rw[e1]at hti
 obtain⟨yi,f1,f2⟩:=YaJ e2 hti
 obtain⟨e,f3,_,f4⟩:=Yep hrl e2 f2
 obtain⟨a0,r1,rfl,q0,f4⟩:=f4.inv
 obtain⟨a1,r2,rfl,q1,f4⟩:=f4.inv
 obtain⟨a2,r3,rfl,q2,f4⟩:=f4.inv
 obtain⟨a3,r4,rfl,q3,f4⟩:=f4.inv
 obtain⟨a4,r5,rfl,q4,f4⟩:=f4.inv
 have:r5=[]:=YAk.1 f4.1.symm
 subst this
 obtain⟨ya,rfl,f5⟩:=YaJ hoa q0
 cases q1;cases q2
 obtain⟨bl,f6,f7⟩:=Yeq q3
 obtain⟨O,el,at',f8,f9,hbo⟩:=Yq9 hrl e3 f5
 have hbl:=Yq6 f7
 refine Ya9 (Yq3 (S:=a3) (tg:=a4) f1 f3 rfl f6 hbl f8 f9 hbo (fun hall=> ?_) (fun bn hbB hbn=> ?_))
 ·
  have hend:r x=some y:=by
   cases hrn with
   |fin _ _ h=>exact h
   |go f _ hb' _ _=>grind
  rw[<-hr]at hend
  unfold endR at hend
  rw[hfill]at hend
  simp only at hend
  show Sat C (YyJ mo out bb).er _ ⟨(mo,.v (.bool false))::(nx,.u)::s1.env,s1.heap,s1.base⟩
  refine YaC hT hfr hend hl1 (b:=b) (q:=q) (st:=⟨(mo,.v (.bool false))::(nx,.u)::s1.env,s1.heap,s1.base⟩) ⟨hb,hkb,pl,Ybw (d:=some mo) (Ybw (d:=some nx) he (.u _)) (.b false),hrl,hpk⟩ (fun e s' st' g1 g2=> ?_)
  cases e with
  |nor=>trivial
  |ret=>trivial
  |exit id'=>
   simp only at g1
   obtain⟨g1,g3⟩:=Yaa g1
   show Ex.blk out _ (.exit id') st'
   have e0:(id'==out)=true:=by simp_all
   simp only[Ex.blk,e0]
   show Sat C rest.er _ st'
   exact YaC hT hfr g3 hl2 g2 (fun e2 s2 st2 g4 g5=>YeO g4 g5)
 ·
  cases hrn with
  |fin h _ _=>simp_all
  |go f _ _ htt hgg=>
   have h1:=htt bn hbB hbn
   rw[<-ht]at h1
   unfold YzK at h1
   rw[hfill]at h1
   have hsI:YzJ it nx mo bn s=some ⟨(mo,.b true)::(nx,.u)::s.env,vset s.heap i (some (.st [.np a,.i .i64 c,.i .i64 c,.l I64 (addI sn bn),tg]))⟩:=by
    unfold YzJ
    simp only[e1,e2]
    rfl
   simp only[hsI]at h1
   obtain⟨m1,m2⟩:=Ycc (o':=.st [.np a,.i .i64 c,.i .i64 c,.l I64 (addI sn bn),tg]) hrl e2 f2 ⟨5,[[.np ya,.v (.int .i64 c),.v (.int .i64 c),.rd 1 (bl++[[.v (.int .i64 bn)]]),a4]]⟩ rfl rfl (fun _ _ _ _ _ e=>by cases e) (fun _ _ _ _ _ e=>by cases e)
    (fun hx=>⟨yi,_,f2,YAr (Yz9.1 f3).1,by simp,CT.cons ((TR.np a ya _ hoa f5).ext hx) (CT.cons (.i _ _) (CT.cons (.i _ _) (CT.cons
     (show TR _ _ (.l I64 (addI sn bn)) (.rd 1 (bl++[[.v (.int .i64 bn)]]))from Ybs (c:=I64) (l:=addI sn bn) (YbO (c:=I64) (l:=sn) (m:=[bn]) f7 ⟨rfl,fun j e v h1 h2=>by
      match j,h1,h2 with
      |0,h1,h2=>injection h1 with h1;subst h1;have hv:some bn=some v:=h2;injection hv with hv;subst hv;exact⟨rfl,fun j x x' h1 h2=>by
       match j,h1,h2 with
       |0,h1,h2=>simp[Cs.enc,I64,Ty.enc,fstP]at h1 h2;subst h1;subst h2;exact .refl _
       |j+1,h1,h2=>trivial⟩
      |j+1,h1,h2=>trivial⟩)) (CT.cons (q4.ext hx) CT.nil))))⟩)
   show Sat C (YyJ mo out bb).er _ ⟨(mo,.v (.bool true))::(nx,.u)::s1.env,s1.heap.set yi (some ⟨5,[[.np ya,.v (.int .i64 c),.v (.int .i64 c),.rd 1 (bl++[[.v (.int .i64 bn)]]),a4]]⟩),s1.base⟩
   refine YaC hT hfr h1 hl1 (b:=b) (q:=q) (st:=⟨(mo,.v (.bool true))::(nx,.u)::s1.env,s1.heap.set yi (some ⟨5,[[.np ya,.v (.int .i64 c),.v (.int .i64 c),.rd 1 (bl++[[.v (.int .i64 bn)]]),a4]]⟩),s1.base⟩) ⟨hb,by rw[Yad];omega,pl,Ybw (d:=some mo) (Ybw (d:=some nx) (he.ext m2) (.u _)) (.b true),m1,hpk⟩ (fun e s' st' g1 g2=> ?_)
   cases e with
   |exit id'=>trivial
   |ret=>trivial
   |nor=>
    simp only at g1
    cases hkp:YxW T.kb g.ts (ownV own s')with
    |mk vs X=>
     rw[hkp]at g1
     simp only at g1
     obtain⟨hb,hkb,pl,he,hr,hpk⟩:=g2
     obtain⟨st1,pl1,k1,k2,k3,k4,k8,k9⟩:=YaF (ws:=own) hb he hr
     obtain⟨pl2,k5,k6,k7,k10⟩:=Yc7 (env:=(ownV own s').env) (X:=(ownV own s').heap) k3 k4 (YAT hkb k8) hkp
     exact⟨Yyh B (sn++[bn]),st1,⟨f bn,sn++[bn],_,hgg bn hbB hbn,rfl,YaY g1,k2,k7,pl2,k5,k6,fun i hi w hw=>hpk i hi w (k9 i (YAU hi hkb) w (k10 i hi w hw))⟩,Yq5 hbB hbn,k1⟩
end
theorem Yrd{A0 A R:Type}{u:A0->Option A}{p:A->ItP}{t:A->Int->Option A}{r:A->Option R}{x:A0}{y:R}(h:YAZ (u x) (rngF p t r)=some y): ∃z,u x=some z/\Good p t r z y:=by
 cases hz:u x with
 |none=>simp_all
 |some z=>rw[hz]at h;exact⟨z,rfl,Yq4 h⟩
end Go.Abs
namespace Go.Abs
open Go Go.RowKit Go.Shelf Go.Proofs
theorem Yrk(zs:Array Value)(n:Nat):(Builtin.zeroCells zs n).size=n*zs.size:=by
 simp[Builtin.zeroCells]
theorem Yrl{P:Program}{fm:FM}{f:FuncId}{ρ:Ren}(L:Lays8.n4 P ρ)(hf':ρ.f 4=f){i0:TypeInfo}{z:Value}(hi0:P.info? (ρ.t 25)=some i0)(hz0:i0.zero=some z){es:Nat}(hs:i0.size=es)(hs0:0<es)
  (hzs:z.cells.size=es) (hby:i0.bytes<=65536) {n:Int} (hn:0<=n/\n<=1048576) {H:Heap} {w:World} {Lc:Nat->Loc} {vs:Array Value} (hr:HR fm w Lc (hf H)) (hsz:vs.size=2) (h0:VR fm w Lc (vs.getD 0 undef) .emp) (h1:VR fm w Lc (vs.getD 1 undef) (.v (.int .i64 n))):
  Calls P f vs w fun e w'=> ∃v L',e= .returned v/\Keep Lc w w'/\LStep Lc L' w.heap.size/\HR fm w' L' (hf (H++[some ⟨es,[]⟩]))/\VR fm w' L' v (.ref H.length 0 0):=by
 have h1':=Yag h1
 obtain⟨A,hA⟩: ∃A,vs.getD 0 undef= .slice A 0 0:=by
  generalize vs.getD 0 undef=x at h0
  cases h0 with
  |emp A=>simp
 obtain⟨m,rfl⟩: ∃m:Nat,n=m:=⟨n.toNat,by omega⟩
 have hvs:vs= #[.slice A 0 0,.int .i64 (m:Int)]:=by
  apply Array.ext
  ·trivial
  ·intro i hi _
   have:i=0\/i=1:=by omega
   rcases this with rfl|rfl
   ·simp_all
   simp_all
 subst hvs
 have hnid:hf H H.length=none:=by simp[hf]
 have hH:appU (hf H) H.length (.push (some ⟨es,[]⟩))=hf (H++[some ⟨es,[]⟩]):=hf_push
 subst hf'
 by_cases hm:m=0
 ·subst hm
  obtain⟨k1,k2⟩:=YbF hr hnid (es:=es) w.heap.size false (fun h=>absurd h (by omega))
  rw[hH]at k2
  refine(Any8.slices_Grow_room L A 0 0 0 w (YAO _) (by omega) (by omega) (YAO _)).mono ?_
  rintro e w' ⟨rfl,rfl⟩
  exact⟨_,_,rfl,Keep.refl _ _,k1,k2,.refNil A H.length false (by simp) (fun h=>by cases h)⟩
 ·have hb:m*i0.bytes<=140737488355328:=by
   have:=Nat.mul_le_mul (show m<=1048576 by omega) hby
   omega
  refine(Any8.slices_Grow_grow L i0 z hi0 hz0 (by omega) A 0 0 m [] w (YAO _) (by omega) (by simp_all) (by omega) (by simp) (fun _=>rfl) (fun a _ j v h=>by grind)).mono ?_
  rintro e w' ⟨rfl,rfl⟩
  have hge:=grownCap_ge w (0+m) 0 (ρ.t 25)
  have hle:=grownCap_le_maxLen w (0+m) 0 (ρ.t 25) (by unfold maxLen;omega)
  obtain⟨k1,k2,k3⟩:=YdU (w':=w.drew.alloc (.cells (([]:List Value).toArray++Builtin.zeroCells z.cells (0+m-0)++Builtin.zeroCells z.cells (grownCap w (0+m) 0 (ρ.t 25)-(0+m))) (ρ.t 25))) (cur:=([]:List Value).toArray++Builtin.zeroCells z.cells (0+m-0)++Builtin.zeroCells z.cells (grownCap w (0+m) 0 (ρ.t 25)-(0+m))) (ty:=ρ.t 25) (es:=es) (cap:=grownCap w (0+m) 0 (ρ.t 25)) (el:=[]) hr hnid rfl rfl rfl rfl hs0 (by simp) hle (by simp) (by
   simp only[Array.size_append,Yrk,hzs,List.size_toArray,YAK]
   rw[YAS,<-YAW]
   simp_all) (fun i e j c hi=>by trivial)
  rw[hH]at k3
  refine⟨_,_,rfl,k1,k2,k3,?_⟩
  have:=VR.refAt (fm:=fm) (w:=w.drew.alloc (.cells (([]:List Value).toArray++Builtin.zeroCells z.cells (0+m-0)++Builtin.zeroCells z.cells (grownCap w (0+m) 0 (ρ.t 25)-(0+m))) (ρ.t 25))) (L:=fun a=>if a=H.length then .cells w.heap.size es (grownCap w (0+m) 0 (ρ.t 25))else Lc a) w.heap.size es (grownCap w (0+m) 0 (ρ.t 25)) H.length 0 0 (by simp) (by omega)
  simp_all
def vgrowE(g:Nat)(c:Cs):FnE:=⟨g,false,⟨[0,1],[.e c,.i .i64],[],.cons (.i .i64) .nil⟩,.ref 0,[.sq c],.cons (.l c) .nil,
 fun(n:Int)=>bif decide (0<=n)&&decide (n<=1048576)then some ([]:List c.den)else none⟩
def Yx7(P:Program)(t:TypeId)(es:Nat):Bool:=
 match P.info? t with
 |some i=>match i.zero with
  |some z=>YAN i.size es&&YAN z.cells.size es&&YAR i.bytes 65536
  |none=>false
 |none=>false
theorem Yrm{P:Program}{fm:FM}{f:FuncId}{g:Nat}{c:Cs}{ρ:Ren}(L:Lays8.n4 P ρ)(hf':ρ.f 4=f)(ho:Yx7 P (ρ.t 25) c.width=true)(hs0:0<c.width)(hcal:YwY P f=true):FOK P fm f (vgrowE g c).RI:=by
 rintro args H r H' ⟨x,y,vs,Xs,pls,Kp,v,l,X2,h1,h2,h3,hct,hrs,hfr,hall,h5,h6,h7,h8,h9,h10,rfl,rfl⟩
 refine⟨hcal,fun w Lc vals hr hsz hv=> ?_⟩
 have key: ∀(x:Int) (y:List c.den),(bif decide (0<=x)&&decide (x<=1048576)then some ([]:List c.den)else none)=some y->Sg.fill ⟨[0,1],[.e c,.i .i64],[],.cons (.i .i64) .nil⟩ x=some ⟨zipE [0,1] vs,Xs⟩->vs.length=2->Yw2 (.ref 0) (unp (.cons (.l c) .nil) y)=some (v,l)->Yw9 [.sq c] l=some (X2,[])->
   (0<=x/\x<=1048576)/\vs=[.e c,.i .i64 x]/\Xs=[]/\v= .ref 0/\X2=[some (.sq c [])]:=by
  intro x y hF hfill hlen e5 e6
  obtain⟨hb,hF⟩:=Yaa hF
  injection hF with hF;subst hF
  simp at hb
  have hu:unp (.cons (.i .i64) .nil) x=[⟨.i .i64,x⟩]:=rfl
  have hu2:unp (.cons (.l c) .nil) ([]:List c.den)=[⟨.l c,([]:List c.den)⟩]:=rfl
  unfold Sg.fill at hfill
  simp only[hu,Yxk,Yw2,Yw9,decide_true,cond_true]at hfill
  injection hfill with hfill;injection hfill with hz hX
  match vs,hlen with
  | [a,b],_=>
    simp only[zipE,List.cons.injEq,Prod.mk.injEq,and_true,true_and]at hz
    simp only[hu2,Yw2,Option.some.injEq,Prod.mk.injEq]at e5
    obtain⟨rfl,rfl⟩:=e5
    simp only[Yw9,Yx4,Ybe,Option.some.injEq,Prod.mk.injEq,and_true]at e6
    simp_all
 have hlen:vs.length=2:=by
  unfold Sg.read at h2
  split at h2
  ·rename_i svs sos k1 k2
   obtain⟨e1,_⟩:=Yaa h2
   simp at e1
   have:=SV.eqs_of e1.1
   rw[<-Ycr k1,this];rfl
  trivial
 obtain⟨hn,rfl,rfl,rfl,rfl⟩:=key x y h1 (YaY h2) hlen h5 h6
 obtain⟨a0,ra,rfl,ha0,hra⟩:=hct.inv
 obtain⟨a1,rb,rfl,ha1,hrb⟩:=hra.inv
 have hrb0:rb=[]:=YAk.1 hrb.1.symm
 subst hrb0
 have e0:a0= .emp:=by cases ha0;rfl
 have e1:a1= .v (.int .i64 x):=by cases ha1;rfl
 subst e0;subst e1
 unfold Yx7 at ho
 split at ho
 ·rename_i i0 hi
  split at ho
  ·rename_i z hz
   simp at ho
   refine(Yrl (H:=H) L hf' hi hz ho.1.1 hs0 ho.1.2 ho.2 hn hr (by trivial) (hv 0 .emp (by simp)) (hv 1 _ (by simp))).mono ?_
   rintro e w' ⟨v,L1,rfl,g1,g2,g3,g4⟩
   have hr0:HRel Kp H [] (fun _=>none) H:=⟨fun a o h=>(by cases h),fun p q x h=>(by cases h),fun p x h=>(by cases h),hrs.fr,fun p x h=>(by cases h),YAO _⟩
   obtain⟨hrr,_⟩:=Yaq hr0 (.sq c []) ⟨c.width,[]⟩ (fun _=>⟨H.length,[],by rfl,by simp,hs0,rfl,fun i e v' k1 k2=>by trivial⟩)
   have ht:TR ([]++[some (VObj.sq c [])]) (plS (fun _=>none) (.m 0) (some H.length)) (.ref 0) (.ref H.length 0 0):=
    .ref 0 H.length (.sq c []) _ rfl (by rfl) (by rfl)
   have hfin:=YeR (Xs:=[]) (pls:=pls) (m:=[0]) (s:=⟨[],H++[some ⟨c.width,[]⟩],H.length⟩) hrs hfr hrr rfl (YAX _) (fun i hi=>absurd hi (Nat.not_lt_zero _)) (by simp) (List.nil_prefix) ht rfl h9
   obtain⟨L2,f1,f2,f3⟩:=hfin fm w' L1 v g3 g4
   refine⟨v,L2,rfl,g1,f1 Lc w.heap.size (fun b hb=> ?_) g2,f2,f3⟩
   apply Classical.byContradiction
   intro hlt
   exact hb ((hr.fresh b).2 (YAt (by simp_all)))
  trivial
 trivial
theorem Yrn{P:Program}{fm:FM}{T:Tabs}(hS:Yxm P fm T){g:Nat}(c:Cs)(hp:T.pf g=false)(hs0:0<c.width)
  (hG: ∀f,fm f=g->YwY P f=true/\ ∃ρ:Ren,Lays8.n4 P ρ/\ρ.f 4=f/\Yx7 P (ρ.t 25) c.width=true):Yxm P fm ⟨T.pf,vgrowE g c::T.fs,T.ls,0⟩:=by
 obtain⟨C,hC,hT⟩:=hS
 have hpC:C.pf g=true->Pure (vgrowE g c).RI:=fun h=>by rw[hT.p.pf,hp]at h;cases h
 exact⟨Yxx C g (vgrowE g c).RI,Ybh hC hpC (fun f hf=>by obtain⟨k1,ρ,k2,k3,k4⟩:=hG f hf;exact Yrm k2 k3 k4 hs0 k1),YbU (e:=vgrowE g c) hT (fun h=>by rw[show(vgrowE g c).g=g from rfl,hp]at h;cases h) (fun _ _ _ _ _ h=>h)⟩
end Go.Abs
namespace Go.Abs
open Go Go.RowKit Go.Shelf Go.Proofs
theorem Yro{vals:Array Value}(h:vals.size=1):vals= #[vals.getD 0 undef]:=by
 apply Array.ext
 ·simp[h]
 simp_all
theorem Yrp{g:Sg}{vs:List TV}{X:YwS}{x:g.c.den}(h:g.read vs X=some x):vs.length=g.vs.length:=by
 unfold Sg.read at h
 split at h
 ·rename_i svs sos k1 k2
  obtain⟨e1,_⟩:=Yaa h
  simp at e1
  rw[<-Ycr k1,SV.eqs_of e1.1]
 trivial
end Go.Abs
namespace Go.Abs
open Go Go.RowKit Go.Shelf Go.Proofs
variable{P:Program}{ρ:Ren}
theorem Ykt{Lc:Nat->Loc}{w w':World}(h:Below w.heap.size w w'):Keep Lc w w':=
 ⟨h.os,h.tape,h.output,h.size,fun b hb _=>h.block b hb,fun b t ht=>ht.of (h.block b ht.lt)⟩
end Go.Abs
namespace Go.Abs
open Go Go.RowKit Go.ChangeShapes Go.WideShapes Go.ChangeAt
section
variable{H:Type}{enc:TypeId×Value->H}{P:Program}{fm:FM}{T:Tabs}
theorem Yrq{W:World}{base:Nat}{t:TypeId}{fs:Array Field}(ht:P.underlying t=some (.struct fs)){v:Value}(hv:Value.okWide P W .any base t v){b:Nat}{sp:Nat->Bool}{held:Bool}{d:DataW H}{ps:List MemPlace}
  (hd:DataW.Trod enc P W b sp held t v d ps) {bulk:DataW H->Nat} {es:Nat} {X:Type} {e:X->List TV} {sz:X->Nat} {ok:X->Prop} (hR:Reads enc P W b sp held fm bulk t es (fun x=>avTs (e x)) sz ok):
  ∃x,ok x/\sz x<=bulk d/\VR fm W Yxr v (avT (.ag (e x))):=by
 simp only[Value.okWide,ht]at hv
 obtain⟨cs,rfl,_,_⟩:=hv
 obtain⟨fuel,hd⟩:=hd
 obtain⟨x,h1,h2,h3,h4,h5⟩:=hR fuel _ d ps hd
 have h2':cs.size=es:=by trivial
 have key: ∀j a,(avTs (e x))[j]?=some a->(cs.getD j undef).oneCell'=true/\VR fm W Yxr (cs.getD j undef) a:=by
  intro j a hj
  have hlt:j<cs.size:=by grind
  have:=h5 j cs[j] a (by simp[Value.cells,hlt]) hj
  rw[YBc]
  grind
 refine⟨x,h1,h4,?_⟩
 exact .agg cs _ (by simp_all) (fun j a hj=>(key j a hj).1) (fun j a hj=>(key j a hj).2)
theorem Yrr{W:World}{base:Nat}{t:TypeId}(hns: ∀fs,P.underlying t≠some (.struct fs))(hna: ∀n u,P.underlying t≠some (.array n u)){v:Value}(hv:Value.okWide P W .any base t v)(hag: ∀cs,¬Cell.okWide P W .any base t (.agg cs)){b:Nat}{sp:Nat->Bool}{held:Bool}{d:DataW H}{ps:List MemPlace}
  (hd:DataW.Trod enc P W b sp held t v d ps) {bulk:DataW H->Nat} {X:Type} {e:X->List TV} {sz:X->Nat} {ok:X->Prop} {p:X->TV} (hp: ∀x,e x=[p x]) (hR:Reads enc P W b sp held fm bulk t 1 (fun x=>avTs (e x)) sz ok):
  ∃x,ok x/\sz x<=bulk d/\VR fm W Yxr v (avT (p x)):=by
 have hv2:Cell.okWide P W .any base t v:=by
  unfold Value.okWide at hv
  simp_all
 have hc:v.cells= #[v]:=by
  cases v with
  |agg cs=>simp_all
  |_=>rfl
 obtain⟨fuel,hd⟩:=hd
 obtain⟨x,h1,h2,h3,h4,h5⟩:=hR fuel _ d ps hd
 refine⟨x,h1,h4,?_⟩
 have:=h5 0 v (avT (p x)) (by grind) (by simp[hp x,avTs])
 simp_all
theorem Yku(hl:laidOutB P=true){W W':World}(hb:Below W.heap.size W W'): ∀{ts:List TypeId} {vs:List Value} {ds:List (DataW H)} {ps:List MemPlace},
  DataW.TrodAll enc P W 0 (fun _=>true) true ts vs ds ps->(∀t∈ts,P.readableRec t=true/\t<P.types.size)->(∀x∈ps,x.block<W.heap.size)->
  DataW.TrodAll enc P W' 0 (fun b=>decide (b<W.heap.size)) true ts vs ds ps
 | [],[],[],ps,h,_,_=>h
 |t::ts,v::vs,d::ds,ps,h,hr,hlt=>by
  obtain⟨p,q,h1,h2,rfl⟩:=h
  have ht:=hr t (YAq ..)
  exact⟨p,q,Below.trod hl ht.1 ht.2 h1 hb (fun x hx=>hlt x (List.mem_append_left _ hx)),
   Yku hl hb h2 (fun u hu=>hr u (YAx _ hu)) (fun x hx=>hlt x (List.mem_append_right _ hx)),rfl⟩
 | [],_::_,_,_,h,_,_=>h.elim
 | [],[],_::_,_,h,_,_=>h.elim
 |_::_,[],_,_,h,_,_=>h.elim
 |_::_,_::_,[],_,h,_,_=>h.elim
theorem Yrs(hl:laidOutB P=true){f:Func}{s:ChangeSpec}{tb:TypeId}(hres:f.resultTypes= #[tb])(htb:P.underlying tb=some .bool)(hr: ∀t∈f.params.toList,P.readableRec t=true/\t<P.types.size)(hvars:s.vars=[])
  {W W':World} {args:Array Value} {ds gs:List (DataW H)} {before:List MemPlace} (hW:DataW.Whole enc P f.params.toList s.vars false W args.toList ds gs before) (hfn:(s.fn H (ds++gs))={results:=[.lit (.bool true)],args:=ds}) (hb:Below W.heap.size W W'):
  s.post enc P f false true false false W args (.bool true) W':=by
 have hlt:=hW.lt
 have hW':=hW
 obtain⟨p,q,hA,hV,rfl,hfz,hnd⟩:=hW
 rw[hvars]at hV
 obtain⟨rfl,rfl⟩:=trodVars_none hV
 refine⟨ds,[],p++[],[],p,[],hW',?_,?_,?_,hb.frame _,fun h=>by cases h⟩
 ·rw[hfn,hres]
  exact trodAll_cons_mk (shut_bool htb _) trodAll_mk0
 ·rw[hfn]
  exact Yku hl hb hA hr (fun x hx=>hlt x (List.mem_append_left _ hx))
 ·rw[hfn,hvars];rfl
theorem Yrt{w w':World}(h:Keep Yxr w w'):Below w.heap.size w w':=
 ⟨h.os,h.tape,h.output,h.size,fun k hk=>h.blk k hk (YfL k)⟩
theorem Yru(hS:Yxm P fm T){e:FnE}(he:e∈T.fs)(hp:T.pf e.g=true){f:FuncId}(hf:fm f=e.g){vs:List TV}(hdt:Yw6 vs=true){x:e.args.c.den}{y:e.co.den}(hread:e.args.read vs []=some x)(hF:e.F x=some y)(hfill:Yw2 e.res (unp e.co y)=some (.b true,[]))
  {W:World} {args:Array Value} (hsz:args.size=vs.length) (hv: ∀j a,(avTs vs)[j]?=some a->VR fm W Yxr (args.getD j undef) a) (htb:TabW fm W):
  Calls P f args W fun e W'=>e= .returned (.bool true)/\Below W.heap.size W W':=by
 refine(YqX hS he hp hf (args:=avTs vs) (r:=avT (.b true)) ⟨x,y,vs,.b true,hF,hread,hdt,rfl,hfill,rfl,rfl⟩ (by simpa[YbT]using hsz) hv htb).mono ?_
 rintro ex w' ⟨v,rfl,hk,L',hvr⟩
 have:=Yag (show VR fm w' L' v (.v (.bool true))from hvr)
 rw[this]
 exact⟨rfl,Yrt hk⟩
end
end Go.Abs
namespace Go.Abs
open Go Go.RowKit Go.ChangeShapes Go.WideShapes Go.ChangeAt
mutual
def Ty.sz:(t:Ty)->t.den->Nat
 | .i _,_=>1
 | .b,_=>1
 | .s,x=>ByteArray.size x+1
 | .l c,v=>(List.map c.sz v).sum+1
def Cs.sz:(c:Cs)->c.den->Nat
 | .nil,_=>0
 | .cons t r,x=>t.sz (fstP r x)+r.sz (sndP r x)
end
mutual
def Ty.rng:(t:Ty)->t.den->Prop
 | .i k,n=>(Lit.int k n).wf=true
 | .b,_=>True
 | .s,_=>True
 | .l c,v=> ∀x∈ (show List c.den from v),c.rng x
def Cs.rng:(c:Cs)->c.den->Prop
 | .nil,_=>True
 | .cons t r,x=>t.rng (fstP r x)/\r.rng (sndP r x)
end
def Cs.tk:Nat->Cs->Cs
 |0,_=>.nil
 |_+1,.nil=>.nil
 |n+1,.cons t r=>.cons t (Cs.tk n r)
def Cs.dp:Nat->Cs->Cs
 |0,c=>c
 |_+1,.nil=>.nil
 |n+1,.cons _ r=>Cs.dp n r
def Cs.jn:(n:Nat)->(c:Cs)->(Cs.tk n c).den->(Cs.dp n c).den->c.den
 |0,_,_,y=>y
 |_+1,.nil,_,_=>()
 |n+1,.cons t r,x,y=>mkP r (fstP (Cs.tk n r) x) (Cs.jn n r (sndP (Cs.tk n r) x) y)
theorem Ykv: ∀(n:Nat) (c:Cs),n<=c.width->(Cs.tk n c).width=n
 |0,_,_=>rfl
 |n+1,.nil,h=>by trivial
 |n+1,.cons t r,h=>by simp only[Cs.width]at h;simp only[Cs.tk,Cs.width,Ykv n r (by omega)]
theorem Ykw: ∀(n:Nat) (c:Cs),n<=c.width->(Cs.dp n c).width+n=c.width
 |0,_,_=>rfl
 |n+1,.nil,h=>by trivial
 |n+1,.cons t r,h=>by simp only[Cs.width]at h;have:=Ykw n r (by omega);simp only[Cs.dp,Cs.width];omega
theorem Ykx: ∀(n:Nat) (c:Cs) (x:(Cs.tk n c).den) (y:(Cs.dp n c).den),c.enc (Cs.jn n c x y)=(Cs.tk n c).enc x++(Cs.dp n c).enc y
 |0,_,_,y=>rfl
 |n+1,.nil,_,_=>rfl
 |n+1,.cons t r,x,y=>by simp only[Cs.jn,Cs.enc,Yba,YaR,Cs.tk,Cs.dp,YAL];exact congrArg _ (Ykx n r _ _)
theorem Ygp: ∀(n:Nat) (c:Cs) (x:(Cs.tk n c).den) (y:(Cs.dp n c).den),c.sz (Cs.jn n c x y)=(Cs.tk n c).sz x+(Cs.dp n c).sz y
 |0,_,_,y=>by simp only[Cs.jn,Cs.tk,Cs.dp,Cs.sz,YAS]
 |n+1,.nil,_,_=>by rfl
 |n+1,.cons t r,x,y=>by simp only[Cs.jn,Cs.sz,Yba,YaR,Cs.tk,Cs.dp,Nat.add_assoc];exact congrArg _ (Ygp n r _ _)
theorem Ygq: ∀(n:Nat) (c:Cs) (x:(Cs.tk n c).den) (y:(Cs.dp n c).den),(Cs.tk n c).rng x->(Cs.dp n c).rng y->c.rng (Cs.jn n c x y)
 |0,_,_,y,_,h=>h
 |n+1,.nil,_,_,_,_=>trivial
 |n+1,.cons t r,x,y,h,h2=>by
  simp only[Cs.jn,Cs.rng,Yba,YaR]
  exact⟨h.1,Ygq n r _ _ h.2 h2⟩
theorem Yky: ∀(n:Nat) (c:Cs) (x:(Cs.tk n c).den) (y:(Cs.dp n c).den),unp c (Cs.jn n c x y)=unp (Cs.tk n c) x++unp (Cs.dp n c) y
 |0,_,_,y=>rfl
 |n+1,.nil,_,_=>rfl
 |n+1,.cons t r,x,y=>by simp only[Cs.jn,unp,Yba,YaR,Cs.tk,Cs.dp,YAL];exact congrArg _ (Yky n r _ _)
def okT(P:Program):Nat->TypeId->Cs->Bool
 |0,_,_=>false
 |f+1,t,c=>match P.underlying t with
  |some (.int k)=>c.eqb (.cons (.i k) .nil)
  |some .bool=>c.eqb (.cons .b .nil)
  |some .string=>c.eqb (.cons .s .nil)
  |some (.slice u)=>match c with
   | .cons (.l c') .nil=>YAQ 0 c'.width&&YAN (P.cellsOf u) c'.width&&okT P f u c'
   |_=>false
  |some (.struct fs)=>YAN (P.cellsOf t) c.width&&okF (fun g c=>okT P f g c) fs.toList 0 c
  |_=>false
where
 okF (k:TypeId->Cs->Bool):List Field->Nat->Cs->Bool
 | [],_,.nil=>true
 | [],_,_=>false
 |g::r,o,c=>YAN g.offset o&&YAR (P.cellsOf g.type) c.width&&k g.type (Cs.tk (P.cellsOf g.type) c)&&okF k r (o+P.cellsOf g.type) (Cs.dp (P.cellsOf g.type) c)
section
variable{H:Type}{enc:TypeId×Value->H}{P:Program}{w:World}{base:Nat}{spare:Nat->Bool}{held:Bool}{fm:FM}{bulk:DataW H->Nat}{all:List (DataW H)->Nat}
theorem Ykz(hb:BulkOK bulk all){k:TypeId->Cs->Bool}(hk: ∀t c,k t c=true->Reads enc P w base spare held fm bulk t c.width c.enc c.sz c.rng):
  ∀(fs:List Field) (o:Nat) (c:Cs),okT.okF P k fs o c=true->Yyx enc P w base spare held fm all fs o c.width c.enc c.sz c.rng
 | [],o,.nil,_=>Ypc o
 | [],o,.cons _ _,h=>by trivial
 |g::r,o,c,h=>by
  simp only[okT.okF,YA7]at h
  obtain⟨⟨⟨h1,h2⟩,h3⟩,h4⟩:=h
  have h1:=YAP h1
  have h2:=YAY h2
  have wt:=Ykv _ _ h2
  have wd:=Ykw _ _ h2
  have r1:=hk _ _ h3
  rw[wt]at r1
  have r2:=Ykz hb hk r _ _ h4
  have:=Ypd hb h1 rfl r1 r2
  intro fuel cs xs hm hle
  obtain⟨⟨x,y⟩,k1,k2,k3,k4⟩:=this fuel cs xs hm (by omega)
  refine⟨Cs.jn _ c x y,Ygq _ _ _ _ k1.1 k1.2,?_,?_,?_⟩
  ·exact Yax _ _
  ·rw[Ygp];exact k3
  ·rw[Ykx];exact k4
theorem YeT(hb:BulkOK bulk all): ∀(f:Nat) (t:TypeId) (c:Cs),okT P f t c=true->Reads enc P w base spare held fm bulk t c.width c.enc c.sz c.rng
 |0,_,_,h=>by trivial
 |f+1,t,c,h=>by
  unfold okT at h
  split at h
  ·rename_i k hu
   have e:=Cs.eq_of h;subst e
   refine(Yo9 hb hu).conv ?_
   intro n hn
   exact⟨n,⟨hn,trivial⟩,rfl,YAO _⟩
  ·rename_i hu
   have e:=Cs.eq_of h;subst e
   refine(Ypa hb hu).conv ?_
   intro n hn
   exact⟨n,⟨hn,trivial⟩,rfl,YAO _⟩
  ·rename_i hu
   have e:=Cs.eq_of h;subst e
   refine(Ypb hb hu).conv ?_
   intro n hn
   exact⟨n,⟨hn,trivial⟩,rfl,YAO _⟩
  ·rename_i u hu
   split at h
   ·rename_i c'
    simp only[YA7]at h
    obtain⟨⟨h1,h2⟩,h3⟩:=h
    have h1:0<c'.width:=YAY h1
    have h2:=YAP h2
    refine(Ypi hb hu h2 h1 (YeT hb f u c' h3)).conv ?_
    intro l hl
    exact⟨l,⟨hl,trivial⟩,rfl,YAO _⟩
   trivial
  ·rename_i fs hu
   simp only[YA7]at h
   have h1:=YAP h.1
   exact Ype hb hu h1 (Ykz hb (fun t c=>YeT hb f t c) _ _ _ h.2)
  trivial
def Ty.sv:Ty->SV
 | .i k=>.i k
 | .b=>.b
 | .s=>.s
 | .l c=>.l c
def Cs.svs:Cs->List SV
 | .nil=>[]
 | .cons t r=>t.sv::r.svs
def Cs.tvs:(c:Cs)->c.den->List TV
 | .nil,_=>[]
 | .cons t r,x=>tvOf t (fstP r x)::r.tvs (sndP r x)
theorem YkA(t:Ty)(v:t.den):(tvOf t v).sh=some t.sv:=by cases t<;>rfl
theorem YkB(t:Ty)(v:t.den):(tvOf t v).lv=[⟨t,v⟩]:=by cases t<;>rfl
theorem YkC(t:Ty)(v:t.den):avT (tvOf t v)=t.enc v:=by cases t<;>rfl
theorem YkD(t:Ty)(v:t.den):YxX (tvOf t v)=true:=by cases t<;>rfl
theorem YkE: ∀(c:Cs) (x:c.den),TV.shs (c.tvs x)=some c.svs
 | .nil,_=>rfl
 | .cons t r,x=>by simp only[Cs.tvs,TV.shs,YkA,YkE r,Cs.svs]
theorem YkF: ∀(c:Cs) (x:c.den),TV.lvs (c.tvs x)=unp c x
 | .nil,_=>rfl
 | .cons t r,x=>by simp only[Cs.tvs,TV.lvs,YkB,YkF r,unp,YAL,YAG]
theorem YkG: ∀(c:Cs) (x:c.den),avTs (c.tvs x)=c.enc x
 | .nil,_=>rfl
 | .cons t r,x=>by simp only[Cs.tvs,avTs,YkC,YkG r,Cs.enc]
theorem YkH: ∀(c:Cs) (x:c.den),Yw6 (c.tvs x)=true
 | .nil,_=>rfl
 | .cons t r,x=>by simp only[Cs.tvs,Yw6,YkD,YkH r,YBa]
mutual
theorem SV.eqb_refl: ∀a:SV,a.eqb a=true
 | .i z=>by simp[SV.eqb]
 | .b=>rfl
 | .s=>rfl
 | .u=>rfl
 | .nl=>rfl
 | .l z=>by simp[SV.eqb,Cs.eqb_refl z]
 | .e z=>by simp[SV.eqb,Cs.eqb_refl z]
 | .ref z=>by simp[SV.eqb]
 | .pre z=>by simp[SV.eqb]
 | .np z=>by simp[SV.eqb]
 | .ptr z x y=>by simp[SV.eqb]
 | .ag z=>by simp[SV.eqb,SV.eqbs_refl z]
 | .tp z=>by simp[SV.eqb,SV.eqbs_refl z]
 | .clo g z=>by simp[SV.eqb,SV.eqbs_refl z]
theorem SV.eqbs_refl: ∀a:List SV,SV.eqbs a a=true
 | []=>rfl
 |a::r=>by simp[SV.eqbs,SV.eqb_refl a,SV.eqbs_refl r]
end
def argT(P:Program)(t:TypeId)(sv:SV)(c:Cs):Bool:=match P.underlying t with
 |some (.struct _)=>sv.eqb (.ag c.svs)&&okT P 20 t c
 |some (.array _ _)=>false
 |_=>match c with
  | .cons u .nil=>sv.eqb u.sv&&okT P 20 t c
  |_=>false
def Yzl(P:Program):List TypeId->List SV->Cs->Bool
 | [],[],.nil=>true
 |t::ts,v::vs,c=>YAR (P.cellsOf t) c.width&&argT P t v (Cs.tk (P.cellsOf t) c)&&Yzl P ts vs (Cs.dp (P.cellsOf t) c)
 |_,_,_=>false
theorem Yrv(hb:BulkOK bulk all){W:World}{t:TypeId}{sv:SV}{c:Cs}(h:argT P t sv c=true){v:Value}(hv:Value.okWide P W .any base t v){b:Nat}{sp:Nat->Bool}{held:Bool}{d:DataW H}{ps:List MemPlace}
  (hd:DataW.Trod enc P W b sp held t v d ps): ∃x:c.den,c.rng x/\c.sz x<=bulk d/\ ∃tv:TV,tv.sh=some sv/\tv.lv=unp c x/\YxX tv=true/\VR fm W Yxr v (avT tv):=by
 unfold argT at h
 split at h
 ·rename_i fs hu
  simp at h
  have h1:=SV.eq_of h.1
  subst h1
  have hR:=YeT (enc:=enc) (w:=W) (base:=b) (spare:=sp) (held:=held) (fm:=fm) hb _ _ _ h.2
  obtain⟨x,k1,k2,k3⟩:=Yrq (fm:=fm) (e:=c.tvs) hu hv hd (by simpa only[YkG]using hR)
  exact⟨x,k1,k2,.ag (c.tvs x),by simp only[TV.sh,YkE],by simp only[TV.lv,YkF],by simp only[YxX,YkH],k3⟩
 ·cases h
 ·rename_i hns hna
  split at h
  ·rename_i u
   simp at h
   have h1:=SV.eq_of h.1
   subst h1
   have hR:=YeT (enc:=enc) (w:=W) (base:=b) (spare:=sp) (held:=held) (fm:=fm) hb _ _ _ h.2
   have hag: ∀cs,¬Cell.okWide P W .any base t (.agg cs):=by
    intro cs hc
    have h2:=h.2
    unfold okT at h2
    cases hu:P.underlying t with
    |none=>simp_all
    |some y=>cases y<;>simp[hu]at h2<;>simp[Cell.okWide,Cell.ok,hu]at hc<;>first|exact hns _ hu|exact hna _ _ hu
   obtain⟨x,k1,k2,k3⟩:=Yrr (fm:=fm) (X:=u.den) (e:=fun x=>[tvOf u x]) (p:=tvOf u) (sz:=u.sz) (ok:=u.rng) hns hna hv hag hd (fun _=>rfl) (by
    refine hR.conv ?_
    intro x hx
    refine⟨fstP .nil x,hx.1,?_,?_⟩
    ·simp only[avTs,YkC,Cs.enc]
    ·simp only[Cs.sz];omega)
   exact⟨x,⟨k1,trivial⟩,by trivial,tvOf u x,YkA _ _,YkB _ _,YkD _ _,k3⟩
  trivial
theorem YkI(hb:BulkOK bulk all)(h0: ∀l:List (DataW H),0<=all l){W:World}: ∀{ts:List TypeId} {svs:List SV} {c:Cs},Yzl P ts svs c=true-> ∀{vs:List Value} {b:Nat} {sp:Nat->Bool} {held:Bool} {ds:List (DataW H)} {ps:List MemPlace},
  DataW.TrodAll enc P W b sp held ts vs ds ps->(∀(j:Nat) t v,ts[j]?=some t->vs[j]?=some v->Value.okWide P W .any base t v)->
  ∃x:c.den,c.rng x/\c.sz x<=all ds/\ ∃tvs:List TV,TV.shs tvs=some svs/\TV.lvs tvs=unp c x/\Yw6 tvs=true/\tvs.length=vs.length/\ ∀j a,(avTs tvs)[j]?=some a->VR fm W Yxr (vs.getD j undef) a
 | [],[],.nil,_,[],_,_,_,[],_,_,_=>⟨(),trivial,YAX _,[],rfl,rfl,rfl,rfl,fun j a h=>by trivial⟩
 |t::ts,sv::svs,c,h,v::vs,b,sp,held,d::ds,ps,hd,hv=>by
  simp only[Yzl,YA7]at h
  obtain⟨p,q,h1,h2,rfl⟩:=hd
  obtain⟨x,a1,a2,tv,a3,a4,a5,a6⟩:=Yrv (fm:=fm) hb h.1.2 (hv 0 t v rfl rfl) h1
  obtain⟨y,b1,b2,tvs,b3,b4,b5,b6,b7⟩:=YkI hb h0 h.2 h2 (fun j t v e1 e2=>hv (j+1) t v (by trivial) (by trivial))
  refine⟨Cs.jn _ c x y,Ygq _ _ _ _ a1 b1,?_,tv::tvs,?_,?_,?_,?_,?_⟩
  ·rw[Ygp]
   have:=hb.cons d ds
   omega
  ·simp only[TV.shs,a3,b3]
  ·simp only[TV.lvs,a4,b4,Yky]
  ·simp only[Yw6,a5,b5,YBa]
  ·simp_all
  ·intro j a hj
   cases j with
   |zero=>simp only[avTs,List.getElem?_cons_zero,Option.some.injEq]at hj;simp_all
   |succ j=>simp only[avTs,List.getElem?_cons_succ]at hj;simp_all
 | [],[],.cons _ _,h,_,_,_,_,_,_,_,_=>by trivial
 | [],_::_,_,h,_,_,_,_,_,_,_,_=>by trivial
 |_::_,[],_,h,_,_,_,_,_,_,_,_=>by trivial
 | [],[],.nil,_,_::_,_,_,_,_,_,hd,_=>hd.elim
 | [],[],.nil,_,[],_,_,_,_::_,_,hd,_=>hd.elim
 |_::_,_::_,_,_,[],_,_,_,_,_,hd,_=>hd.elim
 |_::_,_::_,_,_,_::_,_,_,_,[],_,hd,_=>hd.elim
theorem YkJ: ∀(c:Cs) (x:c.den),YxI (unp c x)=⟨c,x⟩
 | .nil,_=>rfl
 | .cons t r,x=>by
   have:=YkJ r (sndP r x)
   show(match YxI (unp r (sndP r x))with| ⟨c,y⟩=>(⟨.cons t c,mkP c (fstP r x) y⟩:(c:Cs)×c.den))=_
   rw[this]
   exact congrArg (Sigma.mk (Cs.cons t r)) (YiY r x)
theorem Yrw{g:Sg}{tvs:List TV}{x:g.c.den}(ho:g.os=[])(h1:TV.shs tvs=some g.vs)(h2:TV.lvs tvs=unp g.c x):g.read tvs []=some x:=by
 unfold Sg.read
 rw[h1]
 have e:YxI (TV.lvs tvs++lvOs [])=⟨g.c,x⟩:=by
  show YxI (TV.lvs tvs++[])=_
  rw[List.append_nil,h2,YkJ]
 simp only[shOs,ho,SO.eqbs,Bool.and_true,SV.eqbs_refl,cond_true]
 rw[e]
 exact Cs.cast_refl _ _
end
end Go.Abs
namespace Go.Abs
open Go Go.RowKit Go.ChangeShapes Go.WideShapes Go.ChangeAt
theorem YkK{H:Type}{enc:TypeId×Value->H}{P:Program}{W:World}{b:Nat}{sp:Nat->Bool}{held:Bool}: ∀{ts:List TypeId} {vs:List Value} {ds:List (DataW H)} {ps:List MemPlace},
  DataW.TrodAll enc P W b sp held ts vs ds ps->vs.length=ts.length/\ds.length=ts.length
 | [],[],[],_,_=>⟨rfl,rfl⟩
 |t::ts,v::vs,d::ds,ps,h=>by
  obtain⟨p,q,h1,h2,rfl⟩:=h
  obtain⟨a,b⟩:=YkK h2
  simp_all
 | [],_::_,_,_,h=>h.elim
 | [],[],_::_,_,h=>h.elim
 |_::_,[],_,_,h=>h.elim
 |_::_,_::_,[],_,h=>h.elim
theorem Yrx{P:Program}{fm:FM}{T:Tabs}(hS:Yxm P fm T)(hl:laidOutB P=true){f:FuncId}{fn:Func}{s:ChangeSpec}{e:FnE}(he:e∈T.fs)(hp:T.pf e.g=true)(hf:fm f=e.g)(hos:e.args.os=[])
  {ps:Array TypeId} (hps:fn.params=ps) (harg:Yzl P ps.toList e.args.vs e.args.c=true) {tb:TypeId} (hres:fn.resultTypes= #[tb]) (htb:P.underlying tb=some .bool) (hr:(ps.toList.all fun t=>P.readableRec t&&decide (t<P.types.size))=true) (hvars:s.vars=[])
  {H:Type} {enc:TypeId×Value->H} (hfn: ∀ds:List (DataW H),ds.length=ps.size->s.fn H ds={results:=[.lit (.bool true)],args:=ds})
  {bulk:DataW H->Nat} {all:List (DataW H)->Nat} (hb:BulkOK bulk all) {N:Nat}
  (law: ∀x:e.args.c.den,e.args.c.rng x->e.args.c.sz x<=N-> ∃y,e.F x=some y/\Yw2 e.res (unp e.co y)=some (.b true,[]))
  (W:World) (base:Nat) (args:Array Value) (ds gs:List (DataW H)) (before:List MemPlace)
  (hval: ∀(j:Nat) t v,fn.params[j]?=some t->args[j]?=some v->Value.okWide P W .any base t v)
  (hW:DataW.Whole enc P fn.params.toList s.vars false W args.toList ds gs before) (hk:all (ds++gs)<=N) (hTW:TabW fm W):
  Calls P f args W fun e W'=> ∃v,e= .returned v/\s.post enc P fn false true false false W args v W':=by
 have hW':=hW
 obtain⟨p,q,hA,hV,rfl,hfz,hnd⟩:=hW
 rw[hvars]at hV
 obtain⟨rfl,rfl⟩:=trodVars_none hV
 rw[List.append_nil]at hk
 have hl2:=YkK hA
 rw[hps]at hA hval
 obtain⟨x,k1,k2,tvs,k3,k4,k5,k6,k7⟩:=YkI (fm:=fm) (bulk:=bulk) (all:=all) hb (fun _=>YAX _) harg hA (fun j t v h1 h2=>hval j t v (by simp_all) (by simp_all))
 obtain⟨y,h1,h2⟩:=law x k1 (YAT k2 hk)
 refine(Yru hS he hp hf k5 (Yrw hos k3 k4) h1 h2 (args:=args) (by simp_all) (fun j a hj=> ?_) hTW).mono fun e W' ⟨he,hb⟩=> ?_
 ·simp_all
 ·subst he
  refine⟨_,rfl,Yrs hl hres htb ?_ hvars hW' ?_ hb⟩
  ·grind
  simp_all
end Go.Abs
namespace Go.Abs
open Go Go.RowKit Go.Shelf Go.Proofs Go.Sort
def YxK{α:Type}[Inhabited α](P:Program)(f:FuncId)(enc:α->Value)(srt:List α->List α):Prop:=
 ∀(blk cap:Nat) (zs:List α) (w:World),Holds enc w blk 0 zs.toArray->blk<w.heap.size->zs.length<4611686018427387904->
  Calls P f #[.slice (some ⟨blk,0,none⟩) zs.length cap] w fun e w'=>e= .returned (.tuple #[])/\ ∃n os,w'=grow (putRow enc (Sort.ahead w n) blk 0 (srt zs).toArray) os
theorem Yry{α:Type}[Inhabited α](enc:α->Value)(w:World)(g:Nat)(d:Array α){cur:Array Value}{ty:TypeId}{fr:Nat×Nat}(hg:w.heap[g]?=some (.cells cur ty fr)):
  putRow enc w g 0 d=w.setRow g (putCells enc 0 d cur):=by
 unfold putRow mapBlock World.setRow
 congr 1
 apply Array.ext_getElem?
 intro k
 simp only[Array.getElem?_modify]
 by_cases hk:g=k
 ·subst hk
  simp only[if_true,hg,YA1,onCells]
 simp_all
theorem Yrz{P:Program}{fm:FM}{f:FuncId}{α:Type}[ih:Inhabited α]{enc:α->Value}{srt:List α->List α}(K:YxK P f enc srt)(hone: ∀a,(enc a).oneCell'=true)(hlen: ∀l,(srt l).length=l.length)
  {w:World} {Lc:Nat->Loc} {h:HF} (hr:HR fm w Lc h) {x:Nat} {zs:List α} (hne:zs≠ []) (hx:h x=some (some ⟨1,zs.map fun a=>[.v (enc a)]⟩)) (hsm:zs.length<=4611686018427387903) {vals:Array Value} (hsz:vals.size=1) (hv:VR fm w Lc (vals.getD 0 undef) (.ref x 0 zs.length)):
  Calls P f vals w fun e w'=>e= .returned (.tuple #[])/\Keep Lc w w'/\HR fm w' Lc (fun b=>if b=x then some (some ⟨1,(srt zs).map fun a=>[.v (enc a)]⟩)else h b):=by
 have hpos:0<zs.length:=List.length_pos_iff.2 hne
 rcases Ya3 hr hx hv with⟨g,es,cap,hL,he,hcl,e1⟩| ⟨A,b,hL,_,_,hl0,_⟩
 ·have hes:es=1:=he
  subst hes
  rw[Yro hsz,e1]
  have hob:=hr.obj x _ hx
  rw[hL]at hob
  obtain⟨h0,h1,h2,h3,h4,cur,ty,h5,h6,h7⟩:=hob
  have hgl:g<w.heap.size:=(YBd.1 h5).1
  have hzc:zs.length<=cap:=by omega
  have hcell: ∀j (hj:j<zs.length),cur.getD j undef=enc zs[j]:=fun j hj=>by
   have:=(h7 j [.v (enc zs[j])] 0 (.v (enc zs[j])) (by grind) rfl).2
   have:=Yag this
   grind
  have hH:Holds enc w g 0 zs.toArray:=fun j hj=>by
   have hj':j<zs.length:=by trivial
   refine⟨?_,Lib.frozen_of_heap h5 _⟩
   rw[Lib.cell_of_heap h5,YAS]
   have:=hcell j hj'
   rw[YcG (by omega),this]
   grind
  have e2:(Value.slice (some ⟨g,0*1,none⟩) zs.length (cap-0))= .slice (some ⟨g,0,none⟩) zs.length (cap-0):=rfl
  rw[e2]
  refine(K g (cap-0) zs w hH hgl (by omega)).mono ?_
  rintro e w' ⟨rfl,n,os,rfl⟩
  rw[putRow_ahead,Yry enc w g _ h5]
  obtain⟨k1,k2⟩:=YdW (cur':=putCells enc 0 (srt zs).toArray cur) (el:=(srt zs).map fun a=>[.v (enc a)]) hr hx hL h5 (by simp[putCells,h6]) (by grind) (by simp) (fun i e j c hi hj=>by
   obtain⟨a,ha,rfl⟩: ∃a,(srt zs)[i]?=some a/\ [AV.v (enc a)]=e:=by grind
   have hj0:j=0:=by
    grind
   subst hj0
   have hc:AV.v (enc a)=c:=by grind
   subst hc
   have hil:i< (srt zs).length:=(Yz9.1 ha).1
   have hil2:i<cur.size:=by grind
   have:(putCells enc 0 (srt zs).toArray cur).getD (i*1+0) undef=enc a:=by
    simp only[Nat.mul_one,Nat.add_zero,YBc,putCells,Array.getElem?_mapIdx,YBf hil2,YA1,YA4]
    grind
   rw[this]
   exact⟨hone a,.v _⟩)
  have hb:Below (w.setRow g (putCells enc 0 (srt zs).toArray cur)).heap.size (w.setRow g (putCells enc 0 (srt zs).toArray cur)) (grow (Sort.ahead (w.setRow g (putCells enc 0 (srt zs).toArray cur)) n) os):=by
   refine⟨rfl,rfl,rfl,by simp,fun k hk=> ?_⟩
   have hk':k< (Sort.ahead (w.setRow g (putCells enc 0 (srt zs).toArray cur)) n).heap.size:=hk
   show((Sort.ahead (w.setRow g (putCells enc 0 (srt zs).toArray cur)) n).heap++os)[k]?=_
   rw[Array.getElem?_append_left hk'];rfl
  refine⟨rfl,k1.trans (LStep.refl _ _) (Ykt hb),k2.mono (Ykt hb) (fun b hb' _=>hb.block b hb')⟩
 ·omega
def vsortE(g:Nat)(c:Cs)(F:List c.den->Option (List c.den)):FnE:=⟨g,false,⟨[0],[.ref 0],[.sq c],.cons (.l c) .nil⟩,.tp [],[.sq c],.cons (.l c) .nil,F⟩
theorem YrA{c:Cs}{xs ys:List c.den}{vs:List TV}{Xs X2:YwS}{v:TV}{l:List Lf}(hfill:Sg.fill ⟨[0],[.ref 0],[.sq c],.cons (.l c) .nil⟩ xs=some ⟨zipE [0] vs,Xs⟩)(hlen:vs.length=1)
  (e5:Yw2 (.tp []) (unp (.cons (.l c) .nil) ys)=some (v,l)) (e6:Yw9 [.sq c] l=some (X2,[])):vs=[.ref 0]/\Xs=[some (.sq c xs)]/\v= .tp []/\X2=[some (.sq c ys)]:=by
 have hu: ∀z:List c.den,unp (.cons (.l c) .nil) z=[⟨.l c,z⟩]:=fun z=>rfl
 unfold Sg.fill at hfill
 simp only[hu,Yxk,Yw2,Yw9,Yx4,Ybe]at hfill
 injection hfill with hfill;injection hfill with hz hX
 match vs,hlen with
 | [v0],_=>
   simp only[zipE,List.cons.injEq,Prod.mk.injEq,and_true,true_and]at hz
   simp only[hu,Yw2,Yxk,Option.some.injEq,Prod.mk.injEq]at e5
   obtain⟨rfl,rfl⟩:=e5
   simp only[Yw9,Yx4,Ybe,Option.some.injEq,Prod.mk.injEq,and_true]at e6
   simp_all
theorem YrB{P:Program}{fm:FM}{f:FuncId}{α:Type}[ih:Inhabited α]{enc:α->Value}{srt:List α->List α}(K:YxK P f enc srt)(hone: ∀a,(enc a).oneCell'=true)(hlen: ∀l,(srt l).length=l.length)
  {c:Cs} (hw:c.width=1) (dec:c.den->α) (hdec: ∀x,c.enc x=[.v (enc (dec x))]) {xs ys:List c.den} (hys:ys.map dec=srt (xs.map dec)) (hne:xs≠ []) (hsm:xs.length<=4611686018427387903)
  {pls:Pl} {Kp:Nat->Prop} {H:Heap} {args:List AV} (hct:CT [some (.sq c xs)] pls [.ref 0] args) (hrs:HRel Kp H [some (.sq c xs)] pls H) (hfr:FrOK Kp H) (hX:wfX [some (.sq c ys)] [some (.sq c ys)]=true)
  {w:World} {Lc:Nat->Loc} {vals:Array Value} (hr:HR fm w Lc (hf H)) (hsz:vals.size=args.length) (hv: ∀j a,args[j]?=some a->VR fm w Lc (vals.getD j undef) a):
  Calls P f vals w fun e w'=> ∃v L',e= .returned v/\Keep Lc w w'/\LStep Lc L' w.heap.size/\HR fm w' L' (hf (Yxl Kp H 1 [some (.sq c ys)] (plI pls 1 H.length [some (.sq c ys)])))/\VR fm w' L' v (encT [some (.sq c ys)] (plI pls 1 H.length [some (.sq c ys)]) (.tp [])):=by
 obtain⟨a0,ra,rfl,ha0,hra⟩:=hct.inv
 have hra0:ra=[]:=YAk.1 hra.1.symm
 subst hra0
 have h0:vget [some (.sq c xs)] 0=some (.sq c xs):=rfl
 obtain⟨x,el,g1,g2,g3,g4⟩:=hrs.obj 0 _ h0
 rw[hw]at g2
 have hel:el=(xs.map dec).map fun a=>[.v (enc a)]:=by
  apply List.ext_getElem (by simp[g4.1])
  intro i h1 h2
  have hi:i<xs.length:=by simp_all
  have hc:=g4.2 i el[i] xs[i] (YAa h1) (YAa hi)
  rw[hdec]at hc
  obtain⟨hc1,hc2⟩:=hc
  simp only[List.getElem_map]
  match he:el[i],hc1,hc2 with
  | [a],_,hc2=>rw[Yaz (hc2 0 a _ rfl rfl)]
  | [],hc1,_=>trivial
  |_::_::_,hc1,_=>simp_all
 have ha0':a0= .ref x 0 xs.length:=by
  cases ha0 with
  |ref a x' o n h hn hp=>
   rw[h0]at h;injection h with h;subst h
   rw[g1]at hp;injection hp with hp;subst hp
   simp only[lenO]at hn;simp_all
  |refD a av h ha=>trivial
 subst ha0'
 have hne':xs.map dec≠ []:=fun e=>hne (List.map_eq_nil_iff.1 e)
 refine(Yrz K hone hlen (zs:=xs.map dec) hr hne' (by show H[x]?=_;simp_all) (by simp_all) (by trivial) (by simpa using hv 0 _ rfl)).mono ?_
 rintro e w' ⟨rfl,k1,k2⟩
 rw[<-hys]at k2
 have hl2:ys.length=xs.length:=by grind
 have hhf:(fun b=>if b=x then some (some (⟨1,(ys.map dec).map fun a=>[.v (enc a)]⟩:AObj))else hf H b)=hf (H.set x (some ⟨1,(ys.map dec).map fun a=>[.v (enc a)]⟩)):=by
  have:=Yd6 (H:=H) (a:=x) (o:=some ⟨1,(ys.map dec).map fun a=>[.v (enc a)]⟩) (by show H[x]?≠none;simp_all) 0
  trivial
 rw[hhf]at k2
 have hxl:x<H.length:=(Yz9.1 g2).1
 obtain⟨q1,q2⟩:=Ycc hrs h0 g1 (o':=.sq c ys) ⟨1,(ys.map dec).map fun a=>[.v (enc a)]⟩ (by trivial) (by simp[lenO,hl2]) (fun _ _ _ _ _ h=>by cases h) (fun _ _ _ _ _ h=>by cases h) (fun _=>by
  refine⟨x,(ys.map dec).map fun a=>[.v (enc a)],g1,?_,by omega,by simp,fun i e v k1 k2=> ?_⟩
  ·simp_all
  ·obtain⟨a,ha,rfl⟩: ∃a,ys[i]?=some a/\ [AV.v (enc (dec a))]=e:=by grind
   rw[ha]at k2;injection k2 with k2;subst k2
   rw[hdec]
   exact⟨rfl,fun j y y' h1 h2=>by rw[h1]at h2;injection h2 with h2;subst h2;exact .refl _⟩)
 have hvs:vset [some (VObj.sq c xs)] 0 (some (.sq c ys))=[some (.sq c ys)]:=rfl
 rw[hvs]at q1
 have hren:renX [some (VObj.sq c ys)] (List.range 1)=[some (VObj.sq c ys)]:=rfl
 have hfin:=YeR (Xs:=[some (.sq c xs)]) (pls:=pls) (Xh:=[some (.sq c ys)]) (ph:=pls) (v:=.tp []) (a:=.tup []) (m:=List.range 1) (s:=⟨[],H.set x (some ⟨1,(ys.map dec).map fun a=>[.v (enc a)]⟩),H.length⟩) hrs hfr q1 rfl (YAO _) (fun i hi x hx=>hx) List.nodup_range (List.prefix_refl _) (.tp [] [] rfl (fun j c a h=>by simp)) (by rfl) (by trivial)
 rw[hren]at hfin
 obtain⟨L2,f1,f2,f3⟩:=hfin fm w' Lc (.tuple #[]) k2 (.tup _ _ rfl (fun j a h=>by grind))
 refine⟨_,L2,rfl,k1,f1 Lc w.heap.size (fun b hb=> ?_) (LStep.refl _ _),f2,f3⟩
 apply Classical.byContradiction
 intro hlt
 exact hb ((hr.fresh b).2 (YAt (by simp_all)))
theorem YrC{P:Program}{fm:FM}{T:Tabs}(hS:Yxm P fm T){g:Nat}(hp:T.pf g=false){c:Cs}{F0 F:List c.den->Option (List c.den)}(he0:vsortE g c F0∈T.fs)
  {α:Type} [ih:Inhabited α] {enc:α->Value} {srt:List α->List α} (hone: ∀a,(enc a).oneCell'=true) (hlen: ∀l,(srt l).length=l.length)
  (hw:c.width=1) (dec:c.den->α) (hdec: ∀x,c.enc x=[.v (enc (dec x))]) (hF0: ∀y,F []=some y->F0 []=some y) (hF: ∀x y,x≠ []->F x=some y->y.map dec=srt (x.map dec)/\x.length<=4611686018427387903)
  (hG: ∀f,fm f=g->YwY P f=true/\YxK P f enc srt):Yxm P fm ⟨T.pf,vsortE g c F::T.fs,T.ls,0⟩:=by
 obtain⟨C,hC,hT⟩:=hS
 have hpC:C.pf g=true->Pure (vsortE g c F).RI:=fun h=>by rw[hT.p.pf,hp]at h;cases h
 refine⟨Yxx C g (vsortE g c F).RI,Ybh hC hpC (fun f hf=> ?_),YbU (e:=vsortE g c F) hT (fun h=>by rw[show(vsortE g c F).g=g from rfl,hp]at h;cases h) (fun _ _ _ _ _ h=>h)⟩
 rintro args H r H' ⟨x,y,vs,Xs,pls,Kp,v,l,X2,h1,h2,h3,hct,hrs,hfr,hall,h5,h6,h7,h8,h9,h10,rfl,rfl⟩
 by_cases hx:(show List c.den from x)=[]
 ·have h1':F0 x=some y:=by
   have:=h1
   have hx':x=([]:List c.den):=hx
   rw[hx']at this⊢
   exact hF0 y this
  have:=hT.fnI _ he0 hp args H _ _ ⟨x,y,vs,Xs,pls,Kp,v,l,X2,h1',h2,h3,hct,hrs,hfr,hall,h5,h6,h7,h8,h9,h10,rfl,rfl⟩
  rw[show(vsortE g c F0).g=g from rfl,<-hf]at this
  exact hC.ok f args H _ _ this
 ·obtain⟨hcal,K⟩:=hG f hf
  refine⟨hcal,fun w Lc vals hr hsz hv=> ?_⟩
  have hl:vs.length=1:=Yrp h2
  obtain⟨rfl,rfl,rfl,rfl⟩:=YrA (c:=c) (xs:=x) (ys:=y) (YaY h2) hl h5 h6
  obtain⟨k1,k2⟩:=hF x y hx h1
  exact YrB K hone hlen hw dec hdec k1 hx k2 hct hrs hfr h9 hr hsz hv
def insL{α:Type}(le:α->α->Bool)(x:α):List α->List α
 | []=>[x]
 |y::r=>bif le x y then x::y::r else y::insL le x r
def srtL{α:Type}(le:α->α->Bool):List α->List α
 | []=>[]
 |x::r=>insL le x (srtL le r)
theorem Ygr{α:Type}(le:α->α->Bool)(x:α): ∀l:List α,(insL le x l).Perm (x::l)
 | []=>List.Perm.refl _
 |y::r=>by
  unfold insL
  cases le x y with
  |true=>rfl
  |false=>exact((Ygr le x r).cons y).trans (List.Perm.swap ..)
theorem YkL{α:Type}(le:α->α->Bool): ∀l:List α,(srtL le l).Perm l
 | []=>List.Perm.refl _
 |x::r=>(Ygr le x _).trans ((YkL le r).cons x)
theorem YkM{α:Type}{le:α->α->Bool}(tr: ∀a b c,le a b=true->le b c=true->le a c=true)(tot: ∀a b,(le a b||le b a)=true)(x:α): ∀l:List α,l.Pairwise (fun a b=>le a b=true)->(insL le x l).Pairwise (fun a b=>le a b=true)
 | [],_=>by simp[insL]
 |y::r,h=>by
  unfold insL
  have h':=List.pairwise_cons.1 h
  cases hx:le x y with
  |true=>
   refine List.pairwise_cons.2 ⟨fun z hz=> ?_,h⟩
   grind
  |false=>
   refine List.pairwise_cons.2 ⟨fun z hz=> ?_,YkM tr tot x r h'.2⟩
   rcases YAi.1 ((Ygr le x r).mem_iff.1 hz)with rfl|hz
   ·grind
   simp_all
theorem YkN{α:Type}{le:α->α->Bool}(tr: ∀a b c,le a b=true->le b c=true->le a c=true)(tot: ∀a b,(le a b||le b a)=true): ∀l:List α,(srtL le l).Pairwise (fun a b=>le a b=true)
 | []=>List.Pairwise.nil
 |x::r=>YkM tr tot x _ (YkN tr tot r)
theorem YrD{α:Type}{le:α->α->Bool}(tr: ∀a b c,le a b=true->le b c=true->le a c=true)(tot: ∀a b,(le a b||le b a)=true)(ant: ∀a b,le a b=true->le b a=true->a=b){l r:List α}
  (h:r.Pairwise (fun a b=>le a b=true)) (hp:r.Perm l):r=srtL le l:=
 List.Perm.eq_of_pairwise (fun a b _ _=>ant a b) h (YkN tr tot l) (hp.trans (YkL le l).symm)
def leI(x y:Int):Bool:=decide (x<=y)
def YzL(l:List Int):List Int:=srtL leI l
theorem YrE(a b c:Int)(h:leI a b=true)(k:leI b c=true):leI a c=true:=by
 simp only[leI,decide_eq_true_eq]at*;omega
theorem YrF(a b:Int):(leI a b||leI b a)=true:=by
 simp only[leI,Bool.or_eq_true,decide_eq_true_eq];omega
theorem YrG(a b:Int)(h:leI a b=true)(k:leI b a=true):a=b:=by
 simp only[leI,decide_eq_true_eq]at*;omega
theorem YrH{P:Program}{f:FuncId}{ρ:Ren}(L:Lays.n189 P ρ)(hf:ρ.f 189=f):YxK P f (Value.int .i64) (fun l=>l.mergeSort fun x y=>decide (x<=y)):=by
 subst hf
 intro blk cap zs w hH hb hz
 exact Any.slices_Sort_int L blk 0 cap zs w hH hb hz
def Yzv(F0:List Int->Option (List Int))(l:List Int):Option (List Int):=match l with
 | []=>F0 []
 |_::_=>bif YAR l.length maxEl then some (YzL l)else none
theorem YrI:maxEl<=4611686018427387903:=by decide
theorem YrJ(l:List Int):(YzL l).map (fun n=>n)=(l.map fun n=>n).mergeSort fun x y=>decide (x<=y):=by
 have: ∀l:List Int,l.map (fun n=>n)=l:=fun l=>List.map_id l
 rw[this,this]
 refine(YrD YrE YrF YrG ?_ (List.mergeSort_perm _ _)).symm
 have:=List.pairwise_mergeSort (le:=fun x y:Int=>decide (x<=y)) (fun a b c h k=>by grind) (fun a b=>by grind) l
 trivial
theorem YrK{P:Program}{fm:FM}{T:Tabs}(hS:Yxm P fm T){g:Nat}(hp:T.pf g=false){F0:List Int->Option (List Int)}(he0:vsortE g (.cons (.i .i64) .nil) F0∈T.fs)
  (hG: ∀f,fm f=g->YwY P f=true/\ ∃ρ:Ren,Lays.n189 P ρ/\ρ.f 189=f):Yxm P fm ⟨T.pf,vsortE g (.cons (.i .i64) .nil) (Yzv F0)::T.fs,T.ls,0⟩:=by
 refine YrC hS hp he0 (enc:=Value.int .i64) (srt:=fun l=>l.mergeSort fun x y=>decide (x<=y)) (fun _=>rfl) (fun l=>by simp) rfl (fun n:Int=>n) (fun s=>rfl) (fun y h=>h) (fun x y hx h=> ?_) (fun f hf=> ?_)
 ·cases x with
  |nil=>trivial
  |cons a r=>
   obtain⟨h1,h2⟩:=Yaa (show(bif YAR (a::r:List Int).length maxEl then some (YzL (a::r))else none)=some y from h)
   injection h2 with h2;subst h2
   refine⟨?_,YAT (YAY h1) YrI⟩
   exact YrJ (a::r)
 ·obtain⟨k1,ρ,k2,k3⟩:=hG f hf
  exact⟨k1,YrH k2 k3⟩
theorem Ybx{P:Program}{fm:FM}{T:Tabs}(hS:Yxm P fm T)(e:FnE)(hF: ∀x,e.F x=none):Yxm P fm ⟨T.pf,e::T.fs,T.ls,0⟩:=by
 obtain⟨C,hC,hT⟩:=hS
 refine⟨C,hC,⟨hT.p.pf,fun e' he' hp args r hr=> ?_⟩,fun e' he' hp args H r H' hr=> ?_⟩
 ·rcases YAi.1 he' with rfl|he'
  ·obtain⟨x,y,vs,v,h1,_⟩:=hr
   simp_all
  ·exact hT.p.fn e' he' hp args r hr
 ·rcases YAi.1 he' with rfl|he'
  ·obtain⟨x,y,vs,Xs,pls,Kp,v,l,X2,h1,_⟩:=hr
   simp_all
  ·exact hT.fnI e' he' hp args H r H' hr
end Go.Abs
namespace Go.Abs
open Go Go.RowKit
def fmOf(l:List Nat)(f:Nat):Nat:=l.getD f 0
def Yyi(g:Nat):List Nat->Nat->Nat->Bool
 | [],_,_=>true
 |x::r,i,k=>(!(YAN x g)||YAN k i)&&Yyi g r i (k+1)
theorem YkO{g i:Nat}: ∀{l:List Nat} {k:Nat},Yyi g l i k=true-> ∀f,l[f]?=some g->k+f=i
 | [],k,_,f,h=>by simp at h
 |x::r,k,h,f,hf=>by
  simp only[Yyi,YA7,Bool.or_eq_true,Bool.not_eq_true']at h
  cases f with
  |zero=>
   simp at hf;subst hf
   rcases h.1 with h1|h1
   ·rw[Nat.beq_refl]at h1;cases h1
   ·exact YAP h1
  |succ f=>
   have:=YkO h.2 f (by simpa using hf)
   omega
theorem YkP{l:List Nat}{g i f:Nat}(h:Yyi g l i 0=true)(hg:g≠0)(hf:fmOf l f=g):f=i:=by
 unfold fmOf at hf
 cases hl:l[f]? with
 |none=>rw[YAj,hl]at hf;exact absurd hf.symm hg
 |some x=>
  rw[YAj,hl]at hf
  have hf:x=g:=hf
  subst hf
  have:=YkO h f hl
  omega
theorem Yab{P:Program}{fm:FM}{pf:Nat->Bool}{l:List Nat}{g i:Nat}{X:Option (Nat×List RV×ACode)}(hl:fm.f=fmOf l)(h:Yyi g l i 0=true:=by kernel_rfl)(hg:g≠0:=by decide)(ht:fnTr P fm pf i=X:=by kernel_rfl): ∀f,fm f=g->fnTr P fm pf f=X:=fun f hf=>by
 have:f=i:=YkP h hg (by rw[<-hl];exact hf)
 rw[this];exact ht
end Go.Abs
namespace Go.Abs
open Go Go.RowKit
def Yx8:VCode->List (Nat×ACode)
 | .seq a b=>Yx8 a++Yx8 b
 | .cond _ a b=>Yx8 a++Yx8 b
 | .blk _ b=>Yx8 b
 | .fz _ b=>Yx8 b
 | .ow _ b=>Yx8 b
 | .loop lid b=>[(lid,.loop b.er)]
 | .jn lid b=>[(lid,b.er)]
 |_=>[]
abbrev LL:=List (LpE×ACode)
def getC(id:Nat):LL->Option ACode
 | []=>none
 | (p,c)::r=>bif YAN p.id id then some c else getC id r
def gotC(ls:LL)(c:VCode):List (Option ACode):=(Yx8 c).map fun q=>getC q.1 ls
def Yyd(c:VCode):List (Option ACode):=(Yx8 c).map fun q=>some q.2
abbrev fsts(ls:LL):List LpE:=ls.map Prod.fst
theorem YkQ{ls:LL}{id:Nat}{e:LpE}{c:ACode}(h:getC id ls=some c)(he:YyH id (fsts ls)=some e):(e,c)∈ls:=by
 induction ls with
 |nil=>cases h
 |cons a r ih=>
  obtain⟨p,d⟩:=a
  simp only[getC]at h
  simp only[fsts,YAd,YyH]at he
  grind
section
variable{Fr:Nat->Prop}{H0:Heap}{C:Ctx}{pf:Nat->Bool}{fs:List FnE}{kb:Nat}{ls:LL}
theorem YaG(hk: ∀q∈ls,Yxq Fr H0 kb C q.2 q.1): ∀{c:VCode},gotC ls c=Yyd c->LsOK Fr H0 C ⟨pf,fs,fsts ls,kb⟩ c
 | .seq a b,h=>by
   simp only[gotC,Yyd,Yx8,YAH]at h
   obtain⟨h1,h2⟩:=List.append_inj h (by simp)
   exact⟨YaG hk h1,YaG hk h2⟩
 | .cond _ a b,h=>by
   simp only[gotC,Yyd,Yx8,YAH]at h
   obtain⟨h1,h2⟩:=List.append_inj h (by simp)
   exact⟨YaG hk h1,YaG hk h2⟩
 | .blk _ b,h=>YaG (c:=b) hk h
 | .fz _ b,h=>YaG (c:=b) hk h
 | .ow _ b,h=>YaG (c:=b) hk h
 | .loop lid b,h=>fun e he=>hk _ (YkQ (List.cons.inj h).1 he)
 | .jn lid b,h=>fun e he=>hk _ (YkQ (List.cons.inj h).1 he)
 | .skip,_=>trivial
 | .reg _,_=>trivial
 | .regN _ _,_=>trivial
 | .exit _,_=>trivial
 | .ret,_=>trivial
 | .bad,_=>trivial
inductive Lk(lo:Lo)(pf:Nat->Bool)(fs:List FnE)(kb:Nat):LL->Prop
 |n:Lk lo pf fs kb []
 |l {ls:LL} {p:LpE} {b:VCode} (h:Lk lo pf fs kb ls) (s:p.g.c.den->Option (p.g.c.den⊕Alt p.outs)) (hF:p.F=lo.run s:=by rfl) (ok:gotC ls b=Yyd b:=by kernel_rfl)
    (eq: ∀x,Yy8 ⟨pf,fs,fsts ls,kb⟩ p.own p.g p.outs b x=s x:=by intro x;kernel_rfl):Lk lo pf fs kb ((p,.loop b.er)::ls)
 |j {ls:LL} {p:LpE} {b:VCode} (h:Lk lo pf fs kb ls) (ok:gotC ls b=Yyd b:=by kernel_rfl) (eq: ∀x,stepJ ⟨pf,fs,fsts ls,kb⟩ p.g p.outs b x=p.F x:=by intro x;kernel_rfl):Lk lo pf fs kb ((p,b.er)::ls)
 |r {ls:LL} {p:LpE} {c:ACode} (h:Lk lo pf fs kb ls) (hs: ∀C,TOK ⟨pf,fs,fsts ls,kb⟩ C-> ∀Fr H0,FrOK Fr H0->(∀q∈ls,Yxq Fr H0 kb C q.2 q.1)->Yxq Fr H0 kb C c p):Lk lo pf fs kb ((p,c)::ls)
theorem Lk.snd{lo:Lo}(hlo:LoOK lo)(hT:TOK ⟨pf,fs,[],kb⟩ C)(hf:FrOK Fr H0)(h:Lk lo pf fs kb ls): ∀q∈ls,Yxq Fr H0 kb C q.2 q.1:=by
 induction h with
 |n=>simp
 |l h s hF ok eq ih=>
  intro q hq
  rcases YAi.1 hq with rfl|hq
  ·exact YqN (YbV hT) hf (YaG ih ok) (fun x y h=>Yre eq (hlo _ _ _ (by simp_all)))
  simp_all
 |j h ok eq ih=>
  intro q hq
  rcases YAi.1 hq with rfl|hq
  ·exact YqO (YbV hT) hf (YaG ih ok) (fun x y h=>(eq x).trans h)
  simp_all
 |r h hs ih=>
  intro q hq
  rcases YAi.1 hq with rfl|hq
  ·exact hs C (YbV hT) Fr H0 hf ih
  simp_all
theorem Lk.m{lo:Lo}{id it nx mo out:Nat}{own:List (Nat×Option Nat×Bool)}{g0 g:Sg}{outs:List Out1}{pre bb rest:VCode}(h:Lk lo pf fs kb ls)
  {p:g.c.den->ItP} {t:g.c.den->Int->Option g.c.den} {r:g.c.den->Option (Alt outs)} {u:g0.c.den->Option g.c.den} {F:g0.c.den->Option (Alt outs)}
  (ok:gotC ls (.seq pre (.seq bb rest))=Yyd (.seq pre (.seq bb rest)))
  (hp: ∀x,itR g it x=some (p x)) (ht: ∀x b,YzK ⟨pf,fs,fsts ls,kb⟩ own g it nx mo out bb x b=t x b) (hr: ∀x,endR ⟨pf,fs,fsts ls,kb⟩ g nx mo out bb rest outs x=r x) (hu: ∀x,preR ⟨pf,fs,fsts ls,kb⟩ pre own g0 g x=u x)
  (hF:F=fun x=>YAZ (u x) (rngF p t r)):
  Lk lo pf fs kb ((⟨id,own,g0,outs,F⟩,.seq (.seq pre.er (.blk out (.loop (.seq (.reg [⟨some nx,.px .mnxt [.t it],none,false,false⟩,⟨some mo,.ext (.t nx) 0,none,false,false⟩]) (YyJ mo out bb).er)))) rest.er)::ls):=
 .r h (fun C hT Fr H0 hf hk=>by
  obtain⟨k1,k2,k3⟩:=YaG (pf:=pf) (fs:=fs) hk ok
  exact Yrc hT hf k1 ⟨⟨trivial,trivial⟩,k2⟩ k3 hp ht hr hu (fun x y h=>Yrd (by simp_all)))
end
structure GS(P:Program)(fm:FM)(pf:Nat->Bool)(fs:List FnE)(lo:Lo):Prop where
 lo:LoOK lo
 mx:P.follows .mixedOrders=true
 S:Yxm P fm ⟨pf,fs,[],0⟩
abbrev TieF(P:Program)(fm:FM)(pf:Nat->Bool)(g:Nat)(F:VFn):Prop:= ∀f,fm f=g->fnTr P fm pf f=some (F.slots,F.res,F.code.er)
def eqNs:List Nat->List Nat->Bool
 | [],[]=>true
 |a::r,b::s=>YAN a b&&eqNs r s
 |_,_=>false
theorem YkR: ∀{a b:List Nat},eqNs a b=true->a=b
 | [],[],_=>rfl
 |a::r,b::s,h=>by
  simp only[eqNs,YA7]at h
  rw[YAP h.1,YkR h.2]
 | [],_::_,h|_::_,[],h=>by cases h
def chkF(pf:Nat->Bool)(p:Bool)(e:FnE)(F:VFn):Bool:=(match p with|true=>pf e.g|false=> !pf e.g)&& (YAR F.res.length 4&& (eqNs e.args.ts (List.range' 0 e.args.vs.length)&&YAR e.args.vs.length F.slots))
section
variable{P:Program}{fm:FM}{pf:Nat->Bool}{fs:List FnE}{lo:Lo}
theorem YeU{p:Bool}{e:FnE}{F:VFn}(h:chkF pf p e F=true):pf e.g=p/\F.res.length<=4/\e.args.ts=List.range' 0 e.args.vs.length/\e.args.vs.length<=F.slots:=by
 simp only[chkF,YA7,Nat.ble_eq]at h
 refine⟨?_,h.2.1,YkR h.2.2.1,h.2.2.2⟩
 grind
theorem GS.p(h:GS P fm pf fs lo)(e:FnE){F:VFn}{ls:LL}(hk:Lk lo pf fs 0 ls)(t:TieF P fm pf e.g F)(hc:chkF pf true e F=true:=by kernel_rfl)(ok:gotC ls F.code=Yyd F.code:=by kernel_rfl)
  (eq: ∀x,evP ⟨pf,fs,fsts ls,0⟩ F e.args e.res e.co x=e.F x:=by intro x;kernel_rfl):GS P fm pf (e::fs) lo:=by
 obtain⟨h1,h2,h3,h4⟩:=YeU hc
 exact⟨h.1,h.2,YqV h.S h.mx (fsts ls) e h1 F t h2 h3 h4 (fun C hT=>YaG (hk.snd h.1 (YbV hT) frNo) ok) (fun x y h=>(eq x).trans h)⟩
theorem GS.i(h:GS P fm pf fs lo)(e:FnE){F:VFn}{ls:LL}(hk:Lk lo pf fs e.args.os.length ls)(t:TieF P fm pf e.g F)(hc:chkF pf false e F=true:=by kernel_rfl)(ok:gotC ls F.code=Yyd F.code:=by kernel_rfl)
  (eq: ∀x,evI ⟨pf,fs,fsts ls,e.args.os.length⟩ F e.args e.res e.os e.co x=e.F x:=by intro x;kernel_rfl):GS P fm pf (e::fs) lo:=by
 obtain⟨h1,h2,h3,h4⟩:=YeU hc
 exact⟨h.1,h.2,YqZ h.S h.mx (fsts ls) e h1 F t h2 h3 h4 (fun C hT Fr H0 hf=>YaG (hk.snd h.1 (YbV hT) hf) ok) (fun x y h=>(eq x).trans h)⟩
abbrev FnE.wi(e:FnE)(F:e.args.c.den->Option e.co.den):FnE:=⟨e.g,e.pf,e.args,e.res,e.os,e.co,F⟩
theorem GS.pr(h:GS P fm pf fs lo)(e:FnE){F:VFn}(Fn:Nat->e.args.c.den->Option e.co.den){ls:(e.args.c.den->Option e.co.den)->LL}(hk: ∀r,Lk lo pf (e.wi r::fs) 0 (ls r))(t:TieF P fm pf e.g F)(hc:chkF pf true e F=true)
  (h0: ∀x,Fn 0 x=none) (hF:e.F=fun x=>lo.run (fixS Fn) (0,x)) (ok: ∀r,gotC (ls r) F.code=Yyd F.code) (eq: ∀n x,evP ⟨pf,e.wi (Fn n)::fs,fsts (ls (Fn n)),0⟩ F e.args e.res e.co x=Fn (n+1) x):GS P fm pf (e::fs) lo:=by
 obtain⟨h1,h2,h3,h4⟩:=YeU hc
 exact⟨h.1,h.2,YqW h.S h.mx e h1 Fn (fun n=>fsts (ls (Fn n))) F t h2 h3 h4 h0 (fun x y hy=>Ykq (h.1 _ _ _ (by rw[hF]at hy;exact hy))) (fun n C hT=>YaG ((hk (Fn n)).snd h.1 (YbV hT) frNo) (ok _)) (fun n x y h=>(eq n x).trans h)⟩
theorem GS.ir(h:GS P fm pf fs lo)(e:FnE){F:VFn}(Fn:Nat->e.args.c.den->Option e.co.den){ls:(e.args.c.den->Option e.co.den)->LL}(hk: ∀r,Lk lo pf (e.wi r::fs) e.args.os.length (ls r))(t:TieF P fm pf e.g F)(hc:chkF pf false e F=true)
  (h0: ∀x,Fn 0 x=none) (hF:e.F=fun x=>lo.run (fixS Fn) (0,x)) (ok: ∀r,gotC (ls r) F.code=Yyd F.code) (eq: ∀n x,evI ⟨pf,e.wi (Fn n)::fs,fsts (ls (Fn n)),e.args.os.length⟩ F e.args e.res e.os e.co x=Fn (n+1) x):GS P fm pf (e::fs) lo:=by
 obtain⟨h1,h2,h3,h4⟩:=YeU hc
 exact⟨h.1,h.2,Yq0 h.S h.mx e h1 Fn (fun n=>fsts (ls (Fn n))) F t h2 h3 h4 h0 (fun x y hy=>Ykq (h.1 _ _ _ (by rw[hF]at hy;exact hy))) (fun n C hT Fr H0 hf=>YaG ((hk (Fn n)).snd h.1 (YbV hT) hf) (ok _)) (fun n x y h=>(eq n x).trans h)⟩
end
end Go.Abs
namespace Go.Abs
def Yza{S R:Type}(step:S->Option (S⊕R)):Nat->S->Option (Option R)
 |0,_=>none
 |n+1,s=>match step s with
  |some (.inl s')=>Yza step n s'
  |some (.inr r)=>some (some r)
  |none=>some none
theorem YmU{S R:Type}(step:S->Option (S⊕R)): ∀(n:Nat) (x:S) (o:Option R),Yza step n x=some o->Yw7 step x=o
 |0,_,_,h=>by cases h
 |n+1,x,o,h=>by
  rw[Yaf]
  simp only[Yza]at h
  split at h
  ·rename_i s hs;rw[hs];exact YmU step n s o h
  ·rename_i r hs;rw[hs];injection h
  ·rename_i hs;rw[hs];injection h
noncomputable def loM(n:Nat):Lo:=⟨fun step x=>match Yza step n x with|some y=>y|none=>Yw7 step x⟩
theorem Ywi(n:Nat):loM n=loO:=by
 unfold loM loO
 congr 1
 funext S R step x
 cases h:Yza step n x with
 |none=>rfl
 |some y=>exact(YmU step n x y h).symm
end Go.Abs
