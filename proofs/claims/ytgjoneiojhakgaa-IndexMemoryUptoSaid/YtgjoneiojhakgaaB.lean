/- Loops over maps, with what stands behind them: whatever the order of the entries. No condition. -/
import Derived.Test.YtgjoneiojhakgaaA3
import Derived.Shelf.Spec.SlicesGrow
import Derived.Laws.AppendOwn
import Derived.Shelf.Strings.Builder1
import Derived.Shelf.Small.Strs
import Derived.Shelf.Strings.Repeat
import Derived.Carry
import Derived.WalkKit
import Derived.ProofKit
import Derived.OpenShut
import Derived.Shelf.Sort.Plain
import Derived.Shelf.Strings.OnBuilder
import Derived.JoinedCond
import Derived.LaidMore
import Derived.Shelf.Slices.CompactI
import Derived.Shelf.Strconv.Itoa4
import Derived.Lib.AppendIntMem
import Derived.Shelf.Spec.SlicesInsert
import Derived.Lib.AppendZerosOnto
import Derived.Shelf.SlGeneric
import Derived.Shelf.SlicesE.DeleteFunc
import Derived.Shelf.SortG.Plain
set_option linter.unusedVariables false
set_option linter.unusedSimpArgs false
set_option linter.unusedSectionVars false
open List renaming getElem?_eq_some_iff → YB6, getElem?_eq_getElem → YB7, mem_of_getElem? → YB8, getElem?_map → YB9, map_cons → YCa, getElem?_append_left → YCb, mem_map → YCc, mem_cons → YCd, length_map → YCe, mem_iff_getElem? → YCh, length_eq_zero_iff → YCi, getElem?_append_right → YCj, append_assoc → YCk, mem_cons_self → YCl, length_append → YCm, getElem?_take → YCn, getElem?_set_self → YCo, mem_singleton → YCp, getElem?_eq_none → YCs, length_set → YCt, length_singleton → YCu, map_map → YCv, getElem?_drop → YCw, mem_cons_of_mem → YCx, pairwise_cons → YCy, map_append → YCz, cons_append → YCB, mem_append → YCD, ext_getElem? → YCE, nil_append → YCF, map_congr_left → YCG, getD_eq_getElem?_getD → YCH
open Nat renaming beq → YCJ, blt → YCK, le_refl → YCL, eq_of_beq_eq_true → YCM, ble → YCN, mul_le_mul_right → YCO, le_trans → YCP, lt_of_lt_of_le → YCQ, zero_add → YCR, add_mul → YCS, zero_le → YCT, le_of_ble_eq_true → YCU
open Option renaming bind → YCV, map_some → YCX, getD_some → YCY
open Bool renaming and_eq_true → YC3, or_eq_true → YC5, and_self → YC6
open Int renaming toNat_natCast → YC7
open Array renaming getD_eq_getD_getElem? → YC8, getElem?_eq_getElem → YC9, getElem?_eq_some_iff → YDa, getElem?_push → YDb, length_toList → YDd
namespace Go.Abs
open Go Go.RowKit
abbrev ItP:=List Int×List Int×Int×Int×Int
def Yz4(c:Cs)(l:List (Cs.cons (.i .i64) c).den):List Int:= @List.map (Cs.cons (.i .i64) c).den Int (fun x=>fstP c x) l
def itV(it:Nat)(s:VSt):Option ItP:=
 match YyH s.env it with
 | .np i=>match vget s.heap i with
   |some (.st [.np a,.i .i64 s0,.i .i64 t0,.l c sn,_])=>match asL c I64 sn with
    |some sn=>match vget s.heap a with
     |some (.st (.i .i64 n:: .l (.cons (.i .i64) c') l::tags))=>bif YCJ tags.length 1||YCJ tags.length 2 then some (Yz4 c' l,sn,n,s0,t0)else none
     |some (.fm (.mp o n) c _ _ l)=>some (Yz4 (.cons (kty o) (.cons (.l c) .nil)) l,sn,n,s0,t0)
     |_=>none
    |none=>none
   |_=>none
 |_=>none
def addI(sn:List Int)(b:Int):List Int:=sn++[b]
def YBt(it nx mo:Nat)(b:Int)(s:VSt):Option VSt:=
 match YyH s.env it with
 | .np i=>match vget s.heap i with
   |some (.st [m,s0,t0,.l c sn,tg])=>match asL c I64 sn with
    |some sn=>some ⟨(mo,.b true)::(nx,.u)::s.env,vset s.heap i (some (.st [m,s0,t0,.l I64 (addI sn b),tg]))⟩
    |none=>none
   |_=>none
 |_=>none
def YzK(mo out:Nat)(bb:VCode):VCode:=.seq (.cond (.t mo) .skip (.exit out)) bb
def itR(g:Sg)(it:Nat)(x:g.c.den):Option ItP:=match g.fill x with|some s=>itV it s|none=>none
def YBu(T:Tabs)(own:List (Nat×Option Nat×Bool))(g:Sg)(it nx mo out:Nat)(bb:VCode)(x:g.c.den)(b:Int):Option g.c.den:=
 match g.fill x with
 |some s=>match YBt it nx mo b s with
  |some s1=>ev T (YzK mo out bb) s1 fun e s'=>match e with
   | .nor=>match Yzu T.kb g.ts (ownV own s')with| (vs,X)=>g.read vs X
   |_=>none
  |none=>none
 |none=>none
def endR(T:Tabs)(g:Sg)(nx mo out:Nat)(bb rest:VCode)(outs:List Out1)(x:g.c.den):Option (Alt outs):=
 match g.fill x with
 |some s=>ev T (YzK mo out bb) ⟨(mo,.b false)::(nx,.u)::s.env,s.heap⟩ fun e s'=>match e with
  | .exit id=>bif YCJ id out then ev T rest s' (fun e s''=>outK T.kb outs e s'')else none
  |_=>none
 |none=>none
def preR(T:Tabs)(pre:VCode)(own:List (Nat×Option Nat×Bool))(g0 g:Sg)(x:g0.c.den):Option g.c.den:=
 match g0.fill x with
 |some s=>ev T pre s fun e s'=>match e with
  | .nor=>match Yzu T.kb g.ts (ownV own s')with| (vs,X)=>g.read vs X
  |_=>none
 |none=>none
section
variable{A R:Type}
inductive RunR(p:A->ItP)(t:A->Int->Option A)(r:A->Option R)(B:List Int)(c:Int):List Int->A->R->Prop
 |fin {sn:List Int} {x:A} {y:R} (h: ∀b∈B,b∈sn) (hp:p x=(B,sn,c,c,c)) (hr:r x=some y):RunR p t r B c sn x y
 |go {sn:List Int} {x:A} {y:R} (f:Int->A) (hp:p x=(B,sn,c,c,c)) (hb: ∃b∈B,b∉sn) (ht: ∀b∈B,b∉sn->t x b=some (f b))
  (hg: ∀b∈B,b∉sn->RunR p t r B c (sn++[b]) (f b) y):RunR p t r B c sn x y
def Good(p:A->ItP)(t:A->Int->Option A)(r:A->Option R)(x:A)(y:R):Prop:= ∃B c,RunR p t r B c [] x y
open Classical in
noncomputable def rngF(p:A->ItP)(t:A->Int->Option A)(r:A->Option R)(x:A):Option R:=
 if h: ∃y,Good p t r x y then some (Classical.choose h)else none
theorem Yr3{p:A->ItP}{t:A->Int->Option A}{r:A->Option R}{x:A}{y:R}(h:rngF p t r x=some y):Good p t r x y:=by
 unfold rngF at h
 split at h
 ·grind
 trivial
theorem RunR.det{p:A->ItP}{t:A->Int->Option A}{r:A->Option R}{B:List Int}{c:Int}{sn:List Int}{x:A}{y y':R}(h:RunR p t r B c sn x y)(h':RunR p t r B c sn x y'):y=y':=by
 induction h with
 |fin h1 hp hr=>
  cases h' with
  |fin _ _ hr'=>simp_all
  |go f _ hb _ _=>grind
 |go f hp hb ht hg ih=>
  obtain⟨b,hb1,hb2⟩:=hb
  cases h' with
  |fin h1 _ _=>simp_all
  |go f' _ _ ht' hg'=>
   grind
theorem RunR.p{p:A->ItP}{t:A->Int->Option A}{r:A->Option R}{B:List Int}{c:Int}{sn:List Int}{x:A}{y:R}(h:RunR p t r B c sn x y):p x=(B,sn,c,c,c):=by cases h<;>assumption
theorem YgA{p:A->ItP}{t:A->Int->Option A}{r:A->Option R}{x:A}{y:R}(h:Good p t r x y):rngF p t r x=some y:=by
 unfold rngF
 have hx: ∃y,Good p t r x y:=⟨y,h⟩
 rw[dif_pos hx]
 obtain⟨B,c,h⟩:=h
 obtain⟨B',c',h'⟩:=Classical.choose_spec hx
 have e:=h.p
 rw[h'.p]at e
 injection e with e1 e2;injection e2 with _ e2;injection e2 with e2 _
 subst e1;subst e2
 rw[h'.det h]
end
section
variable{Fr:Nat->Prop}{H0:Heap}{T:Tabs}{C:Ctx}
def YzE(B sn:List Int):Nat:=(B.filter fun b=> !sn.contains b).length
theorem YkY{B sn:List Int}{b:Int}(h:b∈B)(hn:b∉sn):YzE B (sn++[b])<YzE B sn:=by
 unfold YzE
 induction B with
 |nil=>cases h
 |cons a B ih=>
  have hle: ∀B:List Int,(B.filter fun x=> !(sn++[b]).contains x).length<=(B.filter fun x=> !sn.contains x).length:=by
   intro B
   induction B with
   |nil=>simp
   |cons c B ih=>
    grind
  grind
theorem Yr4{bl:List (List AV)}{sn:List Int}(h:Rows bl I64 sn):bl=sn.map fun b=>[.v (.int .i64 b)]:=by
 refine YCE fun i=> ?_
 rw[YB9]
 cases hi:bl[i]? with
 |none=>
  have:sn[i]?=none:=by
   rw[List.getElem?_eq_none_iff]at hi⊢
   have hl:bl.length=sn.length:=h.1
   omega
  simp_all
 |some e=>
  have hlt:=(YB6.1 hi).1
  have hl:bl.length=sn.length:=h.1
  have hs:sn[i]?=some sn[i]:=YB7 (by omega)
  have hcc:=h.2 i e _ hi hs
  rw[hs]
  have h1:=hcc.1
  match e,h1 with
  | [z],_=>
    have:=hcc.2 0 z _ rfl rfl
    rw[show z= .v (.int .i64 sn[i])from YaC this];rfl
theorem Yr5{el:List (List AV)}{c:Cs}{l:List (Cs.cons (.i .i64) c).den}(h:Rows el (.cons (.i .i64) c) l):el.map YzI=(Yz4 c l).map some:=by
 unfold Yz4
 refine YCE fun i=> ?_
 rw[YB9,YB9,YB9]
 cases hi:el[i]? with
 |none=>
  have:l[i]?=none:=by
   rw[List.getElem?_eq_none_iff]at hi⊢
   have hl:el.length=l.length:=h.1
   omega
  simp_all
 |some e=>
  have hlt:=(YB6.1 hi).1
  have hl:el.length=l.length:=h.1
  have hs:l[i]?=some l[i]:=YB7 (by omega)
  have hcc:=h.2 i e _ hi hs
  rw[hs]
  have h1:=hcc.1
  match e,h1 with
  |z::r,_=>
   have:=hcc.2 0 z _ rfl rfl
   rw[show z= .v (.int .i64 (fstP c l[i]))from YaC this];rfl
theorem Yr6(c:Cs)(l:List (Cs.cons (.i .i64) c).den)(i:Nat):(Yz4 c l)[i]?=(l[i]?).map fun x=>fstP c x:=by unfold Yz4;exact YB9
def MapB(X:Yyu)(a:Nat)(n:Int)(B:List Int):Prop:=
 (∃c' l tags,vget X a=some (.st (.i .i64 n:: .l (.cons (.i .i64) c') l::tags))/\ (tags.length=1\/tags.length=2)/\B=Yz4 c' l)\/
 ∃o c v h l,vget X a=some (.fm (.mp o n) c v h l)/\B=Yz4 (.cons (kty o) (.cons (.l c) .nil)) l
theorem Yr7{X:Yyu}{pl:Pl}{H:Heap}{a y:Nat}{n:Int}{B:List Int}(hr:HRel Fr H0 X pl H)(h:MapB X a n B)(hp:pl (.m a)=some y): ∃O el tags,H[y]?=some (some O)/\mapO O=some (n,el,tags)/\el.map YzI=B.map some:=by
 rcases h with⟨c',l,tags,h1,h2,rfl⟩| ⟨o,c,v,h,l,h1,rfl⟩
 ·obtain⟨el,at',R0,f8,f9,f10,f11⟩:=YdZ hr h1 hp h2
  exact⟨_,el,_,f8,f9,Yr5 f10⟩
 ·obtain⟨y',el,g1,g2,g3,g4,g6⟩:=hr.obj a _ h1
  rw[hp]at g1;injection g1 with g1;subst g1
  refine⟨_,el,[.v (.bool false)],g2,rfl,?_⟩
  apply YCE
  intro i
  rw[YB9,YB9]
  refine Eq.trans ?_ (congrArg (Option.map some) (Yr6 (.cons (kty o) (.cons (.l c) .nil)) l i).symm)
  show Option.map YzI el[i]?=Option.map some (Option.map (fun x:(mapC o (.l c) .nil).den=>x.1) ((show List (mapC o (.l c) .nil).den from l)[i]?))
  by_cases hi:i<l.length
  ·obtain⟨r,e,_⟩:=Yf9 (g6 i _ l[i] (YB7 (by omega:i<el.length)) (YB7 hi))
   rw[YB7 (by omega:i<el.length),e]
   exact congrArg (fun z=>Option.map some (Option.map (fun x:(mapC o (.l c) .nil).den=>x.1) z)) (YB7 (l:=(show List (mapC o (.l c) .nil).den from l)) hi).symm
  ·rw[YCs (by omega)]
   exact congrArg (fun z=>Option.map some (Option.map (fun x:(mapC o (.l c) .nil).den=>x.1) z)) (YCs (l:=(show List (mapC o (.l c) .nil).den from l)) (Nat.le_of_not_lt hi)).symm
theorem Yr8{X:Yyu}{a:Nat}{n:Int}{B:List Int}(h:MapB X a n B): ∃o,vget X a=some o:=by
 rcases h with⟨_,_,_,h,_⟩| ⟨_,_,_,_,_,h,_⟩<;>exact⟨_,h⟩
theorem Yr9{it:Nat}{s:VSt}{B sn:List Int}{n s0 t0:Int}(h:itV it s=some (B,sn,n,s0,t0)):
  ∃i a tg,YyH s.env it= .np i/\vget s.heap i=some (.st [.np a,.i .i64 s0,.i .i64 t0,.l I64 sn,tg])/\MapB s.heap a n B:=by
 unfold itV at h
 split at h
 ·rename_i i hi
  split at h
  ·rename_i a s0' t0' c sn' tg ho
   split at h
   ·rename_i sn2 hs
    split at h
    ·rename_i n' c' l tags hm
     obtain⟨e1,e2⟩:=Yaa h
     injection e2 with e2;injection e2 with e3 e2;injection e2 with e4 e2;injection e2 with e5 e2;injection e2 with e6 e7
     subst e3;subst e4;subst e5;subst e6;subst e7
     obtain⟨ec,es⟩:=YaD hs
     subst ec;subst es
     simp at e1
     exact⟨i,_,_,hi,ho,.inl ⟨_,_,_,hm,e1,rfl⟩⟩
    ·rename_i o n' c' ver hole l hm
     injection h with e2;injection e2 with e3 e2;injection e2 with e4 e2;injection e2 with e5 e2;injection e2 with e6 e7
     subst e3;subst e4;subst e5;subst e6;subst e7
     obtain⟨ec,es⟩:=YaD hs
     subst ec;subst es
     exact⟨i,_,_,hi,ho,.inr ⟨_,_,_,_,_,hm,rfl⟩⟩
    trivial
   trivial
  trivial
 trivial
theorem Ysa(hT:TOK T C)(hfr:FrOK Fr H0){id it nx mo out:Nat}{own0 own:List (Nat×Option Nat×Bool)}{g0 g:Sg}{outs:List Out1}{pre bb rest:VCode}
  (hl0:LsOK Fr H0 C T pre) (hl1:LsOK Fr H0 C T (YzK mo out bb)) (hl2:LsOK Fr H0 C T rest)
  {p:g.c.den->ItP} {t:g.c.den->Int->Option g.c.den} {r:g.c.den->Option (Alt outs)} {u:g0.c.den->Option g.c.den} {F:g0.c.den->Option (Alt outs)}
  (hp: ∀x,itR g it x=some (p x)) (ht: ∀x b,YBu T own g it nx mo out bb x b=t x b) (hr: ∀x,endR T g nx mo out bb rest outs x=r x) (hu: ∀x,preR T pre own g0 g x=u x)
  (hF: ∀x y,F x=some y-> ∃z,u x=some z/\Good p t r z y):
  Yy1 Fr H0 T.kb C (.seq (.seq pre.er (.blk out (.loop (.seq (.reg [⟨some nx,.px .mnxt [.t it],none,false,false⟩,⟨some mo,.ext (.t nx) 0,none,false,false⟩]) (YzK mo out bb).er)))) rest.er) ⟨id,own0,g0,outs,F⟩:=by
 intro x0 y hx0 s00 hfill0 q b st hs0
 obtain⟨z,hz,B,c,hrun⟩:=hF x0 y hx0
 rw[<-hu]at hz
 unfold preR at hz
 have hfill0':g0.fill x0=some s00:=hfill0
 rw[hfill0']at hz
 simp only at hz
 let QF:Ex->ASt->Prop:=fun ex st'=> ∃s',altK outs y (fun o z=>o.ex=ex/\o.g.fill z=some s')/\VS Fr H0 (T.kb,q) b s' st'
 refine Ybd (Ybd (YaG hT hfr hz hl0 hs0 (fun e s' st' g1 g2=> ?_)))
 cases e with
 |exit id'=>trivial
 |ret=>trivial
 |nor=>
 simp only at g1
 show Sat C (.blk out _) _ st'
 cases hkp:Yzu T.kb g.ts (ownV own s')with
 |mk vs X=>
 rw[hkp]at g1
 simp only at g1
 obtain⟨hb,hkb,pl,he,hrl,hpk⟩:=g2
 obtain⟨st1,pl1,k1,k2,k3,k4,k8,k9⟩:=YaL (ws:=own) hb he hrl
 obtain⟨pl2,k5,k6,k7,k10⟩:=YcY (env:=(ownV own s').env) (X:=(ownV own s').heap) k3 k4 (YCP hkb k8) hkp
 refine Yjh (Yji (fun m t=> ∃x sn s,RunR p _ r B c sn x y/\m=YzE B sn/\g.fill x=some s/\VS Fr H0 (T.kb,q) b s t)
  ⟨YzE B [],st1,⟨z,[],_,hrun,rfl,YaK g1,k2,k7,pl2,k5,k6,fun i hi w hw=>hpk i hi w (k9 i (YCQ hi hkb) w (k10 i hi w hw))⟩,k1⟩ ?_)
 rintro m s1 ⟨x,sn,s,hrn,rfl,hfill,hvs⟩
 have hit:itV it s=some (B,sn,c,c,c):=by
  have:=hp x
  unfold itR at this
  rw[hfill]at this
  rw[hrn.p]at this
  trivial
 obtain⟨i,a,tg,e1,e2,e3⟩:=Yr9 hit
 obtain⟨oa,hoa⟩:=Yr8 e3
 obtain⟨hb,hkb,pl,he,hrl,hpk⟩:=hvs
 have hti:=he it
 rw[e1]at hti
 obtain⟨yi,f1,f2⟩:=YaF e2 hti
 obtain⟨e,f3,_,f4⟩:=YdX hrl e2 f2
 obtain⟨a0,r1,rfl,q0,f4⟩:=f4.inv
 obtain⟨a1,r2,rfl,q1,f4⟩:=f4.inv
 obtain⟨a2,r3,rfl,q2,f4⟩:=f4.inv
 obtain⟨a3,r4,rfl,q3,f4⟩:=f4.inv
 obtain⟨a4,r5,rfl,q4,f4⟩:=f4.inv
 have:r5=[]:=YCi.1 f4.1.symm
 subst this
 obtain⟨ya,rfl,f5⟩:=YaF hoa q0
 cases q1;cases q2
 obtain⟨bl,f6,f7⟩:=YdY q3
 obtain⟨O,el,at',f8,f9,hbo⟩:=Yr7 hrl e3 f5
 have hbl:=Yr4 f7
 refine Ybd (Yr2 (S:=a3) (tg:=a4) f1 f3 rfl f6 hbl f8 f9 hbo (fun hall=> ?_) (fun bn hbB hbn=> ?_))
 ·
  have hend:r x=some y:=by
   cases hrn with
   |fin _ _ h=>exact h
   |go f _ hb' _ _=>grind
  rw[<-hr]at hend
  unfold endR at hend
  rw[hfill]at hend
  simp only at hend
  show Sat C (YzK mo out bb).er _ ⟨(mo,.v (.bool false))::(nx,.u)::s1.env,s1.heap,s1.base⟩
  refine YaG hT hfr hend hl1 (b:=b) (q:=q) (st:=⟨(mo,.v (.bool false))::(nx,.u)::s1.env,s1.heap,s1.base⟩) ⟨hb,hkb,pl,Ybx (d:=some mo) (Ybx (d:=some nx) he (.u _)) (.b false),hrl,hpk⟩ (fun e s' st' g1 g2=> ?_)
  cases e with
  |nor=>trivial
  |ret=>trivial
  |exit id'=>
   simp only at g1
   obtain⟨g1,g3⟩:=Yaa g1
   show Ex.blk out _ (.exit id') st'
   have e0:(id'==out)=true:=by simp_all
   simp only[Ex.blk,e0]
   show Sat C rest.er _ st'
   exact YaG hT hfr g3 hl2 g2 (fun e2 s2 st2 g4 g5=>Yem g4 g5)
 ·
  cases hrn with
  |fin h _ _=>simp_all
  |go f _ _ htt hgg=>
   have h1:=htt bn hbB hbn
   rw[<-ht]at h1
   unfold YBu at h1
   rw[hfill]at h1
   have hsI:YBt it nx mo bn s=some ⟨(mo,.b true)::(nx,.u)::s.env,vset s.heap i (some (.st [.np a,.i .i64 c,.i .i64 c,.l I64 (addI sn bn),tg]))⟩:=by
    unfold YBt
    simp only[e1,e2]
    rfl
   simp only[hsI]at h1
   obtain⟨m1,m2⟩:=YbO (o':=.st [.np a,.i .i64 c,.i .i64 c,.l I64 (addI sn bn),tg]) hrl e2 f2 ⟨5,[[.np ya,.v (.int .i64 c),.v (.int .i64 c),.rd 1 (bl++[[.v (.int .i64 bn)]]),a4]]⟩ rfl rfl (fun _ _ _ _ _ e=>by cases e) (fun _ _ _ _ _ e=>by cases e)
    (fun hx=>⟨yi,_,f2,YCo (YB6.1 f3).1,by simp,CT.cons ((TR.np a ya _ hoa f5).ext hx) (CT.cons (.i _ _) (CT.cons (.i _ _) (CT.cons
     (show TR _ _ (.l I64 (addI sn bn)) (.rd 1 (bl++[[.v (.int .i64 bn)]]))from Ybt (c:=I64) (l:=addI sn bn) (Ybi (c:=I64) (l:=sn) (m:=[bn]) f7 ⟨rfl,fun j e v h1 h2=>by
      match j,h1,h2 with
      |0,h1,h2=>injection h1 with h1;subst h1;have hv:some bn=some v:=h2;injection hv with hv;subst hv;exact⟨rfl,fun j x x' h1 h2=>by
       match j,h1,h2 with
       |0,h1,h2=>simp[Cs.enc,I64,Ty.enc,fstP]at h1 h2;subst h1;subst h2;exact .refl _
       |j+1,h1,h2=>trivial⟩
      |j+1,h1,h2=>trivial⟩)) (CT.cons (q4.ext hx) CT.nil))))⟩)
   show Sat C (YzK mo out bb).er _ ⟨(mo,.v (.bool true))::(nx,.u)::s1.env,s1.heap.set yi (some ⟨5,[[.np ya,.v (.int .i64 c),.v (.int .i64 c),.rd 1 (bl++[[.v (.int .i64 bn)]]),a4]]⟩),s1.base⟩
   refine YaG hT hfr h1 hl1 (b:=b) (q:=q) (st:=⟨(mo,.v (.bool true))::(nx,.u)::s1.env,s1.heap.set yi (some ⟨5,[[.np ya,.v (.int .i64 c),.v (.int .i64 c),.rd 1 (bl++[[.v (.int .i64 bn)]]),a4]]⟩),s1.base⟩) ⟨hb,by rw[Yad];omega,pl,Ybx (d:=some mo) (Ybx (d:=some nx) (he.ext m2) (.u _)) (.b true),m1,hpk⟩ (fun e s' st' g1 g2=> ?_)
   cases e with
   |exit id'=>trivial
   |ret=>trivial
   |nor=>
    simp only at g1
    cases hkp:Yzu T.kb g.ts (ownV own s')with
    |mk vs X=>
     rw[hkp]at g1
     simp only at g1
     obtain⟨hb,hkb,pl,he,hr,hpk⟩:=g2
     obtain⟨st1,pl1,k1,k2,k3,k4,k8,k9⟩:=YaL (ws:=own) hb he hr
     obtain⟨pl2,k5,k6,k7,k10⟩:=YcY (env:=(ownV own s').env) (X:=(ownV own s').heap) k3 k4 (YCP hkb k8) hkp
     exact⟨YzE B (sn++[bn]),st1,⟨f bn,sn++[bn],_,hgg bn hbB hbn,rfl,YaK g1,k2,k7,pl2,k5,k6,fun i hi w hw=>hpk i hi w (k9 i (YCQ hi hkb) w (k10 i hi w hw))⟩,YkY hbB hbn,k1⟩
end
theorem Ysb{A0 A R:Type}{u:A0->Option A}{p:A->ItP}{t:A->Int->Option A}{r:A->Option R}{x:A0}{y:R}(h:YCV (u x) (rngF p t r)=some y): ∃z,u x=some z/\Good p t r z y:=by
 cases hz:u x with
 |none=>simp_all
 |some z=>rw[hz]at h;exact⟨z,rfl,Yr3 h⟩
def eqS(a b:ByteArray):Bool:=decide (a=b)
def eqI(a b:Int):Bool:=decide (a=b)
end Go.Abs
namespace Go.Abs
open Go Go.RowKit Go.Shelf Go.Proofs
structure BldOK(P:Program)(fm:FM)(ρ:Ren):Prop where
 X:Builder.Extra P ρ
 bt:fm.bt=ρ.t 72
theorem YgC{vals:Array Value}(h:vals.size=1):vals= #[vals.getD 0 undef]:=by
 apply Array.ext
 ·simp[h]
 simp_all
theorem Yk1{fm:FM}{w:World}{Lc:Nat->Loc}{h:HF}(hr:HR fm w Lc h){x:Nat}{b:AV}(hx:h x=some (some ⟨2,[[.np x,b]]⟩)){v:Value}(hv:VR fm w Lc v (.ptr x 0 0)):
  ∃g p s cur,v= .pointer (some ⟨g,0,none⟩)/\Lc x= .cells g 2 1/\w.heap[g]?=some (.cells cur fm.bt (0,0))/\cur.size=2/\cur[0]?=some p/\cur[1]?=some s/\ (p= .pointer none\/p= .pointer (some ⟨g,0,none⟩))/\s.oneCell'=true/\VR fm w Lc s b:=by
 obtain⟨g,es,cap,hL,e1,rfl⟩:=Ydy hr hx hv
 have hob:=hr.obj x _ hx
 rw[hL]at hob
 obtain⟨h0,h1,h2,h3,h4,cur,ty,h5,h6,h7⟩:=hob
 have hes:es=2:=h0
 subst hes
 have hc:1<=cap:=by trivial
 have hs0:0<cur.size:=by omega
 have hs1:1<cur.size:=by omega
 obtain⟨_,k1⟩:=h7 0 _ 0 _ rfl rfl
 obtain⟨k2,k3⟩:=h7 0 _ 1 _ rfl rfl
 obtain⟨g',hL',ht,hp⟩:=(Ydz hr hx k1).resolve_right (fun h=>h.elim (fun⟨g,e,_⟩=>by grind) (fun⟨g,e,_⟩=>by grind))
 rw[hL]at hL';injection hL' with e1 e2 e3;subst e1;subst e3
 obtain⟨c2,f2,ht⟩:=ht
 rw[h5]at ht;injection ht with ht;injection ht with _ ht _
 subst ht
 exact⟨g,_,_,cur,by simp,hL,h5,h6,YbF hs0,YbF hs1,hp,k2,k3⟩
theorem Ysj{P:Program}{fm:FM}{f:FuncId}{ρ:Ren}(L:Lays.n240 P ρ)(B:BldOK P fm ρ)(hf':ρ.f 240=f){w:World}{Lc:Nat->Loc}{h:HF}(hr:HR fm w Lc h){x:Nat}{b:AV}(hx:h x=some (some ⟨2,[[.np x,b]]⟩)){vals:Array Value}(hsz:vals.size=1)(hv:VR fm w Lc (vals.getD 0 undef) (.ptr x 0 0)):
  Calls P f vals w fun e w'=>e= .returned (.tuple #[])/\Keep Lc w w'/\HR fm w' Lc h:=by
 obtain⟨g,p,s,cur,e1,hL,hg,hcs,hp0,hs1,hp,hone,hvs⟩:=Yk1 hr hx hv
 rw[YgC hsz,e1]
 subst hf'
 have hc0:w.cell? ⟨g,0,none⟩=some p:=by rw[Lib.cell_of_heap hg];omega
 rcases hp with rfl|rfl
 ·have hsh:w.shape? g=some (ρ.t 72,2):=by
   unfold World.shape?;rw[hg];simp[hcs,B.bt]
  refine(Any.Builder_copyCheck_fresh L B.X.toX72 g w hc0 hsh (Lib.frozen_of_heap hg 0)).mono ?_
  rintro e w' ⟨rfl,rfl⟩
  rw[setCell_eq_setRow w g 0 cur _ _ _ hg]
  have hob:=hr.obj x _ hx
  rw[hL]at hob
  obtain⟨h0,h1,h2,h3,h4,cur',ty',h5,h6,h7⟩:=hob
  obtain⟨k1,k2⟩:=YbG (cur':=cur.setIfInBounds 0 (.pointer (some ⟨g,0,none⟩))) (el:=[[.np x,b]]) hr hx hL hg (by grind) (by simp) (by simp) (fun i e j c hi hj=>by
   match i,hi with
   |0,hi=>
    simp at hi;subst hi
    match j,hj with
    |0,hj=>
     simp at hj;subst hj
     have hlt:0<cur.size:=by omega
     simp only[Nat.zero_mul,Nat.add_zero]
     have:(cur.setIfInBounds 0 (.pointer (some ⟨g,0,none⟩))).getD 0 undef= .pointer (some ⟨g,0,none⟩):=by
      simp[Array.getD,hlt]
     rw[this]
     exact⟨rfl,.npAt g x _ hL ⟨cur,(0,0),hg⟩ (.inr rfl)⟩
    |1,hj=>
     simp at hj;subst hj
     simp
     have:(cur.setIfInBounds 0 (.pointer (some ⟨g,0,none⟩))).getD 1 undef=s:=by
      rw[YC8,Array.getElem?_setIfInBounds_ne (by decide),hs1];rfl
     grind
    |j+2,hj=>trivial
   |i+1,hi=>trivial)
  refine⟨rfl,k1,?_⟩
  have:(fun b'=>if b'=x then some (some (⟨2,[[.np x,b]]⟩:AObj))else h b')=h:=by
   grind
  grind
 ·refine(Any.Builder_copyCheck_used L B.X.toX72 g w hc0).mono ?_
  rintro e w' ⟨rfl,rfl⟩
  exact⟨rfl,Keep.refl _ _,hr⟩
def vchkE2(g:Nat):FnE:=⟨g,false,⟨[0],[.ptr 0 0 0],[.st [.np 0,.ref 1],.sb],.cons .s .nil⟩,.tp [],[.st [.np 0,.ref 1],.sb],.cons .s .nil,fun l=>some l⟩
theorem Ycp{g:Sg}{vs:List TV}{X:Yyu}{x:g.c.den}(h:g.read vs X=some x):vs.length=g.vs.length:=by
 unfold Sg.read at h
 split at h
 ·rename_i svs sos k1 k2
  obtain⟨e1,_⟩:=Yaa h
  simp at e1
  rw[<-Yc5 k1,SV.eqs_of e1.1]
 trivial
theorem Ysk{P:Program}{fm:FM}{f:FuncId}{ρ:Ren}(L:Lays.n240 P ρ)(B:BldOK P fm ρ)(hf':ρ.f 240=f){Xs:Yyu}{pls:Pl}{Kp:Nat->Prop}{H:Heap}{args:List AV}{b:TV}
  (hct:CT Xs pls [.ptr 0 0 0] args) (hrs:HRel Kp H Xs pls H) (hfr:FrOK Kp H) (h0:vget Xs 0=some (.st [.np 0,b])) (hren:renX Xs (List.range Xs.length)=Xs) (hX:wfX Xs Xs=true)
  {w:World} {Lc:Nat->Loc} {vals:Array Value} (hr:HR fm w Lc (hf H)) (hsz:vals.size=args.length) (hv: ∀j a,args[j]?=some a->VR fm w Lc (vals.getD j undef) a):
  Calls P f vals w fun e w'=> ∃v L',e= .returned v/\Keep Lc w w'/\LStep Lc L' w.heap.size/\HR fm w' L' (hf (YyW Kp H Xs.length Xs (plI pls Xs.length H.length Xs)))/\VR fm w' L' v (encT Xs (plI pls Xs.length H.length Xs) (.tp [])):=by
 obtain⟨a0,ra,rfl,ha0,hra⟩:=hct.inv
 have hra0:ra=[]:=YCi.1 hra.1.symm
 subst hra0
 obtain⟨x,rfl,hp,_⟩:=Ybr h0 ha0
 obtain⟨x',e,g1,g2,g3,g4⟩:=hrs.obj 0 _ h0
 rw[hp]at g1;injection g1 with g1;subst g1
 obtain⟨c0,e',rfl,q1,q2⟩:=g4.inv
 obtain⟨c1,e'',rfl,q3,q4⟩:=q2.inv
 have he'':e''=[]:=YCi.1 q4.1.symm
 subst he''
 obtain⟨y,rfl,hy⟩:=YaF h0 q1
 rw[hp]at hy;injection hy with hy;subst hy
 refine(Ysj L B hf' (h:=hf H) (x:=x) (b:=c1) hr g2 (by trivial) (hv 0 _ rfl)).mono ?_
 rintro e w' ⟨rfl,k1,k2⟩
 have hfin:=Yby (Xs:=Xs) (pls:=pls) (Xh:=Xs) (ph:=pls) (v:=.tp []) (a:=.tup []) (m:=List.range Xs.length) (s:=⟨[],H,H.length⟩) hrs hfr hrs rfl (YCL _) (fun i hi x hx=>hx) List.nodup_range (List.prefix_refl _) (.tp [] [] rfl (fun j c a h=>by simp)) (by rfl) (by simp_all)
 rw[hren]at hfin
 obtain⟨L2,f1,f2,f3⟩:=hfin fm w' Lc (.tuple #[]) k2 (.tup _ _ rfl (fun j a h=>by grind))
 refine⟨_,L2,rfl,k1,f1 Lc w.heap.size (fun b hb=> ?_) (LStep.refl _ _),f2,f3⟩
 apply Classical.byContradiction
 intro hlt
 exact hb ((hr.fresh b).2 (YCs (by simp_all)))
theorem Ysl{P:Program}{fm:FM}{f:FuncId}{g:Nat}{ρ:Ren}(L:Lays.n240 P ρ)(B:BldOK P fm ρ)(hf':ρ.f 240=f)(hcal:Yyw P f=true):FOK P fm f (vchkE2 g).RI:=by
 rintro args H r H' ⟨x,y,vs,Xs,pls,Kp,v,l,X2,h1,h2,h3,hct,hrs,hfr,hall,h5,h6,h7,h8,h9,h10,rfl,rfl⟩
 refine⟨hcal,fun w Lc vals hr hsz hv=> ?_⟩
 have hl:=Ycp h2
 have hfill:=YaK h2
 have key: ∀(x y:ByteArray),some x=some y->Sg.fill (vchkE2 g).args x=some ⟨zipE [0] vs,Xs⟩->vs.length=1->YyD (.tp []) (unp (.cons .s .nil) y)=some (v,l)->YyC [.st [.np 0,.ref 1],.sb] l=some (X2,[])->
   vs=[.ptr 0 0 0]/\Xs=[some (.st [.np 0,.ref 1]),some (.sb x)]/\v= .tp []/\X2=Xs:=by
  intro x y hF hfill hlen e5 e6
  injection hF with hF;subst hF
  have hu:unp (.cons .s .nil) x=[⟨.s,x⟩]:=rfl
  unfold Sg.fill at hfill
  simp only[vchkE2,hu,YyG,YyD,YyC,Yy9]at hfill
  injection hfill with hfill;injection hfill with hz hX
  match vs,hlen with
  | [v0],_=>
    simp only[zipE,List.cons.injEq,Prod.mk.injEq,and_true,true_and]at hz
    obtain⟨rfl,rfl⟩:=e5
    simp only[YyC,Yy9,YyG,YyD,Option.some.injEq,Prod.mk.injEq,and_true]at e6
    simp_all
 obtain⟨rfl,hXs,rfl,rfl⟩:=key x y h1 hfill hl h5 h6
 exact Ysk L B hf' hct hrs hfr (b:=.ref 1) (by rw[hXs];rfl) (by rw[hXs];rfl) h9 hr hsz hv
theorem Ysm{P:Program}{fm:FM}{T:Tabs}(hS:YyP P fm T){g:Nat}(hp:T.pf g=false)
  (hG: ∀f,fm f=g->Yyw P f=true/\ ∃ρ:Ren,Lays.n240 P ρ/\BldOK P fm ρ/\ρ.f 240=f):YyP P fm ⟨T.pf,vchkE2 g::T.fs,T.ls,0⟩:=by
 obtain⟨C,hC,hT⟩:=hS
 have hpC:C.pf g=true->Pure (vchkE2 g).RI:=fun h=>by rw[hT.p.pf,hp]at h;cases h
 exact⟨Yy3 C g (vchkE2 g).RI,Ya0 hC hpC (fun f hf=>by obtain⟨k1,ρ,k2,k3,k4⟩:=hG f hf;exact Ysl k2 k3 k4 k1),Ya1 (e:=vchkE2 g) hT (fun h=>by rw[show(vchkE2 g).g=g from rfl,hp]at h;cases h) (fun _ _ _ _ _ h=>h)⟩
end Go.Abs
namespace Go.Abs
open Go Go.RowKit Go.Shelf Go.Proofs
variable{P:Program}{ρ:Ren}
set_option maxHeartbeats 1000000 in
set_option maxRecDepth 100000 in
theorem Ysn(L:Lays.n169 P ρ)(X:Builder.Extra P ρ)(b:Nat)(l:List UInt8)(w:World){p:Value}{g cap:Nat}{cur:Array Value}(hbk:w.heap[b]?=some (.cells #[p,.slice (some ⟨g,0,none⟩) l.length cap] (ρ.t 72) (0,0)))
  (hg:w.heap[g]?=some (.cells cur (ρ.t 5) (0,0))) (hsz:l.length<=cur.size) (hnc:l.length<=cap) (hcm:cap<=maxLen) (hcells: ∀j x,l[j]?=some x->w.cell? ⟨g,j,none⟩=some (.int .u8 x.toNat)) (h0:l≠ []):
  Calls P (ρ.f 169) #[.pointer (some ⟨b,0,none⟩)] w fun e w'=>e= .returned (.string ⟨l.toArray⟩)/\w'.heap=(w.freeze ⟨g,0,none⟩ l.length).heap/\w'.os=w.os/\w'.tape=w.tape/\w'.output=w.output:=by
 have hl0:l.length≠0:=by simpa using h0
 have c1:w.drew.cell? ⟨b,1,none⟩=some (.slice (some ⟨g,0,none⟩) l.length cap):=by
  have:w.drew.heap[b]?=some (.cells #[p,.slice (some ⟨g,0,none⟩) l.length cap] (ρ.t 72) (0,0)):=hbk
  rw[Lib.cell_of_heap this];rfl
 have hSD:(Builtin.unsafeSliceData_ #[(ρ.t 37)] (ρ.t 127) #[.slice (some ⟨g,0,none⟩) l.length cap]).run P w.drew= .ok (.pointer (some ⟨g,0,none⟩)) w.drew:=
  Lib.run_unsafeSliceData_row _ _ _ _ _ _ (by omega)
 have hUS:(Builtin.unsafeString_ #[(ρ.t 127),(ρ.t 3)] (ρ.t 9) #[.pointer (some ⟨g,0,none⟩),.int .i64 l.length]).run P w.drew= .ok (.string ⟨l.toArray⟩) (w.drew.freeze ⟨g,0,none⟩ l.length):=by
  refine Lib.run_unsafeString_row w.drew (ρ.t 127) (ρ.t 3) (ρ.t 9) (ρ.t 5) L.t127 X.cellsByte g cur.size (by have hg':w.drew.heap[g]?=some (.cells cur (ρ.t 5) (0,0)):=hg;simp[World.shape?,hg']) l h0 (by omega) (by unfold maxLen at hcm;omega) ?_
  intro j x hx
  have:=hcells j x hx
  rw[Addr.add_lit,YCR];exact this
 have mixed:=L.mixed
 have t72:=L.t72;have a72:=L.a72;have z72:=L.z72;have v72:=L.v72;have u72:=run_underlying L.t72
 have t70:=L.t70;have a70:=L.a70;have z70:=L.z70;have v70:=L.v70;have u70:=run_underlying L.t70
 have t37:=L.t37;have a37:=L.a37;have z37:=L.z37;have v37:=L.v37;have u37:=run_underlying L.t37
 have t127:=L.t127;have a127:=L.a127;have z127:=L.z127;have v127:=L.v127;have u127:=run_underlying L.t127
 have t3:=L.t3;have a3:=L.a3;have z3:=L.z3;have v3:=L.v3;have u3:=run_underlying L.t3
 have t9:=L.t9;have a9:=L.a9;have z9:=L.z9;have v9:=L.v9;have u9:=run_underlying L.t9
 have t5:=X.t5;have a5:=X.a5;have z5:=X.z5;have v5:=X.v5;have u5:=run_underlying X.t5
 go_enter L.f169,Body.n169_ntmps ρ
 go_wp2
 go_region_o
 all_goals(go_wp2;go_ret;refine⟨rfl,?_⟩;unfold World.freeze;rw[if_neg hl0,if_neg hl0];exact⟨rfl,rfl,rfl,rfl⟩)
theorem Yso{fm:FM}{w w':World}{Lc:Nat->Loc}{h:HF}(hr:HR fm w Lc h){y g es cap:Nat}(hL:Lc y= .cells g es cap)(hk:Keep Lc w w')(ho: ∀b,b<w.heap.size->OwnC Lc b->b≠g->w'.heap[b]?=w.heap[b]?)(n:Nat):
  LStep Lc (fun b=>if b=y then .dead else Lc b) n/\HR fm w' (fun b=>if b=y then .dead else Lc b) (fun b=>if b=y then some none else h b):=by
 obtain⟨k1,k2⟩:=Ybm hr y n (fun g' e=>by simp_all)
 have ks:LStep Lc (fun b=>if b=y then .dead else Lc b) w.heap.size:=(Ybm hr y w.heap.size (fun g' e=>by simp_all)).1
 refine⟨k1,⟨fun b o hb=> ?_,k2.live,k2.fresh,k2.inj,fun b g' hb=> ?_,fun b o g' es' cap' h1 h2 h3=>hk.typ _ _ (k2.byt b o g' es' cap' h1 h2 h3),k2.mps,hr.tab.mono hk ks.ownc⟩⟩
 ·by_cases e:b=y
  ·simp_all
  ·simp[e]at hb
   simp only[e,if_false]
   have hob:=hr.obj b o hb
   revert hob
   cases hLb:Lc b with
   |fresh=>exact id
   |dead=>exact id
   |nil=>exact id
   |hid g=>exact id
   |cells g' es' cap'=>
    rintro⟨h0,h1,h2,h3,h4,cur',ty',h5,h6,h7⟩
    refine⟨h0,h1,h2,h3,h4,cur',ty',?_,h6,fun i e' j x hi hj=>⟨(h7 i e' j x hi hj).1,(h7 i e' j x hi hj).2.mono hk ks⟩⟩
    rw[ho g' (YDa.1 h5).1 (.inl ⟨b,es',cap',hLb⟩) (fun eg=>e (hr.inj b y g _ _ _ _ (by rw[hLb,eg]) hL))]
    exact h5
   |mp i g'=>
    intro hm
    obtain⟨_,hm1,hm2⟩:=hr.mpb hLb
    obtain⟨oy,hoy⟩:=hr.live y (.inl ⟨g,es,cap,hL⟩)
    have hob:=hr.obj y oy hoy
    rw[hL]at hob
    obtain⟨_,_,_,_,_,cur,ty,h5,_⟩:=hob
    exact Ya2 hm hk ks (fun ob h1=>by
     rw[ho g' (YDa.1 h1).1 (.inr ⟨b,i,hLb⟩) (fun eg=>by grind)]
     exact h1)
 ·have:=k2.hid b g' hb
  exact⟨YCQ this.1 hk.size,this.2⟩
theorem Ybz{Lc:Nat->Loc}{w w':World}(h:Below w.heap.size w w'):Keep Lc w w':=
 ⟨h.os,h.tape,h.output,h.size,fun b hb _=>h.block b hb,fun b t ht=>ht.of (h.block b ht.lt)⟩
theorem Ysp{Lc:Nat->Loc}{w w':World}{g n es cap y:Nat}(hL:Lc y= .cells g es cap)(hh:w'.heap=(w.freeze ⟨g,0,none⟩ n).heap)(h1:w'.os=w.os)(h2:w'.tape=w.tape)(h3:w'.output=w.output):
  Keep Lc w w'/\ ∀b,b≠g->w'.heap[b]?=w.heap[b]?:=by
 have hb: ∀b,b≠g->w'.heap[b]?=w.heap[b]?:=fun b hb=>by
  rw[hh];unfold World.freeze
  grind
 refine⟨⟨h1,h2,h3,?_,fun b _ ho=>hb b (fun e=>ho (e▸ .inl ⟨y,es,cap,hL⟩)),fun b t ht=> ?_⟩,hb⟩
 ·rw[hh];unfold World.freeze;grind
 ·by_cases e:b=g
  ·subst e
   obtain⟨c,f,ht⟩:=ht
   unfold TyAt
   rw[hh];unfold World.freeze
   grind
  ·exact ht.of (hb b e)
theorem Ysq{P:Program}{fm:FM}{f:FuncId}{ρ:Ren}(L:Lays.n169 P ρ)(B:BldOK P fm ρ)(hbu:fm.bu=ρ.t 5)(hf':ρ.f 169=f){w:World}{Lc:Nat->Loc}{h:HF}(hr:HR fm w Lc h){x y:Nat}{s:ByteArray}(hx:h x=some (some ⟨2,[[.np x,.ref y 0 (strA s).length]]⟩))(hy:h y=some (some ⟨0,strA s⟩))
  {vals:Array Value} (hsz:vals.size=1) (hv:VR fm w Lc (vals.getD 0 undef) (.ptr x 0 0)):
  Calls P f vals w fun e w'=>e= .returned (.string s)/\Keep Lc w w'/\LStep Lc (fun b=>if b=y then .dead else Lc b) w.heap.size/\HR fm w' (fun b=>if b=y then .dead else Lc b) (fun b=>if b=y then some none else h b):=by
 obtain⟨g0,p,sl,cur,e1,hL0,hg0,hcs,hp0,hs1,hp,hone,hvs⟩:=Yk1 hr hx hv
 rw[YgC hsz,e1]
 subst hf'
 have hcur:cur= #[p,sl]:=by
  grind
 subst hcur
 rw[B.bt]at hg0
 have hemp:s.size=0->s=⟨#[]⟩:=fun h0=>by
  cases s with|mk d=>have:d= #[]:=Array.eq_empty_of_size_eq_zero h0
                     grind
 have hob:=hr.obj y _ hy
 have hnh: ∀g,Lc y≠ .hid g:=fun g e=>by rw[e]at hob;exact hob
 have below: ∀{w':World},Below w.heap.size w w'->Keep Lc w w'/\LStep Lc (fun b=>if b=y then .dead else Lc b) w.heap.size/\HR fm w' (fun b=>if b=y then .dead else Lc b) (fun b=>if b=y then some none else h b):=fun hb=>by
  obtain⟨k1,k2⟩:=Ybm (hr.mono (Ybz hb) (fun b hb' _=>hb.block b hb')) y w.heap.size hnh
  exact⟨Ybz hb,k1,k2⟩
 rcases YaN hr hy hvs with⟨g,es,cap,hL,e2,e3,rfl⟩| ⟨A,b,hL,hA,_,e3,rfl⟩
 ·have e2:es=1:=e2
  subst e2
  have hty:=hr.byt y _ g 1 cap hy rfl hL
  rw[hL]at hob
  obtain⟨_,_,h2,h3,h4,cur',ty,h5,h6,h7⟩:=hob
  obtain⟨c',f',hty⟩:=hty
  rw[h5]at hty;injection hty with hty;injection hty with _ hty _
  rw[hbu]at hty
  subst hty
  simp only[Nat.zero_mul,Nat.sub_zero,strA_len']at hg0 h2 e3
  by_cases h0:s.size=0
  ·rw[h0]at hg0
   rw[hemp h0]
   by_cases hc0:cap=0
   ·subst hc0
    refine(Any.Builder_String_noroom L B.X w.heap.size g0 g p cur' w (YCL _) hg0 h5).mono ?_
    grind
   ·refine(Any.Builder_String_room L B.X w.heap.size g0 g cap p w hc0 hg0).mono ?_
    grind
  ·have hl:s.toList.length=s.size:=by rw[Ya7];rfl
   have hs:(⟨s.toList.toArray⟩:ByteArray)=s:=by rw[Ya7]
   rw[<-hl]at hg0
   refine(Ysn L B.X g0 s.toList w (p:=p) (g:=g) (cap:=cap) (cur:=cur') hg0 h5 (by omega) (by omega) h3 (fun j x hj=> ?_) (fun e=>h0 (by simp_all))).mono ?_
   ·have hj':(strA s)[j]?=some [.v (.int .u8 x.toNat)]:=by unfold strA;simp_all
    obtain⟨_,k1⟩:=h7 j _ 0 _ hj' rfl
    rw[Lib.cell_of_heap h5]
    have hlt:j<cur'.size:=by grind
    have:=Yaf k1
    simp at this
    simp_all
   ·rintro e w' ⟨rfl,q1,q2,q3,q4⟩
    obtain⟨k1,k2⟩:=Ysp hL q1 q2 q3 q4
    obtain⟨k3,k4⟩:=Yso hr hL k1 (fun b _ _ hb=>k2 b hb) w.heap.size
    simp_all
 ·rw[hL]at hob
  have hel:strA s=[]:=hob.1
  have h0:s.size=0:=by rw[<-strA_len',hel];rfl
  rw[hA (hob.2 rfl)]at hg0
  rw[hemp h0]
  refine(Any.Builder_String_nil L B.X w.heap.size g0 p w hg0).mono ?_
  grind
def vstrE(g:Nat):FnE:=⟨g,false,⟨[0],[.ptr 0 0 0],[.st [.np 0,.ref 1],.sb],.cons .s .nil⟩,.s,[.st [.np 0,.u],.dd],.cons .s .nil,fun s=>some s⟩
theorem Ysr{P:Program}{fm:FM}{f:FuncId}{ρ:Ren}(L:Lays.n169 P ρ)(B:BldOK P fm ρ)(hbu:fm.bu=ρ.t 5)(hf':ρ.f 169=f){s:ByteArray}{pls:Pl}{Kp:Nat->Prop}{H:Heap}{args:List AV}
  (hct:CT [some (.st [.np 0,.ref 1]),some (.sb s)] pls [.ptr 0 0 0] args) (hrs:HRel Kp H [some (.st [.np 0,.ref 1]),some (.sb s)] pls H) (hfr:FrOK Kp H)
  {w:World} {Lc:Nat->Loc} {vals:Array Value} (hr:HR fm w Lc (hf H)) (hsz:vals.size=args.length) (hv: ∀j a,args[j]?=some a->VR fm w Lc (vals.getD j undef) a):
  Calls P f vals w fun e w'=> ∃v L',e= .returned v/\Keep Lc w w'/\LStep Lc L' w.heap.size/\HR fm w' L' (hf (YyW Kp H 2 [some (.st [.np 0,.u]),none] (plI pls 2 H.length [some (.st [.np 0,.u]),none])))/\VR fm w' L' v (encT [some (.st [.np 0,.u]),none] (plI pls 2 H.length [some (.st [.np 0,.u]),none]) (.s s)):=by
 obtain⟨a0,ra,rfl,ha0,hra⟩:=hct.inv
 have hra0:ra=[]:=YCi.1 hra.1.symm
 subst hra0
 obtain⟨x,rfl,hp,_⟩:=Ybr (o:=.st [.np 0,.ref 1]) rfl ha0
 obtain⟨x',e,g1,g2,g3,g4⟩:=hrs.obj 0 (.st [.np 0,.ref 1]) rfl
 rw[hp]at g1;injection g1 with g1;subst g1
 obtain⟨c0,e',rfl,q1,q2⟩:=g4.inv
 obtain⟨c1,e'',rfl,q3,q4⟩:=q2.inv
 have he'':e''=[]:=YCi.1 q4.1.symm
 subst he''
 obtain⟨y',rfl,hy'⟩:=YaF (o:=.st [.np 0,.ref 1]) rfl q1
 rw[hp]at hy';injection hy' with hy';subst hy'
 obtain⟨y,hpy,hy,rfl⟩:=YdW hrs (a:=1) (b:=s) rfl q3
 refine(Ysq L B hbu hf' (h:=hf H) (x:=x) (y:=y) (s:=s) hr g2 hy (by trivial) (hv 0 _ rfl)).mono ?_
 rintro e w' ⟨rfl,k1,k2,k3⟩
 obtain⟨m1,m2⟩:=YbN hrs (a:=1) (o:=.sb s) rfl hpy
 have hne:x≠y:=fun e=>by
  simp_all
 have hpx:plK pls 1 (.m 0)=some x:=by trivial
 have hHx:(H.set y none)[x]?=some (some ⟨2,[[.np x,.ref y 0 (strA s).length]]⟩):=by
  grind
 obtain⟨n1,n2⟩:=YbO m1 (a:=0) (x:=x) (o:=.st [.np 0,.ref 1]) (o':=.st [.np 0,.u]) rfl hpx ⟨2,[[.np x,.ref y 0 (strA s).length]]⟩ rfl rfl (fun _ _ _ _ _ e=>by cases e) (fun _ _ _ _ _ e=>by cases e)
  (fun hx=>⟨x,[.np x,.ref y 0 (strA s).length],hpx,YCo (YB6.1 hHx).1,by decide,.cons (.np 0 x (.st [.np 0,.u]) rfl hpx) (.cons (.u _) .nil)⟩)
 have hset:(H.set y none).set x (some ⟨2,[[.np x,.ref y 0 (strA s).length]]⟩)=H.set y none:=by
  apply YCE
  grind
 rw[hset]at n1
 have hh:(fun b=>if b=y then some none else hf H b)=hf (H.set y none):=by
  funext b
  simp only[hf]
  grind
 rw[hh]at k3
 have hfin:=Yby (Xs:=[some (.st [.np 0,.ref 1]),some (.sb s)]) (pls:=pls) (Xh:=[some (.st [.np 0,.u]),none]) (ph:=plK pls 1) (v:=.s s) (a:=.v (.string s)) (m:=List.range 2) (s:=⟨[],H.set y none,H.length⟩) hrs hfr n1 rfl (YCL _) (fun i hi x hx=>by
   unfold plK at hx
   simp_all) List.nodup_range (List.prefix_refl _) (.s s) rfl rfl
 obtain⟨L2,f1,f2,f3⟩:=hfin fm w' _ (.string s) k3 (.v _)
 exact⟨_,L2,rfl,k1,f1 Lc w.heap.size (fun b hb=>by
  apply Classical.byContradiction
  intro hlt
  exact hb ((hr.fresh b).2 (YCs (by simp_all)))) k2,f2,f3⟩
theorem Yss{P:Program}{fm:FM}{f:FuncId}{g:Nat}{ρ:Ren}(L:Lays.n169 P ρ)(B:BldOK P fm ρ)(hbu:fm.bu=ρ.t 5)(hf':ρ.f 169=f)(hcal:Yyw P f=true):FOK P fm f (vstrE g).RI:=by
 rintro args H r H' ⟨x,y,vs,Xs,pls,Kp,v,l,X2,h1,h2,h3,hct,hrs,hfr,hall,h5,h6,h7,h8,h9,h10,rfl,rfl⟩
 refine⟨hcal,fun w Lc vals hr hsz hv=> ?_⟩
 have hl:=Ycp h2
 have hfill:=YaK h2
 have key: ∀(x y:ByteArray),some x=some y->Sg.fill (vstrE g).args x=some ⟨zipE [0] vs,Xs⟩->vs.length=1->YyD .s (unp (.cons .s .nil) y)=some (v,l)->YyC [.st [.np 0,.u],.dd] l=some (X2,[])->
   vs=[.ptr 0 0 0]/\Xs=[some (.st [.np 0,.ref 1]),some (.sb x)]/\v= .s x/\X2=[some (.st [.np 0,.u]),none]:=by
  intro x y hF hfill hlen e5 e6
  injection hF with hF;subst hF
  have hu:unp (.cons .s .nil) x=[⟨.s,x⟩]:=rfl
  unfold Sg.fill at hfill
  simp only[vstrE,hu,YyG,YyD,YyC,Yy9]at hfill
  injection hfill with hfill;injection hfill with hz hX
  match vs,hlen with
  | [v0],_=>
    simp only[zipE,List.cons.injEq,Prod.mk.injEq,and_true,true_and]at hz
    simp only[hu,YyD,Option.some.injEq,Prod.mk.injEq]at e5
    obtain⟨rfl,rfl⟩:=e5
    simp only[YyC,Yy9,YyG,YyD,Option.some.injEq,Prod.mk.injEq,and_true]at e6
    simp_all
 obtain⟨rfl,rfl,rfl,rfl⟩:=key x y h1 hfill hl h5 h6
 exact Ysr L B hbu hf' hct hrs hfr hr hsz hv
theorem Yst{P:Program}{fm:FM}{T:Tabs}(hS:YyP P fm T){g:Nat}(hp:T.pf g=false)
  (hG: ∀f,fm f=g->Yyw P f=true/\ ∃ρ:Ren,Lays.n169 P ρ/\BldOK P fm ρ/\fm.bu=ρ.t 5/\ρ.f 169=f):YyP P fm ⟨T.pf,vstrE g::T.fs,T.ls,0⟩:=by
 obtain⟨C,hC,hT⟩:=hS
 have hpC:C.pf g=true->Pure (vstrE g).RI:=fun h=>by rw[hT.p.pf,hp]at h;cases h
 exact⟨Yy3 C g (vstrE g).RI,Ya0 hC hpC (fun f hf=>by obtain⟨k1,ρ,k2,k3,k4,k5⟩:=hG f hf;exact Yss k2 k3 k4 k5 k1),Ya1 (e:=vstrE g) hT (fun h=>by rw[show(vstrE g).g=g from rfl,hp]at h;cases h) (fun _ _ _ _ _ h=>h)⟩
end Go.Abs
namespace Go.Abs
open Go Go.RowKit Go.ChangeShapes Go.WideShapes Go.ChangeAt
section
variable{H:Type}{enc:TypeId×Value->H}{P:Program}{fm:FM}{T:Tabs}
theorem Ysu{W:World}{base:Nat}{t:TypeId}{fs:Array Field}(ht:P.underlying t=some (.struct fs)){v:Value}(hv:Value.okWide P W .any base t v){b:Nat}{sp:Nat->Bool}{held:Bool}{d:DataW H}{ps:List MemPlace}
  (hd:DataW.Trod enc P W b sp held t v d ps) {bulk:DataW H->Nat} {es:Nat} {X:Type} {e:X->List TV} {sz:X->Nat} {ok:X->Prop} (hR:Reads enc P W b sp held fm bulk t es (fun x=>avTs (e x)) sz ok):
  ∃x,ok x/\sz x<=bulk d/\VR fm W Yy2 v (avT (.ag (e x))):=by
 simp only[Value.okWide,ht]at hv
 obtain⟨cs,rfl,_,_⟩:=hv
 obtain⟨fuel,hd⟩:=hd
 obtain⟨x,h1,h2,h3,h4,h5⟩:=hR fuel _ d ps hd
 have h2':cs.size=es:=by trivial
 have key: ∀j a,(avTs (e x))[j]?=some a->(cs.getD j undef).oneCell'=true/\VR fm W Yy2 (cs.getD j undef) a:=by
  intro j a hj
  have hlt:j<cs.size:=by grind
  have:=h5 j cs[j] a (by simp[Value.cells,hlt]) hj
  rw[YC8]
  grind
 refine⟨x,h1,h4,?_⟩
 exact .agg cs _ (by simp_all) (fun j a hj=>(key j a hj).1) (fun j a hj=>(key j a hj).2)
theorem Ysv{W:World}{base:Nat}{t:TypeId}(hns: ∀fs,P.underlying t≠some (.struct fs))(hna: ∀n u,P.underlying t≠some (.array n u)){v:Value}(hv:Value.okWide P W .any base t v)(hag: ∀cs,¬Cell.okWide P W .any base t (.agg cs)){b:Nat}{sp:Nat->Bool}{held:Bool}{d:DataW H}{ps:List MemPlace}
  (hd:DataW.Trod enc P W b sp held t v d ps) {bulk:DataW H->Nat} {X:Type} {e:X->List TV} {sz:X->Nat} {ok:X->Prop} {p:X->TV} (hp: ∀x,e x=[p x]) (hR:Reads enc P W b sp held fm bulk t 1 (fun x=>avTs (e x)) sz ok):
  ∃x,ok x/\sz x<=bulk d/\VR fm W Yy2 v (avT (p x)):=by
 have hv2:Cell.okWide P W .any base t v:=by
  unfold Value.okWide at hv
  simp_all
 have hc:v.cells= #[v]:=by
  cases v with
  |agg cs=>simp_all
  |_=>rfl
 obtain⟨fuel,hd⟩:=hd
 obtain⟨x,h1,h2,h3,h4,h5⟩:=hR fuel _ d ps hd
 refine⟨x,h1,h4,?_⟩
 have:=h5 0 v (avT (p x)) (by grind) (by simp[hp x,avTs])
 simp_all
theorem Yk2(hl:laidOutB P=true){W W':World}(hb:Below W.heap.size W W'): ∀{ts:List TypeId} {vs:List Value} {ds:List (DataW H)} {ps:List MemPlace},
  DataW.TrodAll enc P W 0 (fun _=>true) true ts vs ds ps->(∀t∈ts,P.readableRec t=true/\t<P.types.size)->(∀x∈ps,x.block<W.heap.size)->
  DataW.TrodAll enc P W' 0 (fun b=>decide (b<W.heap.size)) true ts vs ds ps
 | [],[],[],ps,h,_,_=>h
 |t::ts,v::vs,d::ds,ps,h,hr,hlt=>by
  obtain⟨p,q,h1,h2,rfl⟩:=h
  have ht:=hr t (YCl ..)
  exact⟨p,q,Below.trod hl ht.1 ht.2 h1 hb (fun x hx=>hlt x (List.mem_append_left _ hx)),
   Yk2 hl hb h2 (fun u hu=>hr u (YCx _ hu)) (fun x hx=>hlt x (List.mem_append_right _ hx)),rfl⟩
 | [],_::_,_,_,h,_,_=>h.elim
 | [],[],_::_,_,h,_,_=>h.elim
 |_::_,[],_,_,h,_,_=>h.elim
 |_::_,_::_,[],_,h,_,_=>h.elim
theorem Ysw(hl:laidOutB P=true){f:Func}{s:ChangeSpec}{tb:TypeId}(hres:f.resultTypes= #[tb])(htb:P.underlying tb=some .bool)(hr: ∀t∈f.params.toList,P.readableRec t=true/\t<P.types.size)(hvars:s.vars=[])
  {W W':World} {args:Array Value} {ds gs:List (DataW H)} {before:List MemPlace} (hW:DataW.Whole enc P f.params.toList s.vars false W args.toList ds gs before) (hfn:(s.fn H (ds++gs))={results:=[.lit (.bool true)],args:=ds}) (hb:Below W.heap.size W W'):
  s.post enc P f false true false false W args (.bool true) W':=by
 have hlt:=hW.lt
 have hW':=hW
 obtain⟨p,q,hA,hV,rfl,hfz,hnd⟩:=hW
 rw[hvars]at hV
 obtain⟨rfl,rfl⟩:=trodVars_none hV
 refine⟨ds,[],p++[],[],p,[],hW',?_,?_,?_,hb.frame _,fun h=>by cases h⟩
 ·rw[hfn,hres]
  exact trodAll_cons_mk (shut_bool htb _) trodAll_mk0
 ·rw[hfn]
  exact Yk2 hl hb hA hr (fun x hx=>hlt x (List.mem_append_left _ hx))
 ·rw[hfn,hvars];rfl
theorem Ysx{w w':World}(h:Keep Yy2 w w'):Below w.heap.size w w':=
 ⟨h.os,h.tape,h.output,h.size,fun k hk=>h.blk k hk (YfZ k)⟩
theorem Ysy(hS:YyP P fm T){e:FnE}(he:e∈T.fs)(hp:T.pf e.g=true){f:FuncId}(hf:fm f=e.g){vs:List TV}(hdt:YyN vs=true){x:e.args.c.den}{y:e.co.den}(hread:e.args.read vs []=some x)(hF:e.F x=some y)(hfill:YyD e.res (unp e.co y)=some (.b true,[]))
  {W:World} {args:Array Value} (hsz:args.size=vs.length) (hv: ∀j a,(avTs vs)[j]?=some a->VR fm W Yy2 (args.getD j undef) a) (htb:TabW fm W):
  Calls P f args W fun e W'=>e= .returned (.bool true)/\Below W.heap.size W W':=by
 refine(YrW hS he hp hf (args:=avTs vs) (r:=avT (.b true)) ⟨x,y,vs,.b true,hF,hread,hdt,rfl,hfill,rfl,rfl⟩ (by simpa[YbU]using hsz) hv htb).mono ?_
 rintro ex w' ⟨v,rfl,hk,L',hvr⟩
 have:=Yaf (show VR fm w' L' v (.v (.bool true))from hvr)
 rw[this]
 exact⟨rfl,Ysx hk⟩
end
end Go.Abs
namespace Go.Abs
open Go Go.RowKit Go.ChangeShapes Go.WideShapes Go.ChangeAt
mutual
def Ty.sz:(t:Ty)->t.den->Nat
 | .i _,_=>1
 | .b,_=>1
 | .s,x=>ByteArray.size x+1
 | .l c,v=>(List.map c.sz v).sum+1
def Cs.sz:(c:Cs)->c.den->Nat
 | .nil,_=>0
 | .cons t r,x=>t.sz (fstP r x)+r.sz (sndP r x)
end
mutual
def Ty.rng:(t:Ty)->t.den->Prop
 | .i k,n=>(Lit.int k n).wf=true
 | .b,_=>True
 | .s,_=>True
 | .l c,v=> ∀x∈ (show List c.den from v),c.rng x
def Cs.rng:(c:Cs)->c.den->Prop
 | .nil,_=>True
 | .cons t r,x=>t.rng (fstP r x)/\r.rng (sndP r x)
end
def Cs.tk:Nat->Cs->Cs
 |0,_=>.nil
 |_+1,.nil=>.nil
 |n+1,.cons t r=>.cons t (Cs.tk n r)
def Cs.dp:Nat->Cs->Cs
 |0,c=>c
 |_+1,.nil=>.nil
 |n+1,.cons _ r=>Cs.dp n r
def Cs.jn:(n:Nat)->(c:Cs)->(Cs.tk n c).den->(Cs.dp n c).den->c.den
 |0,_,_,y=>y
 |_+1,.nil,_,_=>()
 |n+1,.cons t r,x,y=>mkP r (fstP (Cs.tk n r) x) (Cs.jn n r (sndP (Cs.tk n r) x) y)
theorem Yk3: ∀(n:Nat) (c:Cs),n<=c.width->(Cs.tk n c).width=n
 |0,_,_=>rfl
 |n+1,.nil,h=>by trivial
 |n+1,.cons t r,h=>by simp only[Cs.width]at h;simp only[Cs.tk,Cs.width,Yk3 n r (by omega)]
theorem Yk4: ∀(n:Nat) (c:Cs),n<=c.width->(Cs.dp n c).width+n=c.width
 |0,_,_=>rfl
 |n+1,.nil,h=>by trivial
 |n+1,.cons t r,h=>by simp only[Cs.width]at h;have:=Yk4 n r (by omega);simp only[Cs.dp,Cs.width];omega
theorem Yk5: ∀(n:Nat) (c:Cs) (x:(Cs.tk n c).den) (y:(Cs.dp n c).den),c.enc (Cs.jn n c x y)=(Cs.tk n c).enc x++(Cs.dp n c).enc y
 |0,_,_,y=>rfl
 |n+1,.nil,_,_=>rfl
 |n+1,.cons t r,x,y=>by simp only[Cs.jn,Cs.enc,Ybe,YaX,Cs.tk,Cs.dp,YCB];exact congrArg _ (Yk5 n r _ _)
theorem YgD: ∀(n:Nat) (c:Cs) (x:(Cs.tk n c).den) (y:(Cs.dp n c).den),c.sz (Cs.jn n c x y)=(Cs.tk n c).sz x+(Cs.dp n c).sz y
 |0,_,_,y=>by simp only[Cs.jn,Cs.tk,Cs.dp,Cs.sz,YCR]
 |n+1,.nil,_,_=>by rfl
 |n+1,.cons t r,x,y=>by simp only[Cs.jn,Cs.sz,Ybe,YaX,Cs.tk,Cs.dp,Nat.add_assoc];exact congrArg _ (YgD n r _ _)
theorem YgE: ∀(n:Nat) (c:Cs) (x:(Cs.tk n c).den) (y:(Cs.dp n c).den),(Cs.tk n c).rng x->(Cs.dp n c).rng y->c.rng (Cs.jn n c x y)
 |0,_,_,y,_,h=>h
 |n+1,.nil,_,_,_,_=>trivial
 |n+1,.cons t r,x,y,h,h2=>by
  simp only[Cs.jn,Cs.rng,Ybe,YaX]
  exact⟨h.1,YgE n r _ _ h.2 h2⟩
theorem Yk6: ∀(n:Nat) (c:Cs) (x:(Cs.tk n c).den) (y:(Cs.dp n c).den),unp c (Cs.jn n c x y)=unp (Cs.tk n c) x++unp (Cs.dp n c) y
 |0,_,_,y=>rfl
 |n+1,.nil,_,_=>rfl
 |n+1,.cons t r,x,y=>by simp only[Cs.jn,unp,Ybe,YaX,Cs.tk,Cs.dp,YCB];exact congrArg _ (Yk6 n r _ _)
def okT(P:Program):Nat->TypeId->Cs->Bool
 |0,_,_=>false
 |f+1,t,c=>match P.underlying t with
  |some (.int k)=>c.eqb (.cons (.i k) .nil)
  |some .bool=>c.eqb (.cons .b .nil)
  |some .string=>c.eqb (.cons .s .nil)
  |some (.slice u)=>match c with
   | .cons (.l c') .nil=>YCK 0 c'.width&&YCJ (P.cellsOf u) c'.width&&okT P f u c'
   |_=>false
  |some (.struct fs)=>YCJ (P.cellsOf t) c.width&&okF (fun g c=>okT P f g c) fs.toList 0 c
  |_=>false
where
 okF (k:TypeId->Cs->Bool):List Field->Nat->Cs->Bool
 | [],_,.nil=>true
 | [],_,_=>false
 |g::r,o,c=>YCJ g.offset o&&YCN (P.cellsOf g.type) c.width&&k g.type (Cs.tk (P.cellsOf g.type) c)&&okF k r (o+P.cellsOf g.type) (Cs.dp (P.cellsOf g.type) c)
section
variable{H:Type}{enc:TypeId×Value->H}{P:Program}{w:World}{base:Nat}{spare:Nat->Bool}{held:Bool}{fm:FM}{bulk:DataW H->Nat}{all:List (DataW H)->Nat}
theorem Yk7(hb:BulkOK bulk all){k:TypeId->Cs->Bool}(hk: ∀t c,k t c=true->Reads enc P w base spare held fm bulk t c.width c.enc c.sz c.rng):
  ∀(fs:List Field) (o:Nat) (c:Cs),okT.okF P k fs o c=true->YzZ enc P w base spare held fm all fs o c.width c.enc c.sz c.rng
 | [],o,.nil,_=>Yqa o
 | [],o,.cons _ _,h=>by trivial
 |g::r,o,c,h=>by
  simp only[okT.okF,YC3]at h
  obtain⟨⟨⟨h1,h2⟩,h3⟩,h4⟩:=h
  have h1:=YCM h1
  have h2:=YCU h2
  have wt:=Yk3 _ _ h2
  have wd:=Yk4 _ _ h2
  have r1:=hk _ _ h3
  rw[wt]at r1
  have r2:=Yk7 hb hk r _ _ h4
  have:=Yqb hb h1 rfl r1 r2
  intro fuel cs xs hm hle
  obtain⟨⟨x,y⟩,k1,k2,k3,k4⟩:=this fuel cs xs hm (by omega)
  refine⟨Cs.jn _ c x y,YgE _ _ _ _ k1.1 k1.2,?_,?_,?_⟩
  ·exact Yav _ _
  ·rw[YgD];exact k3
  ·rw[Yk5];exact k4
theorem Yeq(hb:BulkOK bulk all): ∀(f:Nat) (t:TypeId) (c:Cs),okT P f t c=true->Reads enc P w base spare held fm bulk t c.width c.enc c.sz c.rng
 |0,_,_,h=>by trivial
 |f+1,t,c,h=>by
  unfold okT at h
  split at h
  ·rename_i k hu
   have e:=Cs.eq_of h;subst e
   refine(Yp7 hb hu).conv ?_
   intro n hn
   exact⟨n,⟨hn,trivial⟩,rfl,YCL _⟩
  ·rename_i hu
   have e:=Cs.eq_of h;subst e
   refine(Yp8 hb hu).conv ?_
   intro n hn
   exact⟨n,⟨hn,trivial⟩,rfl,YCL _⟩
  ·rename_i hu
   have e:=Cs.eq_of h;subst e
   refine(Yp9 hb hu).conv ?_
   intro n hn
   exact⟨n,⟨hn,trivial⟩,rfl,YCL _⟩
  ·rename_i u hu
   split at h
   ·rename_i c'
    simp only[YC3]at h
    obtain⟨⟨h1,h2⟩,h3⟩:=h
    have h1:0<c'.width:=YCU h1
    have h2:=YCM h2
    refine(Yqg hb hu h2 h1 (Yeq hb f u c' h3)).conv ?_
    intro l hl
    exact⟨l,⟨hl,trivial⟩,rfl,YCL _⟩
   trivial
  ·rename_i fs hu
   simp only[YC3]at h
   have h1:=YCM h.1
   exact Yqc hb hu h1 (Yk7 hb (fun t c=>Yeq hb f t c) _ _ _ h.2)
  trivial
def Ty.sv:Ty->SV
 | .i k=>.i k
 | .b=>.b
 | .s=>.s
 | .l c=>.l c
def Cs.svs:Cs->List SV
 | .nil=>[]
 | .cons t r=>t.sv::r.svs
def Cs.tvs:(c:Cs)->c.den->List TV
 | .nil,_=>[]
 | .cons t r,x=>tvOf t (fstP r x)::r.tvs (sndP r x)
theorem Yk8(t:Ty)(v:t.den):(tvOf t v).sh=some t.sv:=by cases t<;>rfl
theorem Yk9(t:Ty)(v:t.den):(tvOf t v).lv=[⟨t,v⟩]:=by cases t<;>rfl
theorem Yla(t:Ty)(v:t.den):avT (tvOf t v)=t.enc v:=by cases t<;>rfl
theorem Ylb(t:Ty)(v:t.den):Yzv (tvOf t v)=true:=by cases t<;>rfl
theorem Ylc: ∀(c:Cs) (x:c.den),TV.shs (c.tvs x)=some c.svs
 | .nil,_=>rfl
 | .cons t r,x=>by simp only[Cs.tvs,TV.shs,Yk8,Ylc r,Cs.svs]
theorem Yld: ∀(c:Cs) (x:c.den),TV.lvs (c.tvs x)=unp c x
 | .nil,_=>rfl
 | .cons t r,x=>by simp only[Cs.tvs,TV.lvs,Yk9,Yld r,unp,YCB,YCF]
theorem Yle: ∀(c:Cs) (x:c.den),avTs (c.tvs x)=c.enc x
 | .nil,_=>rfl
 | .cons t r,x=>by simp only[Cs.tvs,avTs,Yla,Yle r,Cs.enc]
theorem Ylf: ∀(c:Cs) (x:c.den),YyN (c.tvs x)=true
 | .nil,_=>rfl
 | .cons t r,x=>by simp only[Cs.tvs,YyN,Ylb,Ylf r,YC6]
mutual
theorem SV.eqb_refl: ∀a:SV,a.eqb a=true
 | .i z=>by simp[SV.eqb]
 | .b=>rfl
 | .s=>rfl
 | .u=>rfl
 | .nl=>rfl
 | .l z=>by simp[SV.eqb,Cs.eqb_refl z]
 | .e z=>by simp[SV.eqb,Cs.eqb_refl z]
 | .ref z=>by simp[SV.eqb]
 | .pre z=>by simp[SV.eqb]
 | .np z=>by simp[SV.eqb]
 | .ptr z x y=>by simp[SV.eqb]
 | .ag z=>by simp[SV.eqb,SV.eqbs_refl z]
 | .tp z=>by simp[SV.eqb,SV.eqbs_refl z]
 | .clo g z=>by simp[SV.eqb,SV.eqbs_refl z]
theorem SV.eqbs_refl: ∀a:List SV,SV.eqbs a a=true
 | []=>rfl
 |a::r=>by simp[SV.eqbs,SV.eqb_refl a,SV.eqbs_refl r]
end
def argT(P:Program)(t:TypeId)(sv:SV)(c:Cs):Bool:=match P.underlying t with
 |some (.struct _)=>sv.eqb (.ag c.svs)&&okT P 20 t c
 |some (.array _ _)=>false
 |_=>match c with
  | .cons u .nil=>sv.eqb u.sv&&okT P 20 t c
  |_=>false
def YA0(P:Program):List TypeId->List SV->Cs->Bool
 | [],[],.nil=>true
 |t::ts,v::vs,c=>YCN (P.cellsOf t) c.width&&argT P t v (Cs.tk (P.cellsOf t) c)&&YA0 P ts vs (Cs.dp (P.cellsOf t) c)
 |_,_,_=>false
theorem Ysz(hb:BulkOK bulk all){W:World}{t:TypeId}{sv:SV}{c:Cs}(h:argT P t sv c=true){v:Value}(hv:Value.okWide P W .any base t v){b:Nat}{sp:Nat->Bool}{held:Bool}{d:DataW H}{ps:List MemPlace}
  (hd:DataW.Trod enc P W b sp held t v d ps): ∃x:c.den,c.rng x/\c.sz x<=bulk d/\ ∃tv:TV,tv.sh=some sv/\tv.lv=unp c x/\Yzv tv=true/\VR fm W Yy2 v (avT tv):=by
 unfold argT at h
 split at h
 ·rename_i fs hu
  simp at h
  have h1:=SV.eq_of h.1
  subst h1
  have hR:=Yeq (enc:=enc) (w:=W) (base:=b) (spare:=sp) (held:=held) (fm:=fm) hb _ _ _ h.2
  obtain⟨x,k1,k2,k3⟩:=Ysu (fm:=fm) (e:=c.tvs) hu hv hd (by simpa only[Yle]using hR)
  exact⟨x,k1,k2,.ag (c.tvs x),by simp only[TV.sh,Ylc],by simp only[TV.lv,Yld],by simp only[Yzv,Ylf],k3⟩
 ·cases h
 ·rename_i hns hna
  split at h
  ·rename_i u
   simp at h
   have h1:=SV.eq_of h.1
   subst h1
   have hR:=Yeq (enc:=enc) (w:=W) (base:=b) (spare:=sp) (held:=held) (fm:=fm) hb _ _ _ h.2
   have hag: ∀cs,¬Cell.okWide P W .any base t (.agg cs):=by
    intro cs hc
    have h2:=h.2
    unfold okT at h2
    cases hu:P.underlying t with
    |none=>simp_all
    |some y=>cases y<;>simp[hu]at h2<;>simp[Cell.okWide,Cell.ok,hu]at hc<;>first|exact hns _ hu|exact hna _ _ hu
   obtain⟨x,k1,k2,k3⟩:=Ysv (fm:=fm) (X:=u.den) (e:=fun x=>[tvOf u x]) (p:=tvOf u) (sz:=u.sz) (ok:=u.rng) hns hna hv hag hd (fun _=>rfl) (by
    refine hR.conv ?_
    intro x hx
    refine⟨fstP .nil x,hx.1,?_,?_⟩
    ·simp only[avTs,Yla,Cs.enc]
    ·simp only[Cs.sz];omega)
   exact⟨x,⟨k1,trivial⟩,by trivial,tvOf u x,Yk8 _ _,Yk9 _ _,Ylb _ _,k3⟩
  trivial
theorem Ylg(hb:BulkOK bulk all)(h0: ∀l:List (DataW H),0<=all l){W:World}: ∀{ts:List TypeId} {svs:List SV} {c:Cs},YA0 P ts svs c=true-> ∀{vs:List Value} {b:Nat} {sp:Nat->Bool} {held:Bool} {ds:List (DataW H)} {ps:List MemPlace},
  DataW.TrodAll enc P W b sp held ts vs ds ps->(∀(j:Nat) t v,ts[j]?=some t->vs[j]?=some v->Value.okWide P W .any base t v)->
  ∃x:c.den,c.rng x/\c.sz x<=all ds/\ ∃tvs:List TV,TV.shs tvs=some svs/\TV.lvs tvs=unp c x/\YyN tvs=true/\tvs.length=vs.length/\ ∀j a,(avTs tvs)[j]?=some a->VR fm W Yy2 (vs.getD j undef) a
 | [],[],.nil,_,[],_,_,_,[],_,_,_=>⟨(),trivial,YCT _,[],rfl,rfl,rfl,rfl,fun j a h=>by trivial⟩
 |t::ts,sv::svs,c,h,v::vs,b,sp,held,d::ds,ps,hd,hv=>by
  simp only[YA0,YC3]at h
  obtain⟨p,q,h1,h2,rfl⟩:=hd
  obtain⟨x,a1,a2,tv,a3,a4,a5,a6⟩:=Ysz (fm:=fm) hb h.1.2 (hv 0 t v rfl rfl) h1
  obtain⟨y,b1,b2,tvs,b3,b4,b5,b6,b7⟩:=Ylg hb h0 h.2 h2 (fun j t v e1 e2=>hv (j+1) t v (by trivial) (by trivial))
  refine⟨Cs.jn _ c x y,YgE _ _ _ _ a1 b1,?_,tv::tvs,?_,?_,?_,?_,?_⟩
  ·rw[YgD]
   have:=hb.cons d ds
   omega
  ·simp only[TV.shs,a3,b3]
  ·simp only[TV.lvs,a4,b4,Yk6]
  ·simp only[YyN,a5,b5,YC6]
  ·simp_all
  ·intro j a hj
   cases j with
   |zero=>simp only[avTs,List.getElem?_cons_zero,Option.some.injEq]at hj;simp_all
   |succ j=>simp only[avTs,List.getElem?_cons_succ]at hj;simp_all
 | [],[],.cons _ _,h,_,_,_,_,_,_,_,_=>by trivial
 | [],_::_,_,h,_,_,_,_,_,_,_,_=>by trivial
 |_::_,[],_,h,_,_,_,_,_,_,_,_=>by trivial
 | [],[],.nil,_,_::_,_,_,_,_,_,hd,_=>hd.elim
 | [],[],.nil,_,[],_,_,_,_::_,_,hd,_=>hd.elim
 |_::_,_::_,_,_,[],_,_,_,_,_,hd,_=>hd.elim
 |_::_,_::_,_,_,_::_,_,_,_,[],_,hd,_=>hd.elim
theorem Ylh: ∀(c:Cs) (x:c.den),Yzh (unp c x)=⟨c,x⟩
 | .nil,_=>rfl
 | .cons t r,x=>by
   have:=Ylh r (sndP r x)
   show(match Yzh (unp r (sndP r x))with| ⟨c,y⟩=>(⟨.cons t c,mkP c (fstP r x) y⟩:(c:Cs)×c.den))=_
   rw[this]
   exact congrArg (Sigma.mk (Cs.cons t r)) (Yjx r x)
theorem YsA{g:Sg}{tvs:List TV}{x:g.c.den}(ho:g.os=[])(h1:TV.shs tvs=some g.vs)(h2:TV.lvs tvs=unp g.c x):g.read tvs []=some x:=by
 unfold Sg.read
 rw[h1]
 have e:Yzh (TV.lvs tvs++lvOs [])=⟨g.c,x⟩:=by
  show Yzh (TV.lvs tvs++[])=_
  rw[List.append_nil,h2,Ylh]
 simp only[shOs,ho,SO.eqbs,Bool.and_true,SV.eqbs_refl,cond_true]
 rw[e]
 exact Cs.cast_refl _ _
end
end Go.Abs
namespace Go.Abs
open Go Go.RowKit Go.ChangeShapes Go.WideShapes Go.ChangeAt
theorem Yli{H:Type}{enc:TypeId×Value->H}{P:Program}{W:World}{b:Nat}{sp:Nat->Bool}{held:Bool}: ∀{ts:List TypeId} {vs:List Value} {ds:List (DataW H)} {ps:List MemPlace},
  DataW.TrodAll enc P W b sp held ts vs ds ps->vs.length=ts.length/\ds.length=ts.length
 | [],[],[],_,_=>⟨rfl,rfl⟩
 |t::ts,v::vs,d::ds,ps,h=>by
  obtain⟨p,q,h1,h2,rfl⟩:=h
  obtain⟨a,b⟩:=Yli h2
  simp_all
 | [],_::_,_,_,h=>h.elim
 | [],[],_::_,_,h=>h.elim
 |_::_,[],_,_,h=>h.elim
 |_::_,_::_,[],_,h=>h.elim
theorem YsB{P:Program}{fm:FM}{T:Tabs}(hS:YyP P fm T)(hl:laidOutB P=true){f:FuncId}{fn:Func}{s:ChangeSpec}{e:FnE}(he:e∈T.fs)(hp:T.pf e.g=true)(hf:fm f=e.g)(hos:e.args.os=[])
  {ps:Array TypeId} (hps:fn.params=ps) (harg:YA0 P ps.toList e.args.vs e.args.c=true) {tb:TypeId} (hres:fn.resultTypes= #[tb]) (htb:P.underlying tb=some .bool) (hr:(ps.toList.all fun t=>P.readableRec t&&decide (t<P.types.size))=true) (hvars:s.vars=[])
  {H:Type} {enc:TypeId×Value->H} (hfn: ∀ds:List (DataW H),ds.length=ps.size->s.fn H ds={results:=[.lit (.bool true)],args:=ds})
  {bulk:DataW H->Nat} {all:List (DataW H)->Nat} (hb:BulkOK bulk all) {N:Nat}
  (law: ∀x:e.args.c.den,e.args.c.rng x->e.args.c.sz x<=N-> ∃y,e.F x=some y/\YyD e.res (unp e.co y)=some (.b true,[]))
  (W:World) (base:Nat) (args:Array Value) (ds gs:List (DataW H)) (before:List MemPlace)
  (hval: ∀(j:Nat) t v,fn.params[j]?=some t->args[j]?=some v->Value.okWide P W .any base t v)
  (hW:DataW.Whole enc P fn.params.toList s.vars false W args.toList ds gs before) (hk:all (ds++gs)<=N) (hTW:TabW fm W):
  Calls P f args W fun e W'=> ∃v,e= .returned v/\s.post enc P fn false true false false W args v W':=by
 have hW':=hW
 obtain⟨p,q,hA,hV,rfl,hfz,hnd⟩:=hW
 rw[hvars]at hV
 obtain⟨rfl,rfl⟩:=trodVars_none hV
 rw[List.append_nil]at hk
 have hl2:=Yli hA
 rw[hps]at hA hval
 obtain⟨x,k1,k2,tvs,k3,k4,k5,k6,k7⟩:=Ylg (fm:=fm) (bulk:=bulk) (all:=all) hb (fun _=>YCT _) harg hA (fun j t v h1 h2=>hval j t v (by simp_all) (by simp_all))
 obtain⟨y,h1,h2⟩:=law x k1 (YCP k2 hk)
 refine(Ysy hS he hp hf k5 (YsA hos k3 k4) h1 h2 (args:=args) (by simp_all) (fun j a hj=> ?_) hTW).mono fun e W' ⟨he,hb⟩=> ?_
 ·simp_all
 ·subst he
  refine⟨_,rfl,Ysw hl hres htb ?_ hvars hW' ?_ hb⟩
  ·grind
  simp_all
end Go.Abs
namespace Go.Abs
open Go Go.RowKit Go.Shelf Go.Proofs Go.Sort
def Yy7{α:Type}[Inhabited α](P:Program)(f:FuncId)(enc:α->Value)(srt:List α->List α):Prop:=
 ∀(blk cap:Nat) (zs:List α) (w:World),Holds enc w blk 0 zs.toArray->blk<w.heap.size->zs.length<4611686018427387904->
  Calls P f #[.slice (some ⟨blk,0,none⟩) zs.length cap] w fun e w'=>e= .returned (.tuple #[])/\ ∃n os,w'=grow (putRow enc (Sort.ahead w n) blk 0 (srt zs).toArray) os
theorem YsC{α:Type}[Inhabited α](enc:α->Value)(w:World)(g:Nat)(d:Array α){cur:Array Value}{ty:TypeId}{fr:Nat×Nat}(hg:w.heap[g]?=some (.cells cur ty fr)):
  putRow enc w g 0 d=w.setRow g (putCells enc 0 d cur):=by
 unfold putRow mapBlock World.setRow
 congr 1
 apply Array.ext_getElem?
 intro k
 simp only[Array.getElem?_modify]
 by_cases hk:g=k
 ·subst hk
  simp only[if_true,hg,YCX,onCells]
 simp_all
theorem YsD{P:Program}{fm:FM}{f:FuncId}{α:Type}[ih:Inhabited α]{enc:α->Value}{srt:List α->List α}(K:Yy7 P f enc srt)(hone: ∀a,(enc a).oneCell'=true)(hlen: ∀l,(srt l).length=l.length)
  {w:World} {Lc:Nat->Loc} {h:HF} (hr:HR fm w Lc h) {x:Nat} {zs:List α} (hne:zs≠ []) (hx:h x=some (some ⟨1,zs.map fun a=>[.v (enc a)]⟩)) (hsm:zs.length<=4611686018427387903) {vals:Array Value} (hsz:vals.size=1) (hv:VR fm w Lc (vals.getD 0 undef) (.ref x 0 zs.length)):
  Calls P f vals w fun e w'=>e= .returned (.tuple #[])/\Keep Lc w w'/\HR fm w' Lc (fun b=>if b=x then some (some ⟨1,(srt zs).map fun a=>[.v (enc a)]⟩)else h b):=by
 have hpos:0<zs.length:=List.length_pos_iff.2 hne
 rcases YaN hr hx hv with⟨g,es,cap,hL,he,hcl,e1⟩| ⟨A,b,hL,_,_,hl0,_⟩
 ·have hes:es=1:=he
  subst hes
  rw[YgC hsz,e1]
  have hob:=hr.obj x _ hx
  rw[hL]at hob
  obtain⟨h0,h1,h2,h3,h4,cur,ty,h5,h6,h7⟩:=hob
  have hgl:g<w.heap.size:=(YDa.1 h5).1
  have hzc:zs.length<=cap:=by omega
  have hcell: ∀j (hj:j<zs.length),cur.getD j undef=enc zs[j]:=fun j hj=>by
   have:=(h7 j [.v (enc zs[j])] 0 (.v (enc zs[j])) (by grind) rfl).2
   have:=Yaf this
   grind
  have hH:Holds enc w g 0 zs.toArray:=fun j hj=>by
   have hj':j<zs.length:=by trivial
   refine⟨?_,Lib.frozen_of_heap h5 _⟩
   rw[Lib.cell_of_heap h5,YCR]
   have:=hcell j hj'
   rw[YbF (by omega),this]
   grind
  have e2:(Value.slice (some ⟨g,0*1,none⟩) zs.length (cap-0))= .slice (some ⟨g,0,none⟩) zs.length (cap-0):=rfl
  rw[e2]
  refine(K g (cap-0) zs w hH hgl (by omega)).mono ?_
  rintro e w' ⟨rfl,n,os,rfl⟩
  rw[putRow_ahead,YsC enc w g _ h5]
  obtain⟨k1,k2⟩:=YbG (cur':=putCells enc 0 (srt zs).toArray cur) (el:=(srt zs).map fun a=>[.v (enc a)]) hr hx hL h5 (by simp[putCells,h6]) (by grind) (by simp) (fun i e j c hi hj=>by
   obtain⟨a,ha,rfl⟩: ∃a,(srt zs)[i]?=some a/\ [AV.v (enc a)]=e:=by grind
   have hj0:j=0:=by
    grind
   subst hj0
   have hc:AV.v (enc a)=c:=by grind
   subst hc
   have hil:i< (srt zs).length:=(YB6.1 ha).1
   have hil2:i<cur.size:=by grind
   have:(putCells enc 0 (srt zs).toArray cur).getD (i*1+0) undef=enc a:=by
    simp only[Nat.mul_one,Nat.add_zero,YC8,putCells,Array.getElem?_mapIdx,YC9 hil2,YCX,YCY]
    grind
   rw[this]
   exact⟨hone a,.v _⟩)
  have hb:Below (w.setRow g (putCells enc 0 (srt zs).toArray cur)).heap.size (w.setRow g (putCells enc 0 (srt zs).toArray cur)) (grow (Sort.ahead (w.setRow g (putCells enc 0 (srt zs).toArray cur)) n) os):=by
   refine⟨rfl,rfl,rfl,by simp,fun k hk=> ?_⟩
   have hk':k< (Sort.ahead (w.setRow g (putCells enc 0 (srt zs).toArray cur)) n).heap.size:=hk
   show((Sort.ahead (w.setRow g (putCells enc 0 (srt zs).toArray cur)) n).heap++os)[k]?=_
   rw[Array.getElem?_append_left hk'];rfl
  refine⟨rfl,k1.trans (LStep.refl _ _) (Ybz hb),k2.mono (Ybz hb) (fun b hb' _=>hb.block b hb')⟩
 ·omega
def vsortE(g:Nat)(c:Cs)(F:List c.den->Option (List c.den)):FnE:=⟨g,false,⟨[0],[.ref 0],[.sq c],.cons (.l c) .nil⟩,.tp [],[.sq c],.cons (.l c) .nil,F⟩
theorem YsE{c:Cs}{xs ys:List c.den}{vs:List TV}{Xs X2:Yyu}{v:TV}{l:List Lf}(hfill:Sg.fill ⟨[0],[.ref 0],[.sq c],.cons (.l c) .nil⟩ xs=some ⟨zipE [0] vs,Xs⟩)(hlen:vs.length=1)
  (e5:YyD (.tp []) (unp (.cons (.l c) .nil) ys)=some (v,l)) (e6:YyC [.sq c] l=some (X2,[])):vs=[.ref 0]/\Xs=[some (.sq c xs)]/\v= .tp []/\X2=[some (.sq c ys)]:=by
 have hu: ∀z:List c.den,unp (.cons (.l c) .nil) z=[⟨.l c,z⟩]:=fun z=>rfl
 unfold Sg.fill at hfill
 simp only[hu,YyG,YyD,YyC,Yy9,YaP]at hfill
 injection hfill with hfill;injection hfill with hz hX
 match vs,hlen with
 | [v0],_=>
   simp only[zipE,List.cons.injEq,Prod.mk.injEq,and_true,true_and]at hz
   simp only[hu,YyD,YyG,Option.some.injEq,Prod.mk.injEq]at e5
   obtain⟨rfl,rfl⟩:=e5
   simp only[YyC,Yy9,YaP,Option.some.injEq,Prod.mk.injEq,and_true]at e6
   simp_all
theorem YsF{P:Program}{fm:FM}{f:FuncId}{α:Type}[ih:Inhabited α]{enc:α->Value}{srt:List α->List α}(K:Yy7 P f enc srt)(hone: ∀a,(enc a).oneCell'=true)(hlen: ∀l,(srt l).length=l.length)
  {c:Cs} (hw:c.width=1) (dec:c.den->α) (hdec: ∀x,c.enc x=[.v (enc (dec x))]) {xs ys:List c.den} (hys:ys.map dec=srt (xs.map dec)) (hne:xs≠ []) (hsm:xs.length<=4611686018427387903)
  {pls:Pl} {Kp:Nat->Prop} {H:Heap} {args:List AV} (hct:CT [some (.sq c xs)] pls [.ref 0] args) (hrs:HRel Kp H [some (.sq c xs)] pls H) (hfr:FrOK Kp H) (hX:wfX [some (.sq c ys)] [some (.sq c ys)]=true)
  {w:World} {Lc:Nat->Loc} {vals:Array Value} (hr:HR fm w Lc (hf H)) (hsz:vals.size=args.length) (hv: ∀j a,args[j]?=some a->VR fm w Lc (vals.getD j undef) a):
  Calls P f vals w fun e w'=> ∃v L',e= .returned v/\Keep Lc w w'/\LStep Lc L' w.heap.size/\HR fm w' L' (hf (YyW Kp H 1 [some (.sq c ys)] (plI pls 1 H.length [some (.sq c ys)])))/\VR fm w' L' v (encT [some (.sq c ys)] (plI pls 1 H.length [some (.sq c ys)]) (.tp [])):=by
 obtain⟨a0,ra,rfl,ha0,hra⟩:=hct.inv
 have hra0:ra=[]:=YCi.1 hra.1.symm
 subst hra0
 have h0:vget [some (.sq c xs)] 0=some (.sq c xs):=rfl
 obtain⟨x,el,g1,g2,g3,g4⟩:=hrs.obj 0 _ h0
 rw[hw]at g2
 have hel:el=(xs.map dec).map fun a=>[.v (enc a)]:=by
  apply List.ext_getElem (by simp[g4.1])
  intro i h1 h2
  have hi:i<xs.length:=by simp_all
  have hc:=g4.2 i el[i] xs[i] (YB7 h1) (YB7 hi)
  rw[hdec]at hc
  obtain⟨hc1,hc2⟩:=hc
  simp only[List.getElem_map]
  match he:el[i],hc1,hc2 with
  | [a],_,hc2=>rw[YaC (hc2 0 a _ rfl rfl)]
  | [],hc1,_=>trivial
  |_::_::_,hc1,_=>simp_all
 have ha0':a0= .ref x 0 xs.length:=by
  cases ha0 with
  |ref a x' o n h hn hp=>
   rw[h0]at h;injection h with h;subst h
   rw[g1]at hp;injection hp with hp;subst hp
   simp only[lenO]at hn;simp_all
  |refD a av h ha=>trivial
 subst ha0'
 have hne':xs.map dec≠ []:=fun e=>hne (List.map_eq_nil_iff.1 e)
 refine(YsD K hone hlen (zs:=xs.map dec) hr hne' (by show H[x]?=_;simp_all) (by simp_all) (by trivial) (by simpa using hv 0 _ rfl)).mono ?_
 rintro e w' ⟨rfl,k1,k2⟩
 rw[<-hys]at k2
 have hl2:ys.length=xs.length:=by grind
 have hhf:(fun b=>if b=x then some (some (⟨1,(ys.map dec).map fun a=>[.v (enc a)]⟩:AObj))else hf H b)=hf (H.set x (some ⟨1,(ys.map dec).map fun a=>[.v (enc a)]⟩)):=by
  have:=Yb4 (H:=H) (a:=x) (o:=some ⟨1,(ys.map dec).map fun a=>[.v (enc a)]⟩) (by show H[x]?≠none;simp_all) 0
  trivial
 rw[hhf]at k2
 have hxl:x<H.length:=(YB6.1 g2).1
 obtain⟨q1,q2⟩:=YbO hrs h0 g1 (o':=.sq c ys) ⟨1,(ys.map dec).map fun a=>[.v (enc a)]⟩ (by trivial) (by simp[lenO,hl2]) (fun _ _ _ _ _ h=>by cases h) (fun _ _ _ _ _ h=>by cases h) (fun _=>by
  refine⟨x,(ys.map dec).map fun a=>[.v (enc a)],g1,?_,by omega,by simp,fun i e v k1 k2=> ?_⟩
  ·simp_all
  ·obtain⟨a,ha,rfl⟩: ∃a,ys[i]?=some a/\ [AV.v (enc (dec a))]=e:=by grind
   rw[ha]at k2;injection k2 with k2;subst k2
   rw[hdec]
   exact⟨rfl,fun j y y' h1 h2=>by rw[h1]at h2;injection h2 with h2;subst h2;exact .refl _⟩)
 have hvs:vset [some (VObj.sq c xs)] 0 (some (.sq c ys))=[some (.sq c ys)]:=rfl
 rw[hvs]at q1
 have hren:renX [some (VObj.sq c ys)] (List.range 1)=[some (VObj.sq c ys)]:=rfl
 have hfin:=Yby (Xs:=[some (.sq c xs)]) (pls:=pls) (Xh:=[some (.sq c ys)]) (ph:=pls) (v:=.tp []) (a:=.tup []) (m:=List.range 1) (s:=⟨[],H.set x (some ⟨1,(ys.map dec).map fun a=>[.v (enc a)]⟩),H.length⟩) hrs hfr q1 rfl (YCL _) (fun i hi x hx=>hx) List.nodup_range (List.prefix_refl _) (.tp [] [] rfl (fun j c a h=>by simp)) (by rfl) (by trivial)
 rw[hren]at hfin
 obtain⟨L2,f1,f2,f3⟩:=hfin fm w' Lc (.tuple #[]) k2 (.tup _ _ rfl (fun j a h=>by grind))
 refine⟨_,L2,rfl,k1,f1 Lc w.heap.size (fun b hb=> ?_) (LStep.refl _ _),f2,f3⟩
 apply Classical.byContradiction
 intro hlt
 exact hb ((hr.fresh b).2 (YCs (by simp_all)))
theorem Ylj{P:Program}{fm:FM}{T:Tabs}(hS:YyP P fm T){g:Nat}(hp:T.pf g=false){c:Cs}{F0 F:List c.den->Option (List c.den)}(he0:vsortE g c F0∈T.fs)
  {α:Type} [ih:Inhabited α] {enc:α->Value} {srt:List α->List α} (hone: ∀a,(enc a).oneCell'=true) (hlen: ∀l,(srt l).length=l.length)
  (hw:c.width=1) (dec:c.den->α) (hdec: ∀x,c.enc x=[.v (enc (dec x))]) (hF0: ∀y,F []=some y->F0 []=some y) (hF: ∀x y,x≠ []->F x=some y->y.map dec=srt (x.map dec)/\x.length<=4611686018427387903)
  (hG: ∀f,fm f=g->Yyw P f=true/\Yy7 P f enc srt):YyP P fm ⟨T.pf,vsortE g c F::T.fs,T.ls,0⟩:=by
 obtain⟨C,hC,hT⟩:=hS
 have hpC:C.pf g=true->Pure (vsortE g c F).RI:=fun h=>by rw[hT.p.pf,hp]at h;cases h
 refine⟨Yy3 C g (vsortE g c F).RI,Ya0 hC hpC (fun f hf=> ?_),Ya1 (e:=vsortE g c F) hT (fun h=>by rw[show(vsortE g c F).g=g from rfl,hp]at h;cases h) (fun _ _ _ _ _ h=>h)⟩
 rintro args H r H' ⟨x,y,vs,Xs,pls,Kp,v,l,X2,h1,h2,h3,hct,hrs,hfr,hall,h5,h6,h7,h8,h9,h10,rfl,rfl⟩
 by_cases hx:(show List c.den from x)=[]
 ·have h1':F0 x=some y:=by
   have:=h1
   have hx':x=([]:List c.den):=hx
   rw[hx']at this⊢
   exact hF0 y this
  have:=hT.fnI _ he0 hp args H _ _ ⟨x,y,vs,Xs,pls,Kp,v,l,X2,h1',h2,h3,hct,hrs,hfr,hall,h5,h6,h7,h8,h9,h10,rfl,rfl⟩
  rw[show(vsortE g c F0).g=g from rfl,<-hf]at this
  exact hC.ok f args H _ _ this
 ·obtain⟨hcal,K⟩:=hG f hf
  refine⟨hcal,fun w Lc vals hr hsz hv=> ?_⟩
  have hl:vs.length=1:=Ycp h2
  obtain⟨rfl,rfl,rfl,rfl⟩:=YsE (c:=c) (xs:=x) (ys:=y) (YaK h2) hl h5 h6
  obtain⟨k1,k2⟩:=hF x y hx h1
  exact YsF K hone hlen hw dec hdec k1 hx k2 hct hrs hfr h9 hr hsz hv
def insL{α:Type}(le:α->α->Bool)(x:α):List α->List α
 | []=>[x]
 |y::r=>bif le x y then x::y::r else y::insL le x r
def srtL{α:Type}(le:α->α->Bool):List α->List α
 | []=>[]
 |x::r=>insL le x (srtL le r)
theorem YgF{α:Type}(le:α->α->Bool)(x:α): ∀l:List α,(insL le x l).Perm (x::l)
 | []=>List.Perm.refl _
 |y::r=>by
  unfold insL
  cases le x y with
  |true=>rfl
  |false=>exact((YgF le x r).cons y).trans (List.Perm.swap ..)
theorem Yer{α:Type}(le:α->α->Bool): ∀l:List α,(srtL le l).Perm l
 | []=>List.Perm.refl _
 |x::r=>(YgF le x _).trans ((Yer le r).cons x)
theorem Ylk{α:Type}{le:α->α->Bool}(tr: ∀a b c,le a b=true->le b c=true->le a c=true)(tot: ∀a b,(le a b||le b a)=true)(x:α): ∀l:List α,l.Pairwise (fun a b=>le a b=true)->(insL le x l).Pairwise (fun a b=>le a b=true)
 | [],_=>by simp[insL]
 |y::r,h=>by
  unfold insL
  have h':=YCy.1 h
  cases hx:le x y with
  |true=>
   refine YCy.2 ⟨fun z hz=> ?_,h⟩
   grind
  |false=>
   refine YCy.2 ⟨fun z hz=> ?_,Ylk tr tot x r h'.2⟩
   rcases YCd.1 ((YgF le x r).mem_iff.1 hz)with rfl|hz
   ·grind
   simp_all
theorem Yes{α:Type}{le:α->α->Bool}(tr: ∀a b c,le a b=true->le b c=true->le a c=true)(tot: ∀a b,(le a b||le b a)=true): ∀l:List α,(srtL le l).Pairwise (fun a b=>le a b=true)
 | []=>List.Pairwise.nil
 |x::r=>Ylk tr tot x _ (Yes tr tot r)
theorem Ycq{α:Type}{le:α->α->Bool}(tr: ∀a b c,le a b=true->le b c=true->le a c=true)(tot: ∀a b,(le a b||le b a)=true)(ant: ∀a b,le a b=true->le b a=true->a=b){l r:List α}
  (h:r.Pairwise (fun a b=>le a b=true)) (hp:r.Perm l):r=srtL le l:=
 List.Perm.eq_of_pairwise (fun a b _ _=>ant a b) h (Yes tr tot l) (hp.trans (Yer le l).symm)
theorem Yll{α β:Type}(f:α->β)(le:β->β->Bool): ∀l:List α,(srtL (fun a b=>le (f a) (f b)) l).map f=srtL le (l.map f)
 | []=>rfl
 |x::r=>by
  have ins: ∀m:List α,(insL (fun a b=>le (f a) (f b)) x m).map f=insL le (f x) (m.map f):=by
   intro m
   induction m with
   |nil=>rfl
   |cons y m ih=>
    simp only[insL,YCa]
    grind
  simp only[srtL,YCa,ins,Yll f le r]
def le8:List UInt8->List UInt8->Bool
 | [],_=>true
 |_::_,[]=>false
 |x::a,y::b=>bif YCK x.toNat y.toNat then true else bif YCK y.toNat x.toNat then false else le8 a b
theorem Yc6: ∀a b:List UInt8,le8 a b=decide (a<=b)
 | [],b=>by simp[le8]
 |_::_,[]=>by rfl
 |x::a,y::b=>by
  have h:=List.cons_le_cons_iff (a:=x) (b:=y) (l₁:=a) (l₂:=b)
  have e:le8 (x::a) (y::b)=decide (x<y\/x=y/\a<=b):=by
   simp only[le8,Yc6 a b]
   have b1:YCK x.toNat y.toNat=decide (x<y):=by
    rw[Bool.eq_iff_iff];simp[YCK,UInt8.lt_iff_toNat_lt,Nat.succ_le_iff]
   have b2:YCK y.toNat x.toNat=decide (y<x):=by
    rw[Bool.eq_iff_iff];simp[YCK,UInt8.lt_iff_toNat_lt,Nat.succ_le_iff]
   grind
  simp_all
theorem Yet(a b c:List UInt8)(h:le8 a b=true)(k:le8 b c=true):le8 a c=true:=by
 simp only[Yc6,decide_eq_true_eq]at*
 grind
theorem Yeu(a b:List UInt8):(le8 a b||le8 b a)=true:=by
 simp only[Yc6,YC5,decide_eq_true_eq]
 grind
theorem YgG(a b:List UInt8)(h:le8 a b=true)(k:le8 b a=true):a=b:=by
 simp only[Yc6,decide_eq_true_eq]at*
 grind
theorem YsG(l:List (List UInt8)):srtL le8 l=l.mergeSort fun x y=>decide (x<=y):=by
 refine(Ycq Yet Yeu YgG ?_ (List.mergeSort_perm _ _)).symm
 have:=List.pairwise_mergeSort (le:=fun x y:List UInt8=>decide (x<=y)) (fun a b c h k=>by grind) (fun a b=>by grind) l
 exact this.imp (fun h=>by rw[Yc6];exact h)
def Yz5(l:List ByteArray):List ByteArray:=srtL (fun a b=>le8 a.data.toList b.data.toList) l
def leI(x y:Int):Bool:=decide (x<=y)
def Yz6(l:List Int):List Int:=srtL leI l
theorem Yev(a b c:Int)(h:leI a b=true)(k:leI b c=true):leI a c=true:=by
 simp only[leI,decide_eq_true_eq]at*;omega
theorem Yew(a b:Int):(leI a b||leI b a)=true:=by
 simp only[leI,YC5,decide_eq_true_eq];omega
theorem YgH(a b:Int)(h:leI a b=true)(k:leI b a=true):a=b:=by
 simp only[leI,decide_eq_true_eq]at*;omega
theorem YsH{P:Program}{f:FuncId}{ρ:Ren}(L:Lays.n190 P ρ)(hf:ρ.f 190=f):Yy7 P f encStr (fun l=>l.mergeSort fun x y=>decide (x<=y)):=by
 subst hf
 intro blk cap zs w hH hb hz
 exact Any.slices_Sort_string L blk 0 cap zs w hH hb hz
def YBe(F0:List ByteArray->Option (List ByteArray))(l:List ByteArray):Option (List ByteArray):=match l with
 | []=>F0 []
 |_::_=>bif YCN l.length maxEl then some (Yz5 l)else none
def YBf(F0:List Int->Option (List Int))(l:List Int):Option (List Int):=match l with
 | []=>F0 []
 |_::_=>bif YCN l.length maxEl then some (Yz6 l)else none
theorem Ylm:maxEl<=4611686018427387903:=by decide
theorem YsI(l:List ByteArray):(Yz5 l).map (fun s=>s.data.toList)=(l.map fun s=>s.data.toList).mergeSort fun x y=>decide (x<=y):=by
 rw[<-YsG]
 exact Yll (fun s:ByteArray=>s.data.toList) le8 l
theorem YsJ(l:List Int):(Yz6 l).map (fun n=>n)=(l.map fun n=>n).mergeSort fun x y=>decide (x<=y):=by
 have: ∀l:List Int,l.map (fun n=>n)=l:=fun l=>List.map_id l
 rw[this,this]
 refine(Ycq Yev Yew YgH ?_ (List.mergeSort_perm _ _)).symm
 have:=List.pairwise_mergeSort (le:=fun x y:Int=>decide (x<=y)) (fun a b c h k=>by grind) (fun a b=>by grind) l
 trivial
theorem YsK{P:Program}{fm:FM}{T:Tabs}(hS:YyP P fm T){g:Nat}(hp:T.pf g=false){F0:List ByteArray->Option (List ByteArray)}(he0:vsortE g (.cons .s .nil) F0∈T.fs)
  (hG: ∀f,fm f=g->Yyw P f=true/\ ∃ρ:Ren,Lays.n190 P ρ/\ρ.f 190=f):YyP P fm ⟨T.pf,vsortE g (.cons .s .nil) (YBe F0)::T.fs,T.ls,0⟩:=by
 refine Ylj hS hp he0 (enc:=encStr) (srt:=fun l=>l.mergeSort fun x y=>decide (x<=y)) (fun _=>rfl) (fun l=>by simp) rfl (fun s:ByteArray=>s.data.toList) (fun s=>rfl) (fun y h=>h) (fun x y hx h=> ?_) (fun f hf=> ?_)
 ·cases x with
  |nil=>trivial
  |cons a r=>
   obtain⟨h1,h2⟩:=Yaa (show(bif YCN (a::r:List ByteArray).length maxEl then some (Yz5 (a::r))else none)=some y from h)
   injection h2 with h2;subst h2
   refine⟨?_,YCP (YCU h1) Ylm⟩
   exact YsI (a::r)
 ·obtain⟨k1,ρ,k2,k3⟩:=hG f hf
  exact⟨k1,YsH k2 k3⟩
theorem YaM{P:Program}{fm:FM}{T:Tabs}(hS:YyP P fm T)(e:FnE)(hF: ∀x,e.F x=none):YyP P fm ⟨T.pf,e::T.fs,T.ls,0⟩:=by
 obtain⟨C,hC,hT⟩:=hS
 refine⟨C,hC,⟨hT.p.pf,fun e' he' hp args r hr=> ?_⟩,fun e' he' hp args H r H' hr=> ?_⟩
 ·rcases YCd.1 he' with rfl|he'
  ·obtain⟨x,y,vs,v,h1,_⟩:=hr
   simp_all
  ·exact hT.p.fn e' he' hp args r hr
 ·rcases YCd.1 he' with rfl|he'
  ·obtain⟨x,y,vs,Xs,pls,Kp,v,l,X2,h1,_⟩:=hr
   simp_all
  ·exact hT.fnI e' he' hp args H r H' hr
end Go.Abs
namespace Go.Abs
open Go Go.RowKit
def fmOf(l:List Nat)(f:Nat):Nat:=l.getD f 0
def YzO(g:Nat):List Nat->Nat->Nat->Bool
 | [],_,_=>true
 |x::r,i,k=>(!(YCJ x g)||YCJ k i)&&YzO g r i (k+1)
theorem Yln{g i:Nat}: ∀{l:List Nat} {k:Nat},YzO g l i k=true-> ∀f,l[f]?=some g->k+f=i
 | [],k,_,f,h=>by simp at h
 |x::r,k,h,f,hf=>by
  simp only[YzO,YC3,YC5,Bool.not_eq_true']at h
  cases f with
  |zero=>
   simp at hf;subst hf
   rcases h.1 with h1|h1
   ·rw[Nat.beq_refl]at h1;cases h1
   ·exact YCM h1
  |succ f=>
   have:=Yln h.2 f (by simpa using hf)
   omega
theorem Ylo{l:List Nat}{g i f:Nat}(h:YzO g l i 0=true)(hg:g≠0)(hf:fmOf l f=g):f=i:=by
 unfold fmOf at hf
 cases hl:l[f]? with
 |none=>rw[YCH,hl]at hf;exact absurd hf.symm hg
 |some x=>
  rw[YCH,hl]at hf
  have hf:x=g:=hf
  subst hf
  have:=Yln h f hl
  omega
theorem Yab{P:Program}{fm:FM}{pf:Nat->Bool}{l:List Nat}{g i:Nat}{X:Option (Nat×List RV×ACode)}(hl:fm.f=fmOf l)(h:YzO g l i 0=true:=by kernel_rfl)(hg:g≠0:=by decide)(ht:fnTr P fm pf i=X:=by kernel_rfl): ∀f,fm f=g->fnTr P fm pf f=X:=fun f hf=>by
 have:f=i:=Ylo h hg (by rw[<-hl];exact hf)
 rw[this];exact ht
end Go.Abs
namespace Go.Abs
open Go Go.RowKit
def YzF:VCode->List (Nat×ACode)
 | .seq a b=>YzF a++YzF b
 | .cond _ a b=>YzF a++YzF b
 | .blk _ b=>YzF b
 | .fz _ b=>YzF b
 | .ow _ b=>YzF b
 | .loop lid b=>[(lid,.loop b.er)]
 | .jn lid b=>[(lid,b.er)]
 |_=>[]
abbrev LL:=List (LpE×ACode)
def getC(id:Nat):LL->Option ACode
 | []=>none
 | (p,c)::r=>bif YCJ p.id id then some c else getC id r
def gotC(ls:LL)(c:VCode):List (Option ACode):=(YzF c).map fun q=>getC q.1 ls
def YzV(c:VCode):List (Option ACode):=(YzF c).map fun q=>some q.2
abbrev fsts(ls:LL):List LpE:=ls.map Prod.fst
theorem Ylp{ls:LL}{id:Nat}{e:LpE}{c:ACode}(h:getC id ls=some c)(he:YAe id (fsts ls)=some e):(e,c)∈ls:=by
 induction ls with
 |nil=>cases h
 |cons a r ih=>
  obtain⟨p,d⟩:=a
  simp only[getC]at h
  simp only[fsts,YCa,YAe]at he
  grind
section
variable{Fr:Nat->Prop}{H0:Heap}{C:Ctx}{pf:Nat->Bool}{fs:List FnE}{kb:Nat}{ls:LL}
theorem YaQ(hk: ∀q∈ls,Yy1 Fr H0 kb C q.2 q.1): ∀{c:VCode},gotC ls c=YzV c->LsOK Fr H0 C ⟨pf,fs,fsts ls,kb⟩ c
 | .seq a b,h=>by
   simp only[gotC,YzV,YzF,YCz]at h
   obtain⟨h1,h2⟩:=List.append_inj h (by simp)
   exact⟨YaQ hk h1,YaQ hk h2⟩
 | .cond _ a b,h=>by
   simp only[gotC,YzV,YzF,YCz]at h
   obtain⟨h1,h2⟩:=List.append_inj h (by simp)
   exact⟨YaQ hk h1,YaQ hk h2⟩
 | .blk _ b,h=>YaQ (c:=b) hk h
 | .fz _ b,h=>YaQ (c:=b) hk h
 | .ow _ b,h=>YaQ (c:=b) hk h
 | .loop lid b,h=>fun e he=>hk _ (Ylp (List.cons.inj h).1 he)
 | .jn lid b,h=>fun e he=>hk _ (Ylp (List.cons.inj h).1 he)
 | .skip,_=>trivial
 | .reg _,_=>trivial
 | .regN _ _,_=>trivial
 | .exit _,_=>trivial
 | .ret,_=>trivial
 | .bad,_=>trivial
inductive Lk(lo:Lo)(pf:Nat->Bool)(fs:List FnE)(kb:Nat):LL->Prop
 |n:Lk lo pf fs kb []
 |l {ls:LL} {p:LpE} {b:VCode} (h:Lk lo pf fs kb ls) (s:p.g.c.den->Option (p.g.c.den⊕Alt p.outs)) (hF:p.F=lo.run s:=by rfl) (ok:gotC ls b=YzV b:=by kernel_rfl)
    (eq: ∀x,YAI ⟨pf,fs,fsts ls,kb⟩ p.own p.g p.outs b x=s x:=by intro x;kernel_rfl):Lk lo pf fs kb ((p,.loop b.er)::ls)
 |j {ls:LL} {p:LpE} {b:VCode} (h:Lk lo pf fs kb ls) (ok:gotC ls b=YzV b:=by kernel_rfl) (eq: ∀x,stepJ ⟨pf,fs,fsts ls,kb⟩ p.g p.outs b x=p.F x:=by intro x;kernel_rfl):Lk lo pf fs kb ((p,b.er)::ls)
 |r {ls:LL} {p:LpE} {c:ACode} (h:Lk lo pf fs kb ls) (hs: ∀C,TOK ⟨pf,fs,fsts ls,kb⟩ C-> ∀Fr H0,FrOK Fr H0->(∀q∈ls,Yy1 Fr H0 kb C q.2 q.1)->Yy1 Fr H0 kb C c p):Lk lo pf fs kb ((p,c)::ls)
theorem Lk.snd{lo:Lo}(hlo:LoOK lo)(hT:TOK ⟨pf,fs,[],kb⟩ C)(hf:FrOK Fr H0)(h:Lk lo pf fs kb ls): ∀q∈ls,Yy1 Fr H0 kb C q.2 q.1:=by
 induction h with
 |n=>simp
 |l h s hF ok eq ih=>
  intro q hq
  rcases YCd.1 hq with rfl|hq
  ·exact YrL (Yco hT) hf (YaQ ih ok) (fun x y h=>Ysc eq (hlo _ _ _ (by simp_all)))
  simp_all
 |j h ok eq ih=>
  intro q hq
  rcases YCd.1 hq with rfl|hq
  ·exact YrM (Yco hT) hf (YaQ ih ok) (fun x y h=>(eq x).trans h)
  simp_all
 |r h hs ih=>
  intro q hq
  rcases YCd.1 hq with rfl|hq
  ·exact hs C (Yco hT) Fr H0 hf ih
  simp_all
theorem Lk.m{lo:Lo}{id it nx mo out:Nat}{own:List (Nat×Option Nat×Bool)}{g0 g:Sg}{outs:List Out1}{pre bb rest:VCode}(h:Lk lo pf fs kb ls)
  {p:g.c.den->ItP} {t:g.c.den->Int->Option g.c.den} {r:g.c.den->Option (Alt outs)} {u:g0.c.den->Option g.c.den} {F:g0.c.den->Option (Alt outs)}
  (ok:gotC ls (.seq pre (.seq bb rest))=YzV (.seq pre (.seq bb rest)))
  (hp: ∀x,itR g it x=some (p x)) (ht: ∀x b,YBu ⟨pf,fs,fsts ls,kb⟩ own g it nx mo out bb x b=t x b) (hr: ∀x,endR ⟨pf,fs,fsts ls,kb⟩ g nx mo out bb rest outs x=r x) (hu: ∀x,preR ⟨pf,fs,fsts ls,kb⟩ pre own g0 g x=u x)
  (hF:F=fun x=>YCV (u x) (rngF p t r)):
  Lk lo pf fs kb ((⟨id,own,g0,outs,F⟩,.seq (.seq pre.er (.blk out (.loop (.seq (.reg [⟨some nx,.px .mnxt [.t it],none,false,false⟩,⟨some mo,.ext (.t nx) 0,none,false,false⟩]) (YzK mo out bb).er)))) rest.er)::ls):=
 .r h (fun C hT Fr H0 hf hk=>by
  obtain⟨k1,k2,k3⟩:=YaQ (pf:=pf) (fs:=fs) hk ok
  exact Ysa hT hf k1 ⟨⟨trivial,trivial⟩,k2⟩ k3 hp ht hr hu (fun x y h=>Ysb (by simp_all)))
end
structure GS(P:Program)(fm:FM)(pf:Nat->Bool)(fs:List FnE)(lo:Lo):Prop where
 lo:LoOK lo
 mx:P.follows .mixedOrders=true
 S:YyP P fm ⟨pf,fs,[],0⟩
abbrev TieF(P:Program)(fm:FM)(pf:Nat->Bool)(g:Nat)(F:VFn):Prop:= ∀f,fm f=g->fnTr P fm pf f=some (F.slots,F.res,F.code.er)
def eqNs:List Nat->List Nat->Bool
 | [],[]=>true
 |a::r,b::s=>YCJ a b&&eqNs r s
 |_,_=>false
theorem Ylq: ∀{a b:List Nat},eqNs a b=true->a=b
 | [],[],_=>rfl
 |a::r,b::s,h=>by
  simp only[eqNs,YC3]at h
  rw[YCM h.1,Ylq h.2]
 | [],_::_,h|_::_,[],h=>by cases h
def chkF(pf:Nat->Bool)(p:Bool)(e:FnE)(F:VFn):Bool:=(match p with|true=>pf e.g|false=> !pf e.g)&& (YCN F.res.length 4&& (eqNs e.args.ts (List.range' 0 e.args.vs.length)&&YCN e.args.vs.length F.slots))
section
variable{P:Program}{fm:FM}{pf:Nat->Bool}{fs:List FnE}{lo:Lo}
theorem YgI{p:Bool}{e:FnE}{F:VFn}(h:chkF pf p e F=true):pf e.g=p/\F.res.length<=4/\e.args.ts=List.range' 0 e.args.vs.length/\e.args.vs.length<=F.slots:=by
 simp only[chkF,YC3,Nat.ble_eq]at h
 refine⟨?_,h.2.1,Ylq h.2.2.1,h.2.2.2⟩
 grind
theorem GS.p(h:GS P fm pf fs lo)(e:FnE){F:VFn}{ls:LL}(hk:Lk lo pf fs 0 ls)(t:TieF P fm pf e.g F)(hc:chkF pf true e F=true:=by kernel_rfl)(ok:gotC ls F.code=YzV F.code:=by kernel_rfl)
  (eq: ∀x,evP ⟨pf,fs,fsts ls,0⟩ F e.args e.res e.co x=e.F x:=by intro x;kernel_rfl):GS P fm pf (e::fs) lo:=by
 obtain⟨h1,h2,h3,h4⟩:=YgI hc
 exact⟨h.1,h.2,YrV h.S h.mx (fsts ls) e h1 F t h2 h3 h4 (fun C hT=>YaQ (hk.snd h.1 (Yco hT) frNo) ok) (fun x y h=>(eq x).trans h)⟩
theorem GS.i(h:GS P fm pf fs lo)(e:FnE){F:VFn}{ls:LL}(hk:Lk lo pf fs e.args.os.length ls)(t:TieF P fm pf e.g F)(hc:chkF pf false e F=true:=by kernel_rfl)(ok:gotC ls F.code=YzV F.code:=by kernel_rfl)
  (eq: ∀x,evI ⟨pf,fs,fsts ls,e.args.os.length⟩ F e.args e.res e.os e.co x=e.F x:=by intro x;kernel_rfl):GS P fm pf (e::fs) lo:=by
 obtain⟨h1,h2,h3,h4⟩:=YgI hc
 exact⟨h.1,h.2,YrY h.S h.mx (fsts ls) e h1 F t h2 h3 h4 (fun C hT Fr H0 hf=>YaQ (hk.snd h.1 (Yco hT) hf) ok) (fun x y h=>(eq x).trans h)⟩
abbrev FnE.wi(e:FnE)(F:e.args.c.den->Option e.co.den):FnE:=⟨e.g,e.pf,e.args,e.res,e.os,e.co,F⟩
theorem GS.ir(h:GS P fm pf fs lo)(e:FnE){F:VFn}(Fn:Nat->e.args.c.den->Option e.co.den){ls:(e.args.c.den->Option e.co.den)->LL}(hk: ∀r,Lk lo pf (e.wi r::fs) e.args.os.length (ls r))(t:TieF P fm pf e.g F)(hc:chkF pf false e F=true)
  (h0: ∀x,Fn 0 x=none) (hF:e.F=fun x=>lo.run (fixS Fn) (0,x)) (ok: ∀r,gotC (ls r) F.code=YzV F.code) (eq: ∀n x,evI ⟨pf,e.wi (Fn n)::fs,fsts (ls (Fn n)),e.args.os.length⟩ F e.args e.res e.os e.co x=Fn (n+1) x):GS P fm pf (e::fs) lo:=by
 obtain⟨h1,h2,h3,h4⟩:=YgI hc
 exact⟨h.1,h.2,YrZ h.S h.mx e h1 Fn (fun n=>fsts (ls (Fn n))) F t h2 h3 h4 h0 (fun x y hy=>Yse (h.1 _ _ _ (by rw[hF]at hy;exact hy))) (fun n C hT Fr H0 hf=>YaQ ((hk (Fn n)).snd h.1 (Yco hT) hf) (ok _)) (fun n x y h=>(eq n x).trans h)⟩
end
end Go.Abs
namespace Go.Abs
open Go Go.RowKit Go.Shelf Go.Proofs Go.Lib
structure InsL(P:Program)(ρ:Ren)(z:List Value):Prop where
 mixed:P.follows .mixedOrders=true
 f22:Bears P (ρ.f 22) (Body2.n22 ρ)
 f29: ∃fn:Func,P.funcs[ρ.f 29]?=some fn/\ (fn.name== "runtime.NumGoroutine")=false/\fn.body.isNone=true/\Extern.findNext fn=none/\Extern.find fn=some (Extern.SlicesOverlaps.overlaps #[(ρ.t 24),(ρ.t 24)] #[(ρ.t 4)])
 t0:P.underlying (ρ.t 0)=some (TypeDesc.tuple #[])
 t3:P.underlying (ρ.t 3)=some (TypeDesc.int IntKind.i64)
 t4:P.underlying (ρ.t 4)=some TypeDesc.bool
 t24:P.underlying (ρ.t 24)=some (TypeDesc.slice (ρ.t 9))
 z3:YyB P (ρ.t 3)=some 1
 z4:YyB P (ρ.t 4)=some 1
 z24:YyB P (ρ.t 24)=some 1
 z9:YyQ P (ρ.t 9)=some z
section
variable{P:Program}{ρ:Ren}{z:List Value}
theorem Yex(w:World){t ty e:TypeId}{es:Nat}(hu:P.underlying t=some (.slice e))(hsz:YyB P e=some es){g o dLen dCap:Nat}{cur:Array Value}{bt:TypeId}(hg:w.heap[g]?=some (.cells cur bt (0,0)))
  {a:Addr} {sLen sCap n:Nat} {cs:List Value} (hn:n=Nat.min sLen dLen) (hl:cs.length=n*es) (hsrc: ∀j v,cs[j]?=some v->w.cell? (a.add j)=some v) (hfit:o+cs.length<=cur.size) (h1: ∀v∈cs,v.oneCell'=true):
  (Builtin.copy_ #[t,t] ty #[.slice (some ⟨g,o,none⟩) dLen dCap,.slice (some a) sLen sCap]).run P w= .ok (goInt n) (w.setRow g (cur.toList.take o++cs++cur.toList.drop (o+cs.length)).toArray):=by
 have hfc:=run_firstCells_some (P:=P) w es n a sLen sCap cs hl hsrc
 have hst:=run_storeCells_at P g o bt cs 0 cur w hg (by omega) h1
 simp only[Nat.add_zero]at hst
 simp[Builtin.copy_,run_underlying hu,Builtin.lenOf,Yas hsz,Result.andThen,<-hn,hfc,hst,goInt]
theorem YsL(w:World)(tS tR e:TypeId)(ht:P.underlying tS=some (.slice e)){size:Nat}(hz:YyB P e=some size)(a b:Addr)(la ca lb cb:Nat)(hne:a.block≠b.block){cur cur':Array Value}{bt bt':TypeId}{fr:Nat×Nat}
  (ha:w.heap[a.block]?=some (.cells cur' bt' fr)) (hb:w.heap[b.block]?=some (.cells cur bt (0,0))) (hcz:cur.size≠0) (hcz':cur'.size≠0):
  (Extern.SlicesOverlaps.overlaps #[tS,tS] #[tR] #[.slice (some a) la ca,.slice (some b) lb cb]).run P w= .ok (.bool false) w:=by
 have hnb:(a.block !=b.block)=true:=by simpa using hne
 have hnb':(a.block==b.block)=false:=by simpa using hne
 have hf: ∀o s,w.frozen? ⟨b.block,o,s⟩=false:=fun o s=>by simp[World.frozen?,hb]
 have hf':w.frozen? b=false:=by simp[World.frozen?,hb]
 have hsa:w.shape? a.block=some (bt',cur'.size):=by simp[World.shape?,ha]
 have hsb:w.shape? b.block=some (bt,cur.size):=by simp[World.shape?,hb]
 change Sem.run P (α:=Value) (do
  let some t:=(#[tS,tS]:Array TypeId)[0]?|stuck "slices.overlaps: no parameter types"
  let .slice elem<-underlying t|stuck "slices.overlaps: slice type expected"
  let size<-sizeOf elem
  match(some a:Option Addr),(some b:Option Addr)with
  |some a,some b=>
   if la=0\/lb=0\/size=0 then pure (Value.bool false)
   else if a.block !=b.block&& (<-frozen a)&& (<-frozen b)then unsupported .addressObserved
   else do
    if a.block !=b.block then do
     noView a;noView b
     if<-mayBeOne a b then return Value.bool ((<-choose (.extern "sameAddr.stringBytes" 2))==1)
    pure (Value.bool (a.block==b.block&&a.off<b.off+lb*size&&b.off<a.off+la*size))
  |_,_=>pure (Value.bool false)) w=_
 by_cases h0:la=0\/lb=0\/size=0
 ·simp[run_underlying ht,Yas hz,h0]
 ·obtain⟨kB,hk⟩: ∃k,cur.size=k+1:=⟨cur.size-1,by omega⟩
  obtain⟨kA,hk'⟩: ∃k,cur'.size=k+1:=⟨cur'.size-1,by omega⟩
  rw[hk]at hsb
  rw[hk']at hsa
  cases hfa:w.frozen? a<;>cases hfe:w.frozen? {block:=a.block,off:=kA+1}<;>
   simp[run_underlying ht,Yas hz,h0,hnb,hnb',frozen,noView,viewAt,mayBeOne,stringish,shape,Sem.run,hsa,hsb,hf,hf',hfa,hfe]
theorem YgJ(L:InsL P ρ z){base:Option Addr}{n c m vc:Nat}{v:Option Addr}{w w1:World}{x:Value}(hm:0<m)(hnc:n<=c)(hc63:c<=9223372036854775807)(hn0:base=none->n=0/\c=0)
  (hrun:(Builtin.append_ #[(ρ.t 24),(ρ.t 24)] (ρ.t 24) #[.slice base n c,.slice v m vc]).run P w= .ok x w1):
  Calls P (ρ.f 22) #[.slice base n c,.int .i64 n,.slice v m vc] w fun e w'=>e= .returned x/\w'=w1:=by
 have t0:=L.t0;have t3:=L.t3;have t4:=L.t4;have t24:=L.t24;have mixed:=L.mixed
 have u0:=run_underlying L.t0;have u3:=run_underlying L.t3;have u4:=run_underlying L.t4;have u24:=run_underlying L.t24
 obtain⟨i0,z0,hi,hz,hzc,hzs,hil,hz0,hzm,hby,hz1⟩:=YaH L.z9
 have hsz:YyB P (ρ.t 9)=some i0.size:=by simp[YyB,hi]
 have z9: ∀w,(Go.sizeOf (ρ.t 9)).run P w= .ok i0.size w:=Yas hsz
 have hz1: ¬ ((m:Int)=0):=by omega
 obtain⟨nm,hnm,F22⟩:=L.f22
 go_enter F22,Body2.n22_ntmps ρ
 cases base with
 |none=>
  obtain⟨rfl,rfl⟩:=hn0 rfl
  go_wp2_with (at_builtin;refine Lib.wpList_append_run _ rfl _ _ _ _ rfl _ _ rfl rfl _ _ hrun ?_)
  go_ret
  exact⟨rfl,rfl⟩
 |some a=>
  obtain⟨ab,ao,asp⟩:=a
  go_wp2_with (at_builtin;refine Lib.wpList_append_run _ rfl _ _ _ _ rfl _ _ rfl rfl _ _ hrun ?_)
  all_goals(go_ret;exact⟨rfl,rfl⟩)
theorem YsM(L:InsL P ρ z){g n c i m vb vo vc:Nat}{cur cur':Array Value}{bt bt':TypeId}{fr:Nat×Nat}{news:List Value}(w:World)(hi:i<n)(hm:0<m)(hroom:n+m<=c)(hc63:c<=9223372036854775807)(hvb:vb≠g)
  (hg:w.heap[g]?=some (.cells cur bt (0,0))) (hcs:cur.size=c*z.length) (hv:w.heap[vb]?=some (.cells cur' bt' fr)) (hv0:cur'.size≠0) (hnl:news.length=m*z.length) (hnc: ∀j v,news[j]?=some v->w.cell? ⟨vb,vo+j,none⟩=some v)
  (h1: ∀v∈news,v.oneCell'=true) (h1c: ∀v∈ (cur.toList.take (n*z.length)).drop (i*z.length),v.oneCell'=true):
  Calls P (ρ.f 22) #[.slice (some ⟨g,0,none⟩) n c,.int .i64 i,.slice (some ⟨vb,vo,none⟩) m vc] w fun e w'=>e= .returned (.slice (some ⟨g,0,none⟩) (n+m) c)/\
   ∃cur1 cur2,cur1=(cur.toList.take ((i+m)*z.length)++(cur.toList.take (n*z.length)).drop (i*z.length)++cur.toList.drop ((i+m)*z.length+(n-i)*z.length)).toArray/\
    cur2=(cur1.toList.take (i*z.length)++news++cur1.toList.drop (i*z.length+m*z.length)).toArray/\w'=(w.drew.setRow g cur1).setRow g cur2:=by
 have t0:=L.t0;have t3:=L.t3;have t4:=L.t4;have t24:=L.t24;have mixed:=L.mixed
 have u0:=run_underlying L.t0;have u3:=run_underlying L.t3;have u4:=run_underlying L.t4;have u24:=run_underlying L.t24
 obtain⟨i0,z0,hi0,hz,hzc,hzs,hil,hz0,hzm,hby,hz1⟩:=YaH L.z9
 have hsz:YyB P (ρ.t 9)=some z.length:=by simp[YyB,hi0,hil]
 have z9: ∀w,(Go.sizeOf (ρ.t 9)).run P w= .ok z.length w:=Yas hsz
 generalize hes:z.length=es at*
 have hz1: ¬ ((m:Int)=0):=by omega
 have hz2: ¬ ((i:Int)=(n:Int)):=by omega
 have hin:i<=n:=by omega
 have hnes:(i+m)*es+(n-i)*es=(n+m)*es:=by rw[<-YCS];congr 1;omega
 have hce:(n+m)*es<=c*es:=YCO _ hroom
 have hie:i*es<=n*es:=YCO _ hin
 have hnm:n*es<=(n+m)*es:=YCO _ (by omega)
 have hdl:((cur.toList.take (n*es)).drop (i*es)).length=(n-i)*es:=by simp[Nat.sub_mul];omega
 have hc0:cur.size≠0:=by
  have:0< (n+m)*es:=Nat.mul_pos (by omega) (by omega)
  omega
 have hov: ∀lb cb,(callFunc (ρ.f 29) #[.slice (some ⟨vb,vo,none⟩) m vc,.slice (some ⟨g,(i+m)*es,none⟩) lb cb]).run P w= .ok (.value (.bool false)) w:=fun lb cb=>by
  obtain⟨fn9,o1,o2,o3,o4,o5⟩:=L.f29
  rw[run_callFunc_extern o1 o2 o3 o4 (e:=Extern.SlicesOverlaps.overlaps #[(ρ.t 24),(ρ.t 24)] #[(ρ.t 4)]) o5,
   YsL w (ρ.t 24) (ρ.t 4) (ρ.t 9) L.t24 hsz ⟨vb,vo,none⟩ ⟨g,(i+m)*es,none⟩ m vc lb cb hvb hv hg hc0 hv0]
  rfl
 have hw1:IntKind.i64.wrap ((i:Int)+(m:Int))=(i:Int)+(m:Int):=by rw[IntKind.wrap_i64];omega
 have hb1:(0:Int)<=(i:Int)+(m:Int):=by omega
 have htn:((i:Int)+(m:Int)).toNat=i+m:=by omega
 have hb2: ¬ (c=i+m):=by omega
 have hb3:(i:Int)<=(n:Int)+(m:Int):=by omega
 have hb4: ¬ (c=i):=by omega
 have hgd:w.drew.heap[g]?=some (.cells cur bt (0,0)):=hg
 obtain⟨cur1,hcur1⟩: ∃cur1,cur1=(cur.toList.take ((i+m)*es)++(cur.toList.take (n*es)).drop (i*es)++cur.toList.drop ((i+m)*es+(n-i)*es)).toArray:=⟨_,rfl⟩
 have hcp1: ∀ty dc sc,(Builtin.copy_ #[(ρ.t 24),(ρ.t 24)] ty #[.slice (some ⟨g,(i+m)*es,none⟩) (n+m-(i+m)) dc,.slice (some ⟨g,i*es,none⟩) (n+m-i) sc]).run P w.drew= .ok (goInt ((n-i:Nat):Int)) (w.drew.setRow g cur1):=fun ty dc sc=>by
  rw[hcur1,<-hdl]
  exact Yex w.drew L.t24 hsz hgd (o:=(i+m)*es) (n:=n-i) (sLen:=n+m-i) (dLen:=n+m-(i+m)) (by simp only[Nat.min_def];split<;>omega) hdl (fun j v hj=>by
   rw[Addr.add_lit,cell_of_row _ _ _ _ _ _ hgd]
   rw[YCw,YCn]at hj
   split at hj
   ·simpa using hj
   ·cases hj) (by omega) h1c
 have hs1:cur1.size=cur.size:=by
  rw[hcur1]
  simp only[List.size_toArray,YCm,hdl,List.length_take,List.length_drop,YDd]
  omega
 have hg1:(w.drew.setRow g cur1).heap[g]?=some (.cells cur1 bt (0,0)):=setRow_heap w.drew g cur cur1 bt (0,0) hgd
 obtain⟨cur2,hcur2⟩: ∃cur2,cur2=(cur1.toList.take (i*es)++news++cur1.toList.drop (i*es+m*es)).toArray:=⟨_,rfl⟩
 have hcp2: ∀ty dc,(Builtin.copy_ #[(ρ.t 24),(ρ.t 24)] ty #[.slice (some ⟨g,i*es,none⟩) (n+m-i) dc,.slice (some ⟨vb,vo,none⟩) m vc]).run P (w.drew.setRow g cur1)= .ok (goInt m) ((w.drew.setRow g cur1).setRow g cur2):=fun ty dc=>by
  rw[hcur2,<-hnl]
  exact Yex _ L.t24 hsz hg1 (o:=i*es) (n:=m) (sLen:=m) (dLen:=n+m-i) (by simp only[Nat.min_def];split<;>omega) hnl (fun j v hj=>by
   rw[Addr.add_lit,World.cell?_of_block (setRow_other w.drew g vb cur1 hvb)]
   exact hnc j v hj) (by rw[hnl,hs1,<-YCS];have:(i+m)*es<=(n+m)*es:=YCO _ (by omega);omega) h1
 have key:Calls P (ρ.f 22) #[.slice (some ⟨g,0,none⟩) n c,.int .i64 i,.slice (some ⟨vb,vo,none⟩) m vc] w fun e w'=>e= .returned (.slice (some ⟨g,0,none⟩) (n+m) c)/\w'=(w.drew.setRow g cur1).setRow g cur2:=by
  clear hcur1 hcur2
  obtain⟨nm,hnm,F22⟩:=L.f22
  go_enter F22,Body2.n22_ntmps ρ
  go_wp2_with (simp only[hov])
  go_region_law_o (refine step_copy_runI rfl _ _ (ρ.t 24) (ρ.t 24) rfl _ _ (by simp[Act.eval,Act.put]) (by simp[Act.eval,Act.put]) (hcp1 _ _ _) ?_)
  go_wp2_with (at_builtin;refine wpList_copy_runI _ rfl _ _ (ρ.t 24) (ρ.t 24) rfl _ _ rfl rfl (hcp2 _ _) ?_)
  go_ret
  exact⟨rfl,rfl⟩
 exact key.mono fun e w' h=>⟨h.1,cur1,cur2,hcur1,hcur2,h.2⟩
theorem YsN(L:InsL P ρ z){z0:Value}{i0:TypeInfo}(hi0:P.info? (ρ.t 9)=some i0)(hz:i0.zero=some z0){g n c i m vb vo vc:Nat}{cur cur':Array Value}{bt bt':TypeId}{fr:Nat×Nat}{news:List Value}(w:World)(hi:i<n)(hm:0<m)(hnc':n<=c)(hroom:c<n+m)(hbig:n+m<=maxEl)
  (hg:w.heap[g]?=some (.cells cur bt (0,0))) (hcs:cur.size=c*z.length) (hv:w.heap[vb]?=some (.cells cur' bt' fr)) (hnl:news.length=m*z.length) (hnc: ∀j v,news[j]?=some v->w.cell? ⟨vb,vo+j,none⟩=some v)
  (h1: ∀v∈news,v.oneCell'=true) (h1c: ∀v∈ (cur.toList.take (n*z.length)).drop (i*z.length),v.oneCell'=true):
  Calls P (ρ.f 22) #[.slice (some ⟨g,0,none⟩) n c,.int .i64 i,.slice (some ⟨vb,vo,none⟩) m vc] w fun e w'=>e= .returned (.slice (some ⟨w.heap.size,0,none⟩) (n+m) (grownCap w (n+m) c (ρ.t 9)))/\
   ∃R cur1 cur2,R=(cur.toList.take (i*z.length)).toArray++Builtin.zeroCells z0.cells (n+m-i)++Builtin.zeroCells z0.cells (grownCap w (n+m) c (ρ.t 9)-(n+m))/\
    cur1=(R.toList.take (i*z.length)++news++R.toList.drop (i*z.length+m*z.length)).toArray/\
    cur2=(cur1.toList.take ((i+m)*z.length)++(cur.toList.take (n*z.length)).drop (i*z.length)++cur1.toList.drop ((i+m)*z.length+(n-i)*z.length)).toArray/\
    w'=((w.alloc (.cells R (ρ.t 9))).drew.setRow w.heap.size cur1).drew.setRow w.heap.size cur2:=by
 have t0:=L.t0;have t3:=L.t3;have t4:=L.t4;have t24:=L.t24;have mixed:=L.mixed
 have u0:=run_underlying L.t0;have u3:=run_underlying L.t3;have u4:=run_underlying L.t4;have u24:=run_underlying L.t24
 obtain⟨i0',z0',hi0',hz',hzc,hzs,hil,hz0,hzm,hby,hz1⟩:=YaH L.z9
 rw[hi0]at hi0';injection hi0' with hi0';subst hi0'
 rw[hz]at hz';injection hz' with hz';subst hz'
 have hsz:YyB P (ρ.t 9)=some z.length:=by simp[YyB,hi0,hil]
 have z9: ∀w,(Go.sizeOf (ρ.t 9)).run P w= .ok z.length w:=Yas hsz
 generalize hes:z.length=es at*
 have hz1: ¬ ((m:Int)=0):=by omega
 have hz2: ¬ ((i:Int)=(n:Int)):=by omega
 have hz3:(c:Int)< (n:Int)+(m:Int):=by omega
 have hin:i<=n:=by omega
 have hgs:=(YDa.1 hg).1
 have hvs:=(YDa.1 hv).1
 have hkk:(n:Int)+(m:Int)-(i:Int)=((n+m-i:Nat):Int):=by omega
 have hik:i+(n+m-i)=n+m:=by omega
 have hnes:(i+m)*es+(n-i)*es=(n+m)*es:=by rw[<-YCS];congr 1;omega
 have hie:i*es<=n*es:=YCO _ hin
 have hne:n*es<=c*es:=YCO _ hnc'
 have hime:(i+m)*es<=(n+m)*es:=YCO _ (by omega)
 have hbb:(n+m)*i0.bytes<=140737488355328:=by
  have:=Nat.mul_le_mul hbig hby;simp only[maxEl]at this;omega
 have hdl:((cur.toList.take (n*es)).drop (i*es)).length=(n-i)*es:=by simp[Nat.sub_mul];omega
 have hold:(Builtin.firstCells i0.size i (.slice (some ⟨g,0,none⟩) i c)).run P w.drew= .ok (cur.toList.take (i*es)).toArray w.drew:=by
  rw[hil]
  exact run_firstCells_some w.drew es i ⟨g,0,none⟩ i c _ (by simp;omega) (fun j v hj=>by
   rw[Addr.add_lit,cell_of_row w.drew _ _ _ _ _ hg]
   rw[YCn]at hj
   split at hj
   ·simpa using hj
   ·cases hj)
 have hrz: ∀ty,(Builtin.append_ #[(ρ.t 24),(ρ.t 3)] ty #[.slice (some ⟨g,0,none⟩) i c,.int .i64 ((n:Int)+(m:Int)-(i:Int))]).run P w=
   .ok (.slice (some ⟨w.heap.size,0,none⟩) (n+m) (grownCap w (n+m) c (ρ.t 9))) (w.drew.alloc (.cells ((cur.toList.take (i*es)).toArray++Builtin.zeroCells z0.cells (n+m-i)++Builtin.zeroCells z0.cells (grownCap w (n+m) c (ρ.t 9)-(n+m))) (ρ.t 9))):=fun ty=>by
  have h:=Lib.run_append_grow_zeros w (ρ.t 24) (ρ.t 3) ty (ρ.t 9) i0 _ .i64 .i64 L.t24 L.t3 hi0 hz (some ⟨g,0,none⟩) i c (cur.toList.take (i*es)) hold (n+m-i) (by omega) (by omega) (by omega) (by simp only[maxEl]at hbig;omega) (by have:(n+m-i)*i0.bytes<=(n+m)*i0.bytes:=YCO _ (by omega);omega) (by rw[hik];exact growslice_fits hroom hbb)
  rw[hik]at h
  rw[hkk]
  exact h
 have hGn:n+m<=grownCap w (n+m) c (ρ.t 9):=grownCap_ge w _ _ _
 have hG63:grownCap w (n+m) c (ρ.t 9)<=9223372036854775807:=by
  have:=grownCap_le_maxLen w (n+m) c (ρ.t 9) (by simp only[maxEl]at hbig;unfold maxLen;omega)
  unfold maxLen at this
  omega
 generalize hG:grownCap w (n+m) c (ρ.t 9)=G at*
 obtain⟨R,hR⟩: ∃R,R=(cur.toList.take (i*es)).toArray++Builtin.zeroCells z0.cells (n+m-i)++Builtin.zeroCells z0.cells (G-(n+m)):=⟨_,rfl⟩
 rw[<-hR]at hrz
 have hRs:R.size=G*es:=by
  rw[hR]
  simp only[Array.size_append,List.size_toArray,size_zeroCells,hzs,hil,List.length_take,YDd,hcs]
  rw[Nat.min_eq_left (by omega),<-YCS,<-YCS]
  congr 1;omega
 have hGe:(n+m)*es<=G*es:=YCO _ hGn
 have hGi: ¬ (G=i):=by omega
 have hGim: ¬ (G=i+m):=by omega
 have hci: ¬ (c=i):=by omega
 have hw1:IntKind.i64.wrap ((i:Int)+(m:Int))=(i:Int)+(m:Int):=by rw[IntKind.wrap_i64];simp only[maxEl]at hbig;omega
 have hw2:IntKind.i64.wrap ((n:Int)+(m:Int))=(n:Int)+(m:Int):=by rw[IntKind.wrap_i64];simp only[maxEl]at hbig;omega
 have hw3:IntKind.i64.wrap ((n:Int)+(m:Int)-(i:Int))=(n:Int)+(m:Int)-(i:Int):=by rw[IntKind.wrap_i64];simp only[maxEl]at hbig;omega
 have hb1:(0:Int)<=(i:Int)+(m:Int):=by omega
 have htn:((i:Int)+(m:Int)).toNat=i+m:=by omega
 have hb3:(i:Int)<=(n:Int):=by omega
 obtain⟨cur1,hcur1⟩: ∃cur1,cur1=(R.toList.take (i*es)++news++R.toList.drop (i*es+m*es)).toArray:=⟨_,rfl⟩
 have hie2:i*es+m*es=(i+m)*es:=by rw[YCS]
 have hs1:cur1.size=R.size:=by
  rw[hcur1]
  simp only[List.size_toArray,YCm,hnl,List.length_take,List.length_drop,YDd]
  omega
 have hN:(w.alloc (.cells R (ρ.t 9))).heap[w.heap.size]?=some (.cells R (ρ.t 9) (0,0)):=by
  show(w.heap.push _)[w.heap.size]?=_
  rw[YDb,if_pos rfl]
 have hO: ∀b,b<w.heap.size->(w.alloc (.cells R (ρ.t 9))).heap[b]?=w.heap[b]?:=fun b hb=>by
  show(w.heap.push _)[b]?=_
  rw[YDb,if_neg (by omega)]
 have hcpA: ∀(W:World),W.heap=(w.alloc (.cells R (ρ.t 9))).heap-> ∀ty dc,(Builtin.copy_ #[(ρ.t 24),(ρ.t 24)] ty #[.slice (some ⟨w.heap.size,i*es,none⟩) (n+m-i) dc,.slice (some ⟨vb,vo,none⟩) m vc]).run P W= .ok (goInt m) (W.setRow w.heap.size cur1):=fun W hW ty dc=>by
  rw[hcur1,<-hnl]
  exact Yex W L.t24 hsz (by rw[hW];exact hN) (o:=i*es) (n:=m) (sLen:=m) (dLen:=n+m-i) (by simp only[Nat.min_def];split<;>omega) hnl (fun j v hj=>by
   rw[Addr.add_lit,World.cell?_of_block (w:=w) (by rw[hW];exact hO vb hvs)]
   exact hnc j v hj) (by rw[hnl];omega) h1
 obtain⟨cur2,hcur2⟩: ∃cur2,cur2=(cur1.toList.take ((i+m)*es)++(cur.toList.take (n*es)).drop (i*es)++cur1.toList.drop ((i+m)*es+(n-i)*es)).toArray:=⟨_,rfl⟩
 have hcpB: ∀(W:World),W.heap=((w.alloc (.cells R (ρ.t 9))).setRow w.heap.size cur1).heap-> ∀ty dc sc,(Builtin.copy_ #[(ρ.t 24),(ρ.t 24)] ty #[.slice (some ⟨w.heap.size,(i+m)*es,none⟩) (n+m-(i+m)) dc,.slice (some ⟨g,i*es,none⟩) (n-i) sc]).run P W= .ok (goInt ((n-i:Nat):Int)) (W.setRow w.heap.size cur2):=fun W hW ty dc sc=>by
  rw[hcur2,<-hdl]
  exact Yex W L.t24 hsz (by rw[hW];exact setRow_heap _ _ R cur1 (ρ.t 9) (0,0) hN) (o:=(i+m)*es) (n:=n-i) (sLen:=n-i) (dLen:=n+m-(i+m)) (by simp only[Nat.min_def];split<;>omega) hdl (fun j v hj=>by
   rw[Addr.add_lit,cell_of_row W g _ cur bt (0,0) (by rw[hW,setRow_other _ _ _ _ (by omega),hO g hgs];exact hg)]
   rw[YCw,YCn]at hj
   split at hj
   ·simpa using hj
   ·cases hj) (by omega) h1c
 have key:Calls P (ρ.f 22) #[.slice (some ⟨g,0,none⟩) n c,.int .i64 i,.slice (some ⟨vb,vo,none⟩) m vc] w fun e w'=>e= .returned (.slice (some ⟨w.heap.size,0,none⟩) (n+m) G)/\w'=((w.alloc (.cells R (ρ.t 9))).drew.setRow w.heap.size cur1).drew.setRow w.heap.size cur2:=by
  have hA1:=hcpA (w.alloc (.cells R (ρ.t 9))).drew rfl
  have hB1:=hcpB ((w.alloc (.cells R (ρ.t 9))).drew.setRow w.heap.size cur1) rfl
  have hB2:=hcpB ((w.alloc (.cells R (ρ.t 9))).drew.setRow w.heap.size cur1).drew rfl
  clear hcur1 hcur2 hR hkk hik hold hG hcpA hcpB
  obtain⟨nm,hnm,F22⟩:=L.f22
  go_enter F22,Body2.n22_ntmps ρ
  go_wp2_with (at_builtin;refine Lib.wpList_append_run _ rfl _ _ _ _ rfl _ _ rfl rfl _ _ (hrz _) ?_)
  go_region_law_o (refine step_copy_runI rfl _ _ (ρ.t 24) (ρ.t 24) rfl (.slice (some ⟨w.heap.size,(i+m)*es,none⟩) (n+m-(i+m)) (G-(i+m))) (.slice (some ⟨g,i*es,none⟩) (n-i) (c-i)) (by simp[Act.eval,Act.put]) (by simp[Act.eval,Act.put]) (hB2 (ρ.t 3) (G-(i+m)) (c-i)) ?_)
  go_wp2
  go_ret
  exact⟨rfl,rfl⟩
 exact key.mono fun e w' h=>⟨h.1,R,cur1,cur2,hR,hcur1,hcur2,h.2⟩
end
end Go.Abs
namespace Go.Abs
open Go Go.RowKit Go.Shelf Go.Proofs Go.Lib
section
variable{P:Program}{fm:FM}{ρ:Ren}{z:List Value}{w:World}{Lc:Nat->Loc}
theorem Ylr{es n i:Nat}{cur:Array Value}{el:List (List AV)}{e0:List AV}{news rest:List Value}{L:Nat->Loc}(hn:el.length=n)(hi:i<=n)(hcs:n*es<=cur.size)(hel: ∀e∈el,e.length=es)(he0:e0.length=es)(hnl:news.length=es)
  (h0:RR fm w L es cur el) (hnew: ∀j c,e0[j]?=some c->(news.getD j undef).oneCell'=true/\VR fm w L (news.getD j undef) c) {cur2:Array Value}
  (hcur:cur2.toList=cur.toList.take (i*es)++news++(cur.toList.take (n*es)).drop (i*es)++rest):RR fm w L es cur2 (el.take i++[e0]++el.drop i):=by
 have hie:i*es<=n*es:=YCO _ hi
 have hget: ∀k,cur2.getD k undef=(cur.toList.take (i*es)++(news++((cur.toList.take (n*es)).drop (i*es)++rest))).getD k undef:=by
  intro k
  rw[YC8,<-Array.getElem?_toList,hcur]
  simp[List.getD,YCk]
 have hA:(cur.toList.take (i*es)).length=i*es:=by simp;omega
 have hM:((cur.toList.take (n*es)).drop (i*es)).length=n*es-i*es:=by simp;omega
 intro q e j c hq hj
 have hjl:j<es:=by
  have:e.length=es:=by
   have:=YB8 hq
   simp only[YCD,YCp]at this
   rcases this with(h|h)|h
   ·exact hel e (List.mem_of_mem_take h)
   ·rw[h];exact he0
   ·exact hel e (List.mem_of_mem_drop h)
  rw[<-this];exact(YB6.1 hj).1
 have htl:(el.take i).length=i:=by simp;omega
 by_cases h1:q<i
 ·rw[YCk,YCb (by omega),YCn,if_pos h1]at hq
  have hlt:q*es+j<i*es:=by
   have:(q+1)*es<=i*es:=YCO _ h1
   rw[YCS]at this;omega
  have:=h0 q e j c hq hj
  rw[hget]
  have e1:(cur.toList.take (i*es)++(news++((cur.toList.take (n*es)).drop (i*es)++rest))).getD (q*es+j) undef=cur.getD (q*es+j) undef:=by
   simp only[List.getD]
   rw[YCb (by omega),YCn,if_pos hlt,Array.getElem?_toList,YC8]
  rw[e1];exact this
 ·by_cases h2:q=i
  ·subst h2
   rw[YCk,YCj (by omega),htl,Nat.sub_self]at hq
   injection hq with hq;subst hq
   rw[hget]
   have e1:(cur.toList.take (q*es)++(news++((cur.toList.take (n*es)).drop (q*es)++rest))).getD (q*es+j) undef=news.getD j undef:=by
    simp only[List.getD]
    rw[YCj (by omega),hA,Nat.add_sub_cancel_left,YCb (by omega)]
   rw[e1];exact hnew j c hj
  ·obtain⟨p,rfl⟩: ∃p,q=p+1:=⟨q-1,by omega⟩
   rw[YCj (by simp;omega),YCw]at hq
   have hidx:i+(p+1-(el.take i++[e0]).length)=p:=by simp;omega
   rw[hidx]at hq
   have hpl:p<n:=by rw[<-hn];exact(YB6.1 hq).1
   have hlt:p*es+j<n*es:=by
    have:(p+1)*es<=n*es:=YCO _ hpl
    rw[YCS]at this;omega
   have hge:i*es<=p*es:=YCO _ (by omega)
   have:=h0 p e j c hq hj
   rw[hget]
   have e1:(cur.toList.take (i*es)++(news++((cur.toList.take (n*es)).drop (i*es)++rest))).getD ((p+1)*es+j) undef=cur.getD (p*es+j) undef:=by
    simp only[List.getD]
    have e2:(p+1)*es=p*es+es:=by rw[YCS];omega
    rw[YCj (by omega),hA,YCj (by omega),YCb (by omega),YCw,YCn,if_pos (by omega),Array.getElem?_toList,YC8]
    congr 2;omega
   rw[e1];exact this
theorem YsO{b o:Nat}{v:Value}(h:w.cell? ⟨b,o,none⟩=some v): ∃cur ty fr,w.heap[b]?=some (.cells cur ty fr)/\cur.size≠0:=by
 unfold World.cell? at h
 split at h
 ·rename_i cs ty fr hb
  refine⟨cs,ty,fr,hb,fun h0=> ?_⟩
  have:cs[o]?=some v:=h
  rw[Array.getElem?_eq_none (by omega)]at this;cases this
 ·cases h
theorem Yls{x:Value}{es:Nat}{l:List (List AV)}(h:VR fm w Lc x (.rd es l))(hne:l≠ []):
  ∃(b o c:Nat) (vals:Nat->Nat->Value),x= .slice (some ⟨b,o,none⟩) l.length c/\ ¬YyV Lc b/\
   (∀i j,i<l.length->j<es->w.cell? ⟨b,o+i*es+j,none⟩=some (vals i j)/\ (vals i j).oneCell'=true)/\
   (∀i e j y,l[i]?=some e->e[j]?=some y->VR fm w Lc (vals i j) y):=by
 cases h with
 |rd0 A es c=>exact absurd rfl hne
 |rd b o c es l vals hne hes hes0 hlc hb hbs hc h1 hr=>
  refine⟨b,o,c,vals,rfl,hb,fun i j hi hj=> ?_,hr⟩
  have he:=hes _ (List.getElem_mem hi)
  have hj':=YB7 (show j< (l[i]).length by omega)
  exact⟨hc i _ j _ (YB7 hi) hj',h1 i _ j _ (YB7 hi) hj'⟩
theorem Ylt(w:World)(g:Nat){cur:Array Value}{ty:TypeId}{fr:Nat×Nat}(hg:w.heap[g]?=some (.cells cur ty fr))(a b:Array Value)(k:Nat):((w.setRow g a).setRow g b).heap[k]?=(w.setRow g b).heap[k]?:=by
 by_cases hk:k=g
 ·subst hk
  rw[setRow_heap w k cur b ty fr hg,setRow_heap _ k a b ty fr (setRow_heap w k cur a ty fr hg)]
 ·rw[setRow_other _ _ _ _ hk,setRow_other _ _ _ _ hk,setRow_other _ _ _ _ hk]
theorem YsP(L:InsL P ρ z){h:HF}(hr:HR fm w Lc h){x nid n i:Nat}{el:List (List AV)}{e0:List AV}(hx:h x=some (some ⟨z.length,el⟩))(hnid:h nid=none)(hn:el.length=n)(hi:i<=n)(he0:e0.length=z.length)(hmax:n+1<=maxEl){vals:Array Value}(hsz:vals.size=3)
  (h0:VR fm w Lc (vals.getD 0 undef) (.ref x 0 n)) (h1:VR fm w Lc (vals.getD 1 undef) (.v (.int .i64 i))) (h2:VR fm w Lc (vals.getD 2 undef) (.rd z.length [e0])):
  Calls P (ρ.f 22) vals w fun e w'=> ∃v L',e= .returned v/\Keep Lc w w'/\LStep Lc L' w.heap.size/\HR fm w' L' (appF h nid [.set x none,.push (some ⟨z.length,el.take i++[e0]++el.drop i⟩)])/\VR fm w' L' v (.ref nid 0 (n+1)):=by
 obtain⟨i0,z0,hi0,hz,hzc,hzs,hil,hz0,hzm,hby,hz1⟩:=YaH L.z9
 have hes:0<z.length:=by omega
 have hzs':z0.cells.size=z.length:=by rw[hzs,hil]
 have hv1:=Yaf h1
 obtain⟨vb,vo,vc,vals2,hv2,hvbo,hcells,hvr⟩:=Yls h2 (by simp)
 simp only[YCu]at hv2
 have hxn:x≠nid:=fun e=>by rw[e,hnid]at hx;cases hx
 have hvals: ∀s,vals.getD 0 undef=s->vals= #[s,.int .i64 i,.slice (some ⟨vb,vo,none⟩) 1 vc]:=fun s hs=>by
  apply Array.ext
  ·simp[hsz]
  ·intro k hk1 hk2
   have hk:k<3:=by omega
   match k,hk with
   |0,_=>simp only[YC8,YC9 hk1,YCY]at hs;exact hs
   |1,_=>simp only[YC8,YC9 hk1,YCY]at hv1;exact hv1
   |2,_=>simp only[YC8,YC9 hk1,YCY]at hv2;exact hv2
 obtain⟨f1,f2,f3⟩:=Yfw (w:=w) (b:=vb) (o:=vo) (m:=1) (vals:=vals2) hes (fun i' j hi' hj=>by
  have:i'=0:=by omega
  subst this
  exact hcells 0 j (by simp) hj)
 have hnl:(flat z.length 1 vals2).length=z.length:=by rw[f1];omega
 have hnew: ∀j c,e0[j]?=some c->((flat z.length 1 vals2).getD j undef).oneCell'=true/\VR fm w Lc ((flat z.length 1 vals2).getD j undef) c:=fun j c hj=>by
  have hjl:j<z.length:=by rw[<-he0];exact(YB6.1 hj).1
  have hf:=Yfv (i:=0) (m:=1) (vals:=vals2) (by omega) hjl
  rw[Nat.zero_mul,YCR]at hf
  rw[hf]
  exact⟨(hcells 0 j (by simp) hjl).2,hvr 0 e0 j c rfl hj⟩
 by_cases hin:i=n
 ·
  subst hin
  obtain⟨xv,va,us,w',g1,⟨rfl,rfl⟩,L',g2,g3,g4,g5⟩:=Ydu (ty:=ρ.t 24) L.t24 L.z9 hr hnid h0 h2 (K:=fun v us=>v= .ref nid 0 (i+1)/\us=[.set x none,.push (some ⟨z.length,el++[e0]⟩)]) ⟨_,hx,rfl,hn.symm,rfl,by simp[hn];exact hmax,by simpa using he0,by simp[hn],rfl⟩
  have hel:el.take i++[e0]++el.drop i=el++[e0]:=by rw[List.take_of_length_le (by omega),List.drop_of_length_le (by omega),List.append_nil]
  rw[hel]
  rcases YaN hr hx h0 with⟨g,es',cap,hL,_,hcl,hs0⟩| ⟨A,b,hL,hA,_,hl0,hs0⟩
  ·have hs0':vals.getD 0 undef= .slice (some ⟨g,0,none⟩) i cap:=by rw[hs0];simp
   rw[hs0',hv2]at g1
   rw[hvals _ hs0']
   have hob:=hr.obj x _ hx
   rw[hL]at hob
   obtain⟨_,_,hlc,hcm,_⟩:=hob
   refine(YgJ L (by omega) (by rw[<-hn];exact hlc) (by simp only[maxLen]at hcm;omega) (fun h=>by cases h) g1).mono ?_
   rintro e w'' ⟨rfl,rfl⟩
   exact⟨xv,L',rfl,g2,g3,g4,g5⟩
  ·subst hl0
   rw[hs0,hv2]at g1
   rw[hvals _ hs0]
   refine(YgJ L (by omega) (YCL _) (by omega) (fun _=>⟨rfl,rfl⟩) g1).mono ?_
   rintro e w'' ⟨rfl,rfl⟩
   exact⟨xv,L',rfl,g2,g3,g4,g5⟩
 ·have hin':i<n:=by omega
  obtain⟨g,es',cap,hL,hes',hcl,hs0⟩:=(YaN hr hx h0).resolve_right (fun⟨_,_,_,_,_,h,_⟩=>by omega)
  have hwd:es'=z.length:=hes'.trans (Yay hes)
  subst hwd
  have hs0':vals.getD 0 undef= .slice (some ⟨g,0,none⟩) n cap:=by rw[hs0];simp
  rw[hvals _ hs0']
  have hob:=hr.obj x _ hx
  rw[hL]at hob
  obtain⟨_,_,hlc,hcm,hall,cur,bt,hg,hcs,hrr⟩:=hob
  have hall: ∀e∈el,e.length=z.length:=hall
  have hrr:RR fm w Lc z.length cur el:=hrr
  have hnc:n<=cap:=by rw[<-hn];exact hlc
  have hncs:n*z.length<=cur.size:=by rw[hcs];exact YCO _ hnc
  have hvbg:vb≠g:=fun e=>hvbo (.inl (.inl ⟨x,_,_,e▸hL⟩))
  obtain⟨cur',bt',fr,hvb,hvb0⟩:=YsO (hcells 0 0 (by simp) hes).1
  have hmid1: ∀v∈ (cur.toList.take (n*z.length)).drop (i*z.length),v.oneCell'=true:=fun v hv=>by
   have hv:=List.mem_of_mem_drop hv
   obtain⟨k,hk⟩:=YCh.1 hv
   rw[YCn]at hk
   split at hk
   ·rename_i hkn
    have hq:k/z.length<n:=(Nat.div_lt_iff_lt_mul hes).2 hkn
    have hqe:k/z.length<el.length:=by omega
    have hrl:k % z.length<z.length:=Nat.mod_lt _ hes
    have hel:=hall _ (List.getElem_mem hqe)
    have:=(hrr (k/z.length) el[k/z.length] (k % z.length) (el[k/z.length]'hqe)[k % z.length] (YB7 hqe) (YB7 (by omega))).1
    rw[show k/z.length*z.length+k % z.length=k by rw[Nat.mul_comm];exact Nat.div_add_mod k z.length]at this
    rw[Array.getElem?_toList]at hk
    rw[YC8,hk]at this
    exact this
   ·cases hk
  have hele: ∀e∈el.take i++[e0]++el.drop i,e.length=z.length:=fun e he=>by
   simp only[YCD,YCp]at he
   rcases he with(h|h)|h
   ·exact hall e (List.mem_of_mem_take h)
   ·rw[h];exact he0
   ·exact hall e (List.mem_of_mem_drop h)
  have hlen:(el.take i++[e0]++el.drop i).length=n+1:=by simp;omega
  have hnews: ∀j v,(flat z.length 1 vals2)[j]?=some v->w.cell? ⟨vb,vo+j,none⟩=some v:=fun j v hj=>by
   have:=f2 j v hj
   rwa[Ya3]at this
  have hie:i*z.length<=n*z.length:=YCO _ hi
  have hni:n*z.length-i*z.length=(n-i)*z.length:=(Nat.sub_mul ..).symm
  have hi1:(i+1)*z.length=i*z.length+1*z.length:=by rw[YCS]
  have hn1:(i+1)*z.length+(n-i)*z.length=(n+1)*z.length:=by rw[<-YCS];congr 1;omega
  by_cases hroom:n+1<=cap
  ·refine(YsM L (m:=1) (news:=flat z.length 1 vals2) w hin' (by omega) hroom (by simp only[maxLen]at hcm;omega) hvbg hg hcs hvb hvb0 f1 hnews f3 hmid1).mono ?_
   rintro e w' ⟨rfl,cur1,cur2,hc1,hc2,rfl⟩
   have hce:(n+1)*z.length<=cap*z.length:=YCO _ hroom
   have hcl1:cur1.toList=cur.toList.take ((i+1)*z.length)++(cur.toList.take (n*z.length)).drop (i*z.length)++cur.toList.drop ((i+1)*z.length+(n-i)*z.length):=by rw[hc1]
   have hcl2:cur2.toList=cur.toList.take (i*z.length)++flat z.length 1 vals2++(cur.toList.take (n*z.length)).drop (i*z.length)++cur.toList.drop ((n+1)*z.length):=by
    rw[hc2]
    show cur1.toList.take (i*z.length)++flat z.length 1 vals2++cur1.toList.drop (i*z.length+1*z.length)=_
    have e1:cur1.toList.take (i*z.length)=cur.toList.take (i*z.length):=by
     rw[hcl1,YCk,List.take_append_of_le_length (by simp;omega),List.take_take,Nat.min_eq_left (by omega)]
    have e2:cur1.toList.drop (i*z.length+1*z.length)=(cur.toList.take (n*z.length)).drop (i*z.length)++cur.toList.drop ((n+1)*z.length):=by
     have:(cur.toList.take ((i+1)*z.length)).length=i*z.length+1*z.length:=by simp;omega
     rw[hcl1,YCk,<-this,List.drop_left,hn1]
    rw[e1,e2];simp only[YCk]
   have hs2:cur2.size=cap*z.length:=by
    rw[<-YDd,hcl2]
    simp only[YCm,List.length_take,List.length_drop,YDd,hnl]
    omega
   obtain⟨k1,k2⟩:=YbG (cur':=cur2) (el:=el.take i++[e0]++el.drop i) hr hx hL hg hs2 (by omega) hele (Ylr hn hi hncs hall he0 hnl hrr hnew hcl2)
   have hb:Below (w.setRow g cur2).heap.size (w.setRow g cur2) ((w.drew.setRow g cur1).setRow g cur2):=
    ⟨rfl,rfl,rfl,by simp[World.setRow],fun k _=>Ylt w.drew g hg cur1 cur2 k⟩
   have k3:=k1.trans (LStep.refl _ _) (Ybz hb)
   have k4:=k2.mono (Ybz hb) (fun b hb' _=>hb.block b hb')
   obtain⟨k5,k6⟩:=Yds (a:=x) (nid:=nid) (o:=⟨z.length,el.take i++[e0]++el.drop i⟩) k4 (by simp) (by rw[if_neg (Ne.symm hxn)];exact hnid)
   refine⟨_,fun b=>if b=nid then Lc x else if b=x then .dead else Lc b,rfl,k3,?_,?_,?_⟩
   ·have:((w.drew.setRow g cur1).setRow g cur2).heap.size=w.heap.size:=by simp[World.setRow]
    rw[this]at k5;exact k5
   ·have e1:(fun b=>if b=nid then some (some (⟨z.length,el.take i++[e0]++el.drop i⟩:AObj))else if b=x then some none else if b=x then some (some ⟨z.length,el.take i++[e0]++el.drop i⟩)else h b)=
      appF h nid [.set x none,.push (some ⟨z.length,el.take i++[e0]++el.drop i⟩)]:=by
     funext b;by_cases e1:b=nid<;>by_cases e2:b=x<;>simp[e1,e2,appF,appU]
    rw[<-e1];exact k6
   ·have:=VR.refAt (fm:=fm) (w:=(w.drew.setRow g cur1).setRow g cur2) (L:=fun b=>if b=nid then Lc x else if b=x then .dead else Lc b) g z.length cap nid 0 (n+1) (by simp[hL]) (by omega)
    simpa using this
  ·refine(YsN L hi0 hz (m:=1) (news:=flat z.length 1 vals2) w hin' (by omega) hnc (by omega) hmax hg hcs hvb f1 hnews f3 hmid1).mono ?_
   rintro e w' ⟨rfl,R,cur1,cur2,hR,hc1,hc2,rfl⟩
   have hge:=grownCap_ge w (n+1) cap (ρ.t 9)
   have hle:=grownCap_le_maxLen w (n+1) cap (ρ.t 9) (by simp only[maxEl]at hmax;unfold maxLen;omega)
   generalize hG:grownCap w (n+1) cap (ρ.t 9)=G at hR hge hle⊢
   have hGe:(n+1)*z.length<=G*z.length:=YCO _ hge
   have hRl:R.toList=cur.toList.take (i*z.length)++((Builtin.zeroCells z0.cells (n+1-i)).toList++(Builtin.zeroCells z0.cells (G-(n+1))).toList):=by rw[hR];simp
   have hZ1:(Builtin.zeroCells z0.cells (n+1-i)).size=(n+1-i)*z.length:=by rw[size_zeroCells,hzs']
   have hZ2:(Builtin.zeroCells z0.cells (G-(n+1))).size=(G-(n+1))*z.length:=by rw[size_zeroCells,hzs']
   have hsub1:(n+1-i)*z.length=(n+1)*z.length-i*z.length:=Nat.sub_mul ..
   have hsub2:(G-(n+1))*z.length=G*z.length-(n+1)*z.length:=Nat.sub_mul ..
   have hin1:i*z.length<=(n+1)*z.length:=YCO _ (by omega)
   have hR1:R.size=G*z.length:=by
    rw[<-YDd,hRl]
    simp only[YCm,List.length_take,YDd,hZ1,hZ2]
    omega
   have hcl1:cur1.toList=cur.toList.take (i*z.length)++flat z.length 1 vals2++R.toList.drop (i*z.length+1*z.length):=by
    rw[hc1]
    show R.toList.take (i*z.length)++flat z.length 1 vals2++R.toList.drop (i*z.length+1*z.length)=_
    have e1:R.toList.take (i*z.length)=cur.toList.take (i*z.length):=by
     have:(cur.toList.take (i*z.length)).length=i*z.length:=by simp;omega
     rw[hRl]
     exact List.take_left' this
    rw[e1]
   have hcl2:cur2.toList=cur.toList.take (i*z.length)++flat z.length 1 vals2++(cur.toList.take (n*z.length)).drop (i*z.length)++cur1.toList.drop ((n+1)*z.length):=by
    rw[hc2]
    show cur1.toList.take ((i+1)*z.length)++(cur.toList.take (n*z.length)).drop (i*z.length)++cur1.toList.drop ((i+1)*z.length+(n-i)*z.length)=_
    have e1:cur1.toList.take ((i+1)*z.length)=cur.toList.take (i*z.length)++flat z.length 1 vals2:=by
     have:(cur.toList.take (i*z.length)++flat z.length 1 vals2).length=(i+1)*z.length:=by simp[hnl];omega
     rw[hcl1,<-this,List.take_left]
    rw[e1,hn1]
   have hs1:cur1.size=G*z.length:=by
    rw[<-YDd,hcl1]
    simp only[YCm,List.length_take,List.length_drop,YDd,hnl,hR1]
    omega
   have hs2:cur2.size=G*z.length:=by
    rw[<-YDd,hcl2]
    simp only[YCm,List.length_take,List.length_drop,YDd,hnl,hs1]
    omega
   obtain⟨k1,k2⟩:=Ybm hr x w.heap.size (fun g' e=>by rw[hL]at e;cases e)
   have hheap:(((w.alloc (.cells R (ρ.t 9))).drew.setRow w.heap.size cur1).drew.setRow w.heap.size cur2).heap=w.heap.push (.cells cur2 (ρ.t 9) (0,0)):=by
    have hN:(w.alloc (.cells R (ρ.t 9))).heap[w.heap.size]?=some (.cells R (ρ.t 9) (0,0)):=by
     show(w.heap.push _)[w.heap.size]?=_
     rw[YDb,if_pos rfl]
    apply Array.ext_getElem?
    intro k
    have e1:=Ylt (w.alloc (.cells R (ρ.t 9))) w.heap.size hN cur1 cur2 k
    refine e1.trans ?_
    by_cases hk:k=w.heap.size
    ·subst hk
     rw[setRow_heap _ _ R cur2 (ρ.t 9) (0,0) hN,YDb,if_pos rfl]
    ·rw[setRow_other _ _ _ _ hk]
     show(w.heap.push _)[k]?=_
     rw[YDb,YDb,if_neg hk,if_neg hk]
   obtain⟨q1,q2,q3⟩:=Ydr (w':=((w.alloc (.cells R (ρ.t 9))).drew.setRow w.heap.size cur1).drew.setRow w.heap.size cur2) (cap:=G) (el:=el.take i++[e0]++el.drop i) k2 (nid:=nid) (by rw[if_neg (Ne.symm hxn)];exact hnid) hheap rfl rfl rfl hes (by omega) hle hele hs2
    (fun q e j c h3 h4=>by
     have:=Ylr hn hi hncs hall he0 hnl hrr hnew hcl2 q e j c h3 h4
     exact⟨this.1,this.2.mono (Keep.refl _ _) k1⟩)
   refine⟨_,fun a=>if a=nid then .cells w.heap.size z.length G else if a=x then .dead else Lc a,rfl,(Keep.refl Lc w).trans k1 q1,k1.trans q2,?_,?_⟩
   ·have e1:appU (fun b=>if b=x then some none else h b) nid (.push (some ⟨z.length,el.take i++[e0]++el.drop i⟩))=appF h nid [.set x none,.push (some ⟨z.length,el.take i++[e0]++el.drop i⟩)]:=by
     funext b;by_cases e1:b=nid<;>by_cases e2:b=x<;>simp[e1,e2,appF,appU]
    rw[<-e1];exact q3
   ·have:=VR.refAt (fm:=fm) (w:=((w.alloc (.cells R (ρ.t 9))).drew.setRow w.heap.size cur1).drew.setRow w.heap.size cur2) (L:=fun a=>if a=nid then .cells w.heap.size z.length G else if a=x then .dead else Lc a) w.heap.size z.length G nid 0 (n+1) (by simp) (by omega)
    simpa using this
end
def YA1{α:Type}(x:Int× (List α×List α)):Option (List α):=
 bif decide (0<=x.1)&& (YCN x.1.toNat x.2.2.length&& (YCJ x.2.1.length 1&&YCK x.2.2.length maxEl))then some (x.2.2.take x.1.toNat++(x.2.1++x.2.2.drop x.1.toNat))else none
abbrev YAK(c:Cs):Cs:=.cons (.i .i64) (.cons (.l c) (.cons (.l c) .nil))
def vinsE(g:Nat)(c:Cs):FnE:=⟨g,false,⟨[0,1,2],[.ref 0,.i .i64,.l c],[.sq c],YAK c⟩,.ref 1,[.dd,.sq c],.cons (.l c) .nil,fun x=>YA1 (α:=c.den) x⟩
theorem YsQ{c:Cs}{x:Int× (List c.den×List c.den)}{ys:List c.den}{vs:List TV}{Xs X2:Yyu}{v:TV}{l:List Lf}(hfill:Sg.fill ⟨[0,1,2],[.ref 0,.i .i64,.l c],[.sq c],YAK c⟩ x=some ⟨zipE [0,1,2] vs,Xs⟩)(hlen:vs.length=3)
  (e5:YyD (.ref 1) (unp (.cons (.l c) .nil) ys)=some (v,l)) (e6:YyC [.dd,.sq c] l=some (X2,[])):vs=[.ref 0,.i .i64 x.1,.l c x.2.1]/\Xs=[some (.sq c x.2.2)]/\v= .ref 1/\X2=[none,some (.sq c ys)]:=by
 obtain⟨i,n,xs⟩:=x
 have hu:unp (YAK c) (i,n,xs)=[⟨.i .i64,i⟩,⟨.l c,n⟩,⟨.l c,xs⟩]:=rfl
 have hu2: ∀z:List c.den,unp (.cons (.l c) .nil) z=[⟨.l c,z⟩]:=fun z=>rfl
 have e1:YyD (.l c) [⟨.l c,n⟩,⟨.l c,xs⟩]=some (.l c n,[⟨.l c,xs⟩]):=by
  show(match asL c c n with|some v=>some (TV.l c v,[(⟨.l c,xs⟩:Lf)])|none=>none)=_
  rw[YaP]
 have e2:YyG [.l c] [⟨.l c,n⟩,⟨.l c,xs⟩]=some ([.l c n],[⟨.l c,xs⟩]):=by
  unfold YyG;rw[e1];rfl
 have e3:YyG [.ref 0,.i .i64,.l c] [⟨.i .i64,i⟩,⟨.l c,n⟩,⟨.l c,xs⟩]=some ([.ref 0,.i .i64 i,.l c n],[⟨.l c,xs⟩]):=by
  show(match(match YyG [.l c] [⟨.l c,n⟩,⟨.l c,xs⟩]with|some (xs,r)=>some (TV.i .i64 i::xs,r)|none=>none)with|some (xs,r)=>some (TV.ref 0::xs,r)|none=>none)=_
  rw[e2]
 have e4:YyC [.sq c] [⟨.l c,xs⟩]=some ([some (.sq c xs)],[]):=by
  show(match(match asL c c xs with|some v=>some (VObj.sq c v,([]:List Lf))|none=>none)with|some (x,r)=>some ([some x],r)|none=>none)=_
  rw[YaP]
 have hf:Sg.fill ⟨[0,1,2],[.ref 0,.i .i64,.l c],[.sq c],YAK c⟩ (i,n,xs)=some ⟨zipE [0,1,2] [.ref 0,.i .i64 i,.l c n],[some (.sq c xs)]⟩:=by
  unfold Sg.fill
  show(match YyG [.ref 0,.i .i64,.l c] (unp (YAK c) (i,n,xs))with|some (vs,r)=>(match YyC [.sq c] r with|some (X,[])=>some (⟨zipE [0,1,2] vs,X⟩:VSt)|_=>none)|none=>none)=_
  rw[hu,e3]
  show(match YyC [.sq c] [⟨.l c,xs⟩]with|some (X,[])=>some (⟨zipE [0,1,2] [.ref 0,.i .i64 i,.l c n],X⟩:VSt)|_=>none)=_
  rw[e4]
 have hfill:=hf.symm.trans hfill
 injection hfill with hfill;injection hfill with hz hX
 match vs,hlen with
 | [v0,v1,v2],_=>
   simp only[zipE,List.cons.injEq,Prod.mk.injEq,and_true,true_and]at hz
   simp only[hu2,YyD,Option.some.injEq,Prod.mk.injEq]at e5
   obtain⟨rfl,rfl⟩:=e5
   simp only[YyC,Yy9,YaP,Option.some.injEq,Prod.mk.injEq,and_true]at e6
   simp_all
theorem YsR{P:Program}{fm:FM}{ρ:Ren}{z:List Value}(L:InsL P ρ z){c:Cs}(hzl:z.length=c.width){i:Int}{v0:c.den}{xs:List c.den}(h0:0<=i)(hi:i.toNat<=xs.length)(hmax:xs.length+1<=maxEl)
  {pls:Pl} {Kp:Nat->Prop} {H:Heap} {args:List AV} (hct:CT [some (.sq c xs)] pls [.ref 0,.i .i64 i,.l c [v0]] args) (hrs:HRel Kp H [some (.sq c xs)] pls H) (hfr:FrOK Kp H)
  {w:World} {Lc:Nat->Loc} {vals:Array Value} (hr:HR fm w Lc (hf H)) (hsz:vals.size=args.length) (hv: ∀j a,args[j]?=some a->VR fm w Lc (vals.getD j undef) a) {X2:Yyu} (hX2:X2=[none,some (.sq c (xs.take i.toNat++([v0]++xs.drop i.toNat)))]):
  Calls P (ρ.f 22) vals w fun e w'=> ∃v L',e= .returned v/\Keep Lc w w'/\LStep Lc L' w.heap.size/\HR fm w' L' (hf (YyW Kp H 1 X2 (plI pls 1 H.length X2)))/\VR fm w' L' v (encT X2 (plI pls 1 H.length X2) (.ref 1)):=by
 subst hX2
 obtain⟨m,rfl⟩: ∃m:Nat,i=m:=⟨i.toNat,by omega⟩
 rw[YC7]at hi⊢
 obtain⟨a0,ra,rfl,ha0,hra⟩:=hct.inv
 obtain⟨a1,rb,rfl,ha1,hrb⟩:=hra.inv
 obtain⟨a2,rc,rfl,ha2,hrc⟩:=hrb.inv
 have hrc0:rc=[]:=YCi.1 hrc.1.symm
 subst hrc0
 have e1:a1= .v (.int .i64 m):=by cases ha1;rfl
 subst e1
 have hget0:vget [some (VObj.sq c xs)] 0=some (.sq c xs):=rfl
 obtain⟨x,el,g1,g2,g3,g4⟩:=hrs.obj 0 _ hget0
 have ha0':a0= .ref x 0 xs.length:=by
  cases ha0 with
  |ref a x' o n h hn hp=>
   rw[hget0]at h;injection h with h;subst h
   rw[g1]at hp;injection hp with hp;subst hp
   simp only[lenO]at hn;simp_all
  |refD a av h ha=>cases h
 subst ha0'
 have ha2':Coe a2 (.rd c.width [c.enc v0]):=by cases ha2 with|l c v a h=>exact h
 have hcw:(c.enc v0).length=c.width:=Yav c v0
 have hell: ∀e∈el,e.length=c.width:=Ybs g4
 have hxl:x<H.length:=(YB6.1 g2).1
 have h2v:=Yb2 ha2' (hv 2 a2 rfl)
 have hg4:=g4.1
 refine(YsP L hr (x:=x) (nid:=H.length) (n:=xs.length) (i:=m) (el:=el) (e0:=c.enc v0) (vals:=vals) (by show H[x]?=_;rw[g2,hzl]) (by simp[hf]) hg4 hi (by rw[hcw,hzl]) hmax (by simpa using hsz) (hv 0 _ rfl) (hv 1 _ rfl) (by rw[hzl];exact h2v)).mono ?_
 rintro e w' ⟨v,L1,rfl,k1,k2,k3,k4⟩
 have hH:appF (hf H) H.length [.set x none,.push (some ⟨z.length,el.take m++[c.enc v0]++el.drop m⟩)]=hf (H.set x none++[some ⟨c.width,el.take m++[c.enc v0]++el.drop m⟩]):=by
  simp only[appF]
  rw[Yb4 (by show H[x]?≠none;rw[g2];simp),hzl]
  have:=hf_push (H:=H.set x none) (o:=some ⟨c.width,el.take m++[c.enc v0]++el.drop m⟩)
  rw[YCt]at this
  exact this
 rw[hH]at k3
 obtain⟨q1,_⟩:=YbN hrs hget0 g1
 have hrows:Rows (el.take m++[c.enc v0]++el.drop m) c (xs.take m++([v0]++xs.drop m)):=by
  rw[<-YCk]
  refine Ybi (Ybi ⟨by simp;omega,fun q e v k1 k2=> ?_⟩ (Rows.cons (by exact⟨rfl,fun j y y' h1 h2=>by rw[h1]at h2;injection h2 with h2;subst h2;exact .refl _⟩) (Rows.none c))) ⟨by simp;omega,fun q e v k1 k2=> ?_⟩
  ·rw[YCn]at k1 k2
   split at k1
   ·rename_i hq;rw[if_pos hq]at k2;exact g4.2 q e v k1 k2
   ·cases k1
  ·rw[YCw]at k1 k2
   exact g4.2 _ e v k1 k2
 have hvs:vset [some (VObj.sq c xs)] 0 none=[none]:=rfl
 rw[hvs]at q1
 obtain⟨q2,_⟩:=Yap q1 (.sq c (xs.take m++([v0]++xs.drop m))) ⟨c.width,el.take m++[c.enc v0]++el.drop m⟩ (fun _=>⟨(H.set x none).length,el.take m++[c.enc v0]++el.drop m,by rfl,by simp,g3,hrows⟩)
 have ht:TR ([none]++[some (VObj.sq c (xs.take m++([v0]++xs.drop m)))]) (plS (plK pls 0) (.m [(none:Option VObj)].length) (some (H.set x none).length)) (.ref 1) (.ref H.length 0 (xs.length+1)):=by
  refine .ref 1 H.length (.sq c (xs.take m++([v0]++xs.drop m))) _ rfl ?_ ?_
  ·simp only[lenO,YCm,List.length_take,List.length_drop,YCu];congr 1;omega
  ·simp[plS]
 have hren:renX ([none]++[some (VObj.sq c (xs.take m++([v0]++xs.drop m)))]) (List.range 2)=[none,some (VObj.sq c (xs.take m++([v0]++xs.drop m)))]:=rfl
 have hfin:=Yby (Xs:=[some (.sq c xs)]) (pls:=pls) (Xh:=[none]++[some (.sq c (xs.take m++([v0]++xs.drop m)))]) (v:=.ref 1) (m:=List.range 2) (s:=⟨[],H.set x none++[some ⟨c.width,el.take m++[c.enc v0]++el.drop m⟩],H.length⟩) hrs hfr q2 rfl (by simp) (fun i hi y hy=>by
   simp only[YCu]at hi
   have:i=0:=by omega
   subst this
   simp[plS,plK,Pos.of]at hy) List.nodup_range ⟨[1],rfl⟩ ht rfl (by
   rw[hren]
   simp[wfX,YCK];exact g3)
 rw[hren]at hfin
 obtain⟨L2,f1,f2,f3⟩:=hfin fm w' L1 v k3 k4
 refine⟨v,L2,rfl,k1,f1 Lc w.heap.size (fun b hb=> ?_) k2,f2,f3⟩
 apply Classical.byContradiction
 intro hlt
 exact hb ((hr.fresh b).2 (YCs (by simp_all)))
theorem YsS{P:Program}{fm:FM}{T:Tabs}(hS:YyP P fm T){g:Nat}(c:Cs)(hp:T.pf g=false)
  (hG: ∀f,fm f=g->Yyw P f=true/\ ∃(ρ:Ren) (z:List Value),InsL P ρ z/\z.length=c.width/\ρ.f 22=f):YyP P fm ⟨T.pf,vinsE g c::T.fs,T.ls,0⟩:=by
 obtain⟨C,hC,hT⟩:=hS
 have hpC:C.pf g=true->Pure (vinsE g c).RI:=fun h=>by rw[hT.p.pf,hp]at h;cases h
 refine⟨Yy3 C g (vinsE g c).RI,Ya0 hC hpC (fun f hf=> ?_),Ya1 (e:=vinsE g c) hT (fun h=>by rw[show(vinsE g c).g=g from rfl,hp]at h;cases h) (fun _ _ _ _ _ h=>h)⟩
 rintro args H r H' ⟨x,y,vs,Xs,pls,Kp,v,l,X2,h1,h2,h3,hct,hrs,hfr,hall,h5,h6,h7,h8,h9,h10,rfl,rfl⟩
 obtain⟨hcal,ρ,z,K,hz,rfl⟩:=hG f hf
 refine⟨hcal,fun w Lc vals hr hsz hv=> ?_⟩
 have hl:vs.length=3:=Ycp h2
 obtain⟨rfl,rfl,rfl,rfl⟩:=YsQ (c:=c) (x:=x) (ys:=y) (YaK h2) hl h5 h6
 obtain⟨q1,q2⟩:=Yaa (show YA1 (α:=c.den) x=some y from h1)
 injection q2 with q2;subst q2
 simp only[YC3,decide_eq_true_eq]at q1
 obtain⟨q1,q2,q3,q4⟩:=q1
 obtain⟨i,n,xs⟩:=x
 obtain⟨v0,rfl⟩: ∃v0,n=[v0]:=List.length_eq_one_iff.1 (YCM q3)
 exact YsR K hz q1 (YCU q2) (YCU q4) hct hrs hfr hr hsz hv rfl
theorem YsT{P:Program}{fm:FM}{ρ:Ren}{z:List Value}{w:World}{Lc:Nat->Loc}(L:InsL P ρ z){h:HF}(hr:HR fm w Lc h){nid:Nat}{e0:List AV}(hnid:h nid=none)(he0:e0.length=z.length){vals:Array Value}(hsz:vals.size=3)
  (h0:VR fm w Lc (vals.getD 0 undef) .emp) (h1:VR fm w Lc (vals.getD 1 undef) (.v (.int .i64 0))) (h2:VR fm w Lc (vals.getD 2 undef) (.rd z.length [e0])):
  Calls P (ρ.f 22) vals w fun e w'=> ∃v L',e= .returned v/\Keep Lc w w'/\LStep Lc L' w.heap.size/\HR fm w' L' (appF h nid [.push (some ⟨z.length,[e0]⟩)])/\VR fm w' L' v (.ref nid 0 1):=by
 obtain⟨i0,z0,hi0,hz,hzc,hzs,hil,hz0,hzm,hby,hz1⟩:=YaH L.z9
 have hes:0<z.length:=by omega
 have hv1:=Yaf h1
 obtain⟨vb,vo,vc,vals2,hv2,hvbo,hcells,hvr⟩:=Yls h2 (by simp)
 simp only[YCu]at hv2
 obtain⟨A,hA⟩: ∃A,vals.getD 0 undef= .slice A 0 0:=by
  generalize vals.getD 0 undef=x at h0
  cases h0 with
  |emp A=>exact⟨A,rfl⟩
 have hvals:vals= #[.slice A 0 0,.int .i64 (0:Nat),.slice (some ⟨vb,vo,none⟩) 1 vc]:=by
  apply Array.ext
  ·simp[hsz]
  ·intro k hk1 hk2
   have hk:k<3:=by omega
   match k,hk with
   |0,_=>simp only[YC8,YC9 hk1,YCY]at hA;exact hA
   |1,_=>simp only[YC8,YC9 hk1,YCY]at hv1;exact hv1
   |2,_=>simp only[YC8,YC9 hk1,YCY]at hv2;exact hv2
 obtain⟨xv,va,us,w',g1,⟨rfl,rfl⟩,L',g2,g3,g4,g5⟩:=Ydu (ty:=ρ.t 24) L.t24 L.z9 hr hnid h0 h2 (K:=fun v us=>v= .ref nid 0 1/\us=[.push (some ⟨z.length,[e0]⟩)]) ⟨by simp[maxEl],by simpa using he0,fun h=>by omega,rfl,rfl⟩
 rw[hA,hv2]at g1
 rw[hvals]
 refine(YgJ L (n:=0) (by omega) (YCL _) (by omega) (fun _=>⟨rfl,rfl⟩) g1).mono ?_
 rintro e w'' ⟨rfl,rfl⟩
 exact⟨xv,L',rfl,g2,g3,g4,g5⟩
abbrev Yz7(c:Cs):Cs:=.cons (.i .i64) (.cons (.l c) .nil)
def Yz8{α:Type}(x:Int×List α):Option (List α):=bif decide (x.1=0)&&YCJ x.2.length 1 then some x.2 else none
def vinsNE(g:Nat)(c:Cs):FnE:=⟨g,false,⟨[0,1,2],[.e c,.i .i64,.l c],[],Yz7 c⟩,.ref 0,[.sq c],.cons (.l c) .nil,fun x=>Yz8 (α:=c.den) x⟩
theorem YsU{c:Cs}{x:Int×List c.den}{ys:List c.den}{vs:List TV}{Xs X2:Yyu}{v:TV}{l:List Lf}(hfill:Sg.fill ⟨[0,1,2],[.e c,.i .i64,.l c],[],Yz7 c⟩ x=some ⟨zipE [0,1,2] vs,Xs⟩)(hlen:vs.length=3)
  (e5:YyD (.ref 0) (unp (.cons (.l c) .nil) ys)=some (v,l)) (e6:YyC [.sq c] l=some (X2,[])):vs=[.e c,.i .i64 x.1,.l c x.2]/\Xs=[]/\v= .ref 0/\X2=[some (.sq c ys)]:=by
 obtain⟨i,n⟩:=x
 have hu:unp (Yz7 c) (i,n)=[⟨.i .i64,i⟩,⟨.l c,n⟩]:=rfl
 have hu2: ∀z:List c.den,unp (.cons (.l c) .nil) z=[⟨.l c,z⟩]:=fun z=>rfl
 have e1: ∀r:List Lf,YyG [.l c] (⟨.l c,n⟩::r)=some ([.l c n],r):=fun r=>by
  show(match(match asL c c n with|some v=>some (TV.l c v,r)|none=>none)with|some (x,r)=>some ([x],r)|none=>none)=_
  rw[YaP]
 have e3:YyG [.e c,.i .i64,.l c] [⟨.i .i64,i⟩,⟨.l c,n⟩]=some ([.e c,.i .i64 i,.l c n],[]):=by
  show(match(match YyG [.l c] [⟨.l c,n⟩]with|some (xs,r)=>some (TV.i .i64 i::xs,r)|none=>none)with|some (xs,r)=>some (TV.e c::xs,r)|none=>none)=_
  rw[e1]
 have hf:Sg.fill ⟨[0,1,2],[.e c,.i .i64,.l c],[],Yz7 c⟩ (i,n)=some ⟨zipE [0,1,2] [.e c,.i .i64 i,.l c n],[]⟩:=by
  unfold Sg.fill
  show(match YyG [.e c,.i .i64,.l c] (unp (Yz7 c) (i,n))with|some (vs,r)=>(match YyC [] r with|some (X,[])=>some (⟨zipE [0,1,2] vs,X⟩:VSt)|_=>none)|none=>none)=_
  rw[hu,e3];rfl
 have hfill:=hf.symm.trans hfill
 injection hfill with hfill;injection hfill with hz hX
 match vs,hlen with
 | [v0,v1,v2],_=>
   simp only[zipE,List.cons.injEq,Prod.mk.injEq,and_true,true_and]at hz
   simp only[hu2,YyD,Option.some.injEq,Prod.mk.injEq]at e5
   obtain⟨rfl,rfl⟩:=e5
   simp only[YyC,Yy9,YaP,Option.some.injEq,Prod.mk.injEq,and_true]at e6
   simp_all
theorem YsV{P:Program}{fm:FM}{T:Tabs}(hS:YyP P fm T){g:Nat}(c:Cs)(hp:T.pf g=false)
  (hG: ∀f,fm f=g->Yyw P f=true/\ ∃(ρ:Ren) (z:List Value),InsL P ρ z/\z.length=c.width/\ρ.f 22=f):YyP P fm ⟨T.pf,vinsNE g c::T.fs,T.ls,0⟩:=by
 obtain⟨C,hC,hT⟩:=hS
 have hpC:C.pf g=true->Pure (vinsNE g c).RI:=fun h=>by rw[hT.p.pf,hp]at h;cases h
 refine⟨Yy3 C g (vinsNE g c).RI,Ya0 hC hpC (fun f hff=> ?_),Ya1 (e:=vinsNE g c) hT (fun h=>by rw[show(vinsNE g c).g=g from rfl,hp]at h;cases h) (fun _ _ _ _ _ h=>h)⟩
 rintro args H r H' ⟨x,y,vs,Xs,pls,Kp,v,l,X2,h1,h2,h3,hct,hrs,hfr,hall,h5,h6,h7,h8,h9,h10,rfl,rfl⟩
 obtain⟨hcal,ρ,z,K,hzl,rfl⟩:=hG f hff
 refine⟨hcal,fun w Lc vals hr hsz hv=> ?_⟩
 have hl:vs.length=3:=Ycp h2
 obtain⟨rfl,rfl,rfl,rfl⟩:=YsU (c:=c) (x:=x) (ys:=y) (YaK h2) hl h5 h6
 obtain⟨q1,q2⟩:=Yaa (show Yz8 (α:=c.den) x=some y from h1)
 injection q2 with q2;subst q2
 simp only[YC3,decide_eq_true_eq]at q1
 obtain⟨i,n⟩:Int×List c.den:=x
 obtain⟨q1,q3⟩:=q1
 have q1:(i:Int)=0:=q1
 subst q1
 obtain⟨v0,rfl⟩: ∃v0,n=[v0]:=List.length_eq_one_iff.1 (YCM q3)
 obtain⟨a0,ra,rfl,ha0,hra⟩:=hct.inv
 obtain⟨a1,rb,rfl,ha1,hrb⟩:=hra.inv
 obtain⟨a2,rc,rfl,ha2,hrc⟩:=hrb.inv
 have hrc0:rc=[]:=YCi.1 hrc.1.symm
 subst hrc0
 have e0:a0= .emp:=by cases ha0;rfl
 have e1:a1= .v (.int .i64 0):=by cases ha1;rfl
 subst e0;subst e1
 have ha2':Coe a2 (.rd c.width [c.enc v0]):=by cases ha2 with|l c v a h=>exact h
 have hcw:(c.enc v0).length=c.width:=Yav c v0
 obtain⟨i0,z0,hi0,hz,hzc,hzs,hil,hz0,hzm,hby,hz1⟩:=YaH K.z9
 have g3:0<c.width:=by omega
 have h2v:=Yb2 ha2' (hv 2 a2 rfl)
 refine(YsT K hr (nid:=H.length) (e0:=c.enc v0) (vals:=vals) (by simp[hf]) (by rw[hcw,hzl]) (by simpa using hsz) (hv 0 _ rfl) (hv 1 _ rfl) (by rw[hzl];exact h2v)).mono ?_
 rintro e w' ⟨v,L1,rfl,k1,k2,k3,k4⟩
 have hH:appF (hf H) H.length [.push (some ⟨z.length,[c.enc v0]⟩)]=hf (H++[some ⟨c.width,[c.enc v0]⟩]):=by
  simp only[appF,hzl]
  exact hf_push
 rw[hH]at k3
 have hr0:HRel Kp H [] (fun _=>none) H:=⟨fun a o h=>(by cases h),fun p q x h=>(by cases h),fun p x h=>(by cases h),hrs.fr,fun p x h=>(by cases h),YCL _⟩
 have hrows:Rows [c.enc v0] c [v0]:=Rows.cons (by exact⟨rfl,fun j y y' h1 h2=>by rw[h1]at h2;injection h2 with h2;subst h2;exact .refl _⟩) (Rows.none c)
 obtain⟨hrr,_⟩:=Yap hr0 (.sq c [v0]) ⟨c.width,[c.enc v0]⟩ (fun _=>⟨H.length,[c.enc v0],by rfl,by simp,g3,hrows⟩)
 have ht:TR ([]++[some (VObj.sq c [v0])]) (plS (fun _=>none) (.m 0) (some H.length)) (.ref 0) (.ref H.length 0 1):=
  .ref 0 H.length (.sq c [v0]) _ rfl (by rfl) (by rfl)
 have hfin:=Yby (Xs:=[]) (pls:=pls) (m:=[0]) (s:=⟨[],H++[some ⟨c.width,[c.enc v0]⟩],H.length⟩) hrs hfr hrr rfl (YCT _) (fun i hi=>absurd hi (Nat.not_lt_zero _)) (by simp) (List.nil_prefix) ht rfl h9
 obtain⟨L2,f1,f2,f3⟩:=hfin fm w' L1 v k3 k4
 refine⟨v,L2,rfl,k1,f1 Lc w.heap.size (fun b hb=> ?_) k2,f2,f3⟩
 apply Classical.byContradiction
 intro hlt
 exact hb ((hr.fresh b).2 (YCs (by simp_all)))
end Go.Abs
namespace Go.Abs
open Go Go.RowKit Go.Shelf Go.Proofs Go.Lib
def EqClo(P:Program)(f:FuncId):Prop:=
 (∀args w,(callFunc f args).run P w= .ok (.enter f args) w)/\
 ∀(n x:Int) (B:Nat) (W:World),W.cell? ⟨B,0,none⟩=some (.int .i64 n)->FnGives P f #[.pointer (some ⟨B,0,none⟩)] #[.int .i64 x] (.bool (decide (x=n))) W
abbrev encI:Int->Value:=Value.int .i64
theorem YsW{W:World}{g:Nat}{d:Array Int}{cur:Array Value}{ty:TypeId}{fr:Nat×Nat}(hg:W.heap[g]?=some (.cells cur ty fr)):(Sort.putRow encI W g 0 d).heap[g]?=some (.cells (Sort.putCells encI 0 d cur) ty fr):=by
 simp[Sort.putRow,Sort.mapBlock,Array.getElem?_modify,hg,Sort.onCells]
theorem YsX{W:World}{g k:Nat}{d:Array Int}(h:k≠g):(Sort.putRow encI W g 0 d).heap[k]?=W.heap[k]?:=by
 simp[Sort.putRow,Sort.mapBlock,Array.getElem?_modify,Ne.symm h]
section
variable{P:Program}{fm:FM}{ρ:Ren}{w:World}{Lc:Nat->Loc}
def delL(k:Int)(l:List Int):List Int:=l.filter fun n=> !decide (n=k)
def numE(l:List Int):List (List AV):=l.map fun n=>[.v (.int .i64 n)]
theorem YsY(L:SlLaysH.n10 P ρ)(hz: ∀w,(zeroValue (ρ.t 23)).run P w= .ok (.int .i64 0) w){gc:Nat}(hE: ∀f,fm f=gc->EqClo P f){h:HF}(hr:HR fm w Lc h){x y nid:Nat}{el:List (List AV)}{l:List Int}{k:Int}
  (hx:h x=some (some ⟨1,el⟩)) (hy:h y=some (some ⟨1,[[.v (.int .i64 k)]]⟩)) (hxy:x≠y) (hnid:h nid=none) (hel:Rows el I64 l) (hne:0<l.length) {vals:Array Value} (hsz:vals.size=2)
  (h0:VR fm w Lc (vals.getD 0 undef) (.ref x 0 l.length)) (h1:VR fm w Lc (vals.getD 1 undef) (.clo gc [.ptr y 0 0])):
  Calls P (ρ.f 10) vals w fun e w'=> ∃v L',e= .returned v/\Keep Lc w w'/\LStep Lc L' w.heap.size/\HR fm w' L' (appF h nid [.set x none,.push (some ⟨1,numE (delL k l)⟩)])/\VR fm w' L' v (.ref nid 0 (delL k l).length):=by
 have hxn:x≠nid:=fun e=>by rw[e,hnid]at hx;cases hx
 obtain⟨g,es,cap,hL,hes',hcl,hs0⟩:=(YaN hr hx h0).resolve_right (fun⟨_,_,_,_,_,h,_⟩=>by omega)
 have hes1:es=1:=hes'
 subst hes1
 have hs0':vals.getD 0 undef= .slice (some ⟨g,0,none⟩) l.length cap:=by rw[hs0];simp
 have hob:=hr.obj x _ hx
 rw[hL]at hob
 obtain⟨_,_,hlc,hcm,hall,cur,bt,hg,hcs,hrr⟩:=hob
 have hlen:el.length=l.length:=hel.1
 have hlc:el.length<=cap:=hlc
 have hcell: ∀j (hj:j<l.length),cur.getD j undef= .int .i64 l[j]:=fun j hj=>by
  have he:=YB7 (show j<el.length by omega)
  have hc:=hel.2 j _ _ he (YB7 hj)
  have h1:(el[j]).length=1:=hc.1
  have h2:=YB7 (show 0< (el[j]).length by omega)
  have h3:=hc.2 0 _ (.v (.int .i64 l[j])) h2 rfl
  have h4:=(hrr j _ 0 _ he h2).2
  rw[Nat.mul_one,Nat.add_zero]at h4
  exact Yaf (Yb2 h3 h4)
 obtain⟨fc,B,hfc,hv1,hB,hBg,hbc⟩: ∃fc B,fm fc=gc/\vals.getD 1 undef= .func (.func fc) #[] #[.pointer (some ⟨B,0,none⟩)]/\B<w.heap.size/\B≠g/\w.cell? ⟨B,0,none⟩=some (.int .i64 k):=by
  generalize hv:vals.getD 1 undef=v at h1
  generalize ha:AV.clo gc [.ptr y 0 0]=a at h1
  cases h1 with
  |clo f xs cs hs hcs'=>
   injection ha with ha1 ha2
   subst ha2
   have hp:=hcs' 0 (.ptr y 0 0) rfl
   have hxs:xs.size=1:=hs
   have hob:=hr.obj y _ hy
   generalize hxv:xs.getD 0 undef=xv at hp
   generalize hap:AV.ptr y 0 0=ap at hp
   cases hp with
   |ptrAt g2 es2 cap2 a i j hL2=>
    injection hap with e1 e2 e3
    subst e1;subst e2;subst e3
    rw[hL2]at hob
    obtain⟨he2,_,hlc2,_,_,cur2,bt2,hg2,hcs2,hrr2⟩:=hob
    have hes2:es2=1:=he2
    subst hes2
    have hlc2:1<=cap2:=hlc2
    have hval:=Yaf (hrr2 0 _ 0 _ rfl rfl).2
    have h20:cur2[0]?=some (.int .i64 k):=by
     have h0:0<cur2.size:=by omega
     rw[YC9 h0]
     rw[YC8,YC9 (by simpa using h0)]at hval
     simpa using hval
    refine⟨f,g2,ha1.symm,?_,(YDa.1 hg2).1,fun e=>hxy (hr.inj x y g 1 cap 1 cap2 hL (e▸hL2)),?_⟩
    ·have:xs= #[.pointer (some ⟨g2,0,none⟩)]:=by
      apply Array.ext
      ·simpa using hxs
      ·intro i hi1 hi2
       have:i=0:=by omega
       subst this
       rw[YC8,YC9 hi1]at hxv
       simpa using hxv
     rw[this]
    ·simp[World.cell?,hg2,h20]
   |ptrDead ad a i j hL2=>
    injection hap with e1 e2 e3
    subst e1
    rw[hL2]at hob
    exact hob.elim
   |_=>cases hap
  |_=>cases ha
 have hvals:vals= #[.slice (some ⟨g,0,none⟩) l.toArray.size cap,.func (.func fc) #[] #[.pointer (some ⟨B,0,none⟩)]]:=by
  apply Array.ext
  ·simp[hsz]
  ·intro i hi1 hi2
   have hi:i<2:=by omega
   match i,hi with
   |0,_=>simp only[YC8,YC9 hi1,YCY]at hs0';simpa using hs0'
   |1,_=>simp only[YC8,YC9 hi1,YCY]at hv1;simpa using hv1
 obtain⟨hE1,hE2⟩:=hE fc hfc
 have hH:Sort.Holds encI w g 0 l.toArray:=fun j hj=>by
  have hj':j<l.length:=by simpa using hj
  have hjc:j<cur.size:=by rw[hcs];omega
  refine⟨?_,?_⟩
  ·have:=hcell j hj'
   rw[YC8,YC9 hjc,YCY]at this
   simp[World.cell?,hg,hjc,this,hj']
  ·simp[World.frozen?,hg]
 have hcon:=AnyE.slices_DeleteFunc L encI (fun _=>rfl) (fun n=>decide (n=k)) fc #[.pointer (some ⟨B,0,none⟩)] hE1 0 hz g 0 cap l.toArray w
  (fun W x hb=>hE2 k x B W ((hb.cell (p:=⟨B,0,none⟩) hB).trans hbc))
  (fun n os dk x _=>hE2 k x B _ (by
   unfold sortWorld
   rw[Sort.cell?_grow _ _ _ (by show B< (Sort.putRow _ _ _ _ _).heap.size;rw[Sort.size_putRow];exact hB),Sort.cell?_putRow_other _ _ g 0 _ _ (Or.inl hBg)]
   exact hbc)) hH (by simp only[maxLen]at hcm;simp;omega) (by simp;omega)
 rw[hvals]
 refine hcon.mono ?_
 rintro e w' ⟨rfl,q,rfl⟩
 have hdl:(l.toArray.toList.filter fun x=> !decide (x=k))=delL k l:=by simp[delL]
 rw[hdl]
 have hle:(delL k l).length<=l.length:=List.length_filter_le ..
 generalize hD:(delL k l++List.replicate (l.toArray.size-(delL k l).length) 0).toArray=D
 have hDs:D.size=l.length:=by rw[<-hD];simp;omega
 have hDg: ∀j (hj:j< (delL k l).length),(D[j]!)=(delL k l)[j]:=fun j hj=>by
  rw[getElem!_pos _ _ (by omega)]
  simp only[<-hD,List.getElem_toArray]
  exact List.getElem_append_left hj
 have hs2:(Sort.putCells encI 0 D cur).size=cap*1:=by simp[Sort.putCells,hcs]
 have hrr2:RR fm w Lc 1 (Sort.putCells encI 0 D cur) (numE (delL k l)):=by
  intro i e j c hi hj
  simp only[numE,YB9]at hi
  cases hli:(delL k l)[i]? with
  |none=>rw[hli]at hi;cases hi
  |some n=>
   rw[hli]at hi
   injection hi with hi;subst hi
   cases j with
   |succ j=>simp at hj
   |zero=>
    injection hj with hj;subst hj
    obtain⟨hil,hie⟩:=YB6.1 hli
    have:(Sort.putCells encI 0 D cur).getD (i*1+0) undef= .int .i64 n:=by
     have hic:i<cur.size:=by omega
     rw[Nat.mul_one,Nat.add_zero,YC8]
     simp only[Sort.putCells,Array.getElem?_mapIdx,YC9 hic,YCX,YCY]
     rw[if_pos ⟨YCT _,by omega⟩,Nat.sub_zero,hDg i hil,hie]
    rw[this]
    exact⟨rfl,.v _⟩
 obtain⟨k1,k2⟩:=YbG (cur':=Sort.putCells encI 0 D cur) (el:=numE (delL k l)) hr hx hL hg hs2 (by simp only[numE,YCe];omega) (fun e he=>by obtain⟨n,_,rfl⟩:=YCc.1 he;rfl) hrr2
 have hb:Below (w.setRow g (Sort.putCells encI 0 D cur)).heap.size (w.setRow g (Sort.putCells encI 0 D cur)) (Sort.putRow encI (Sort.ahead w q) g 0 D):=
  ⟨rfl,rfl,rfl,by simp[World.setRow,Sort.putRow,Sort.mapBlock,Sort.ahead],fun b _=>by
   by_cases hbg:b=g
   ·subst hbg
    rw[YsW (W:=Sort.ahead w q) (cur:=cur) (ty:=bt) (fr:=(0,0)) hg,setRow_heap w b cur _ bt (0,0) hg]
   ·rw[YsX hbg,setRow_other _ _ _ _ hbg];rfl⟩
 have k3:=k1.trans (LStep.refl _ _) (Ybz hb)
 have k4:=k2.mono (Ybz hb) (fun b hb' _=>hb.block b hb')
 obtain⟨k5,k6⟩:=Yds (a:=x) (nid:=nid) (o:=⟨1,numE (delL k l)⟩) k4 (by simp) (by rw[if_neg (Ne.symm hxn)];exact hnid)
 refine⟨_,fun b=>if b=nid then Lc x else if b=x then .dead else Lc b,rfl,k3,?_,?_,?_⟩
 ·have:(Sort.putRow encI (Sort.ahead w q) g 0 D).heap.size=w.heap.size:=by simp[Sort.putRow,Sort.mapBlock,Sort.ahead]
  rw[this]at k5;exact k5
 ·have e1:(fun b=>if b=nid then some (some (⟨1,numE (delL k l)⟩:AObj))else if b=x then some none else if b=x then some (some ⟨1,numE (delL k l)⟩)else h b)=
    appF h nid [.set x none,.push (some ⟨1,numE (delL k l)⟩)]:=by
   funext b;by_cases e1:b=nid<;>by_cases e2:b=x<;>simp[e1,e2,appF,appU]
  rw[<-e1];exact k6
 ·have:=VR.refAt (fm:=fm) (w:=Sort.putRow encI (Sort.ahead w q) g 0 D) (L:=fun b=>if b=nid then Lc x else if b=x then .dead else Lc b) g 1 cap nid 0 (delL k l).length (by simp[hL]) (by omega)
  simpa using this
end
def delF(x:List Int×Int):Option (Int×List Int):=bif YCK 0 x.1.length then some (x.2,delL x.2 x.1)else none
abbrev delC:Cs:=.cons (.l I64) (.cons (.i .i64) .nil)
abbrev delO:Cs:=.cons (.i .i64) (.cons (.l I64) .nil)
def delE(g gc:Nat):FnE:=⟨g,false,⟨[0,1],[.ref 0,.clo gc [.ptr 1 0 0]],[.sq I64,.st [.i .i64]],delC⟩,.ref 2,[.dd,.st [.i .i64],.sq I64],delO,fun x=>delF x⟩
theorem YsZ{gc:Nat}{x:List Int×Int}{ys:Int×List Int}{vs:List TV}{Xs X2:Yyu}{v:TV}{l:List Lf}(hfill:Sg.fill ⟨[0,1],[.ref 0,.clo gc [.ptr 1 0 0]],[.sq I64,.st [.i .i64]],delC⟩ x=some ⟨zipE [0,1] vs,Xs⟩)(hlen:vs.length=2)
  (e5:YyD (.ref 2) (unp delO ys)=some (v,l)) (e6:YyC [.dd,.st [.i .i64],.sq I64] l=some (X2,[])):vs=[.ref 0,.clo gc [.ptr 1 0 0]]/\Xs=[some (.sq I64 x.1),some (.st [.i .i64 x.2])]/\v= .ref 2/\X2=[none,some (.st [.i .i64 ys.1]),some (.sq I64 ys.2)]:=by
 obtain⟨xs,k⟩:=x
 obtain⟨y1,y2⟩:=ys
 have hf:Sg.fill ⟨[0,1],[.ref 0,.clo gc [.ptr 1 0 0]],[.sq I64,.st [.i .i64]],delC⟩ (xs,k)=some ⟨zipE [0,1] [.ref 0,.clo gc [.ptr 1 0 0]],[some (.sq I64 xs),some (.st [.i .i64 k])]⟩:=rfl
 have hfill:=hf.symm.trans hfill
 injection hfill with hfill;injection hfill with hz hX
 have e5':YyD (.ref 2) (unp delO (y1,y2))=some (.ref 2,[⟨.i .i64,y1⟩,⟨.l I64,y2⟩]):=rfl
 have e5:=e5'.symm.trans e5
 injection e5 with e5;injection e5 with e51 e52
 subst e52
 have e6':YyC [.dd,.st [.i .i64],.sq I64] [⟨.i .i64,y1⟩,⟨.l I64,y2⟩]=some ([none,some (.st [.i .i64 y1]),some (.sq I64 y2)],[]):=rfl
 have e6:=e6'.symm.trans e6
 injection e6 with e6;injection e6 with e61 e62
 match vs,hlen with
 | [v0,v1],_=>
   simp only[zipE,List.cons.injEq,Prod.mk.injEq,and_true,true_and]at hz
   simp_all
theorem Ys0(l:List Int):Rows (numE l) I64 l:=⟨by simp[numE];rfl,fun i e v h1 h2=>by
 have h1:(l[i]?).map (fun n=>[AV.v (.int .i64 n)])=some e:=by rw[<-YB9];exact h1
 have h2:l[i]?=some (show Int from v):=h2
 rw[h2]at h1
 have h1:[AV.v (.int .i64 (show Int from v))]=e:=by injection h1
 subst h1
 exact⟨rfl,fun j a b h3 h4=>by
  have:a=b:=by
   have h4:[AV.v (.int .i64 v)][j]?=some b:=h4
   rw[h3]at h4;injection h4
  subst this;exact .refl _⟩⟩
theorem Ys1{P:Program}{fm:FM}{ρ:Ren}(L:SlLaysH.n10 P ρ)(hz: ∀w,(zeroValue (ρ.t 23)).run P w= .ok (.int .i64 0) w){gc:Nat}(hE: ∀f,fm f=gc->EqClo P f){xs:List Int}{k:Int}(hne:0<xs.length)
  {pls:Pl} {Kp:Nat->Prop} {H:Heap} {args:List AV} {Xs:Yyu} (hXs:Xs=[some (.sq I64 xs),some (.st [.i .i64 k])]) (hct:CT Xs pls [.ref 0,.clo gc [.ptr 1 0 0]] args) (hrs:HRel Kp H Xs pls H) (hfr:FrOK Kp H)
  {w:World} {Lc:Nat->Loc} {vals:Array Value} (hr:HR fm w Lc (hf H)) (hsz:vals.size=args.length) (hv: ∀j a,args[j]?=some a->VR fm w Lc (vals.getD j undef) a) {X2:Yyu} (hX2:X2=[none,some (.st [.i .i64 k]),some (.sq I64 (delL k xs))]):
  Calls P (ρ.f 10) vals w fun e w'=> ∃v L',e= .returned v/\Keep Lc w w'/\LStep Lc L' w.heap.size/\HR fm w' L' (hf (YyW Kp H 2 X2 (plI pls 2 H.length X2)))/\VR fm w' L' v (encT X2 (plI pls 2 H.length X2) (.ref 2)):=by
 obtain⟨a0,ra,rfl,ha0,hra⟩:=hct.inv
 obtain⟨a1,rb,rfl,ha1,hrb⟩:=hra.inv
 have hrb0:rb=[]:=YCi.1 hrb.1.symm
 subst hrb0
 have hget0:vget Xs 0=some (.sq I64 xs):=by rw[hXs];rfl
 have hget1:vget Xs 1=some (.st [.i .i64 k]):=by rw[hXs];rfl
 obtain⟨x,el,g1,g2,g3,g4⟩:=hrs.obj 0 _ hget0
 obtain⟨y,e,j1,j2,j3,j4⟩:=hrs.obj 1 _ hget1
 have hxy:x≠y:=fun e=>by have:=hrs.inj (.m 0) (.m 1) x g1 (e▸j1);cases this
 have ha0':a0= .ref x 0 xs.length:=by
  cases ha0 with
  |ref a x' o n h hn hp=>
   rw[hget0]at h;injection h with h;subst h
   rw[g1]at hp;injection hp with hp;subst hp
   injection hn with hn;subst hn;rfl
  |refD a av h ha=>rw[hget0]at h;cases h
 subst ha0'
 have ha1':a1= .clo gc [.ptr y 0 0]:=by
  cases ha1 with
  |clo g cs bs hl h=>
   obtain⟨b,rfl⟩: ∃b,bs=[b]:=List.length_eq_one_iff.1 hl.symm
   have:=h 0 _ b rfl rfl
   cases this with
   |ptr a i j x' o h1 h2 h3=>rw[j1]at h3;injection h3 with h3;subst h3;rfl
   |ptrD a i j av h1=>rw[hget1]at h1;cases h1
 subst ha1'
 have he:e=[.v (.int .i64 k)]:=by
  obtain⟨b,rfl⟩: ∃b,e=[b]:=List.length_eq_one_iff.1 j4.1.symm
  have:=j4.2 0 _ b rfl rfl
  cases this;rfl
 subst he
 have hxl:x<H.length:=(YB6.1 g2).1
 refine(YsY L hz hE hr (x:=x) (y:=y) (nid:=H.length) (el:=el) (l:=xs) (k:=k) (vals:=vals) g2 j2 hxy (by simp[hf]) g4 hne (by simpa using hsz) (hv 0 _ rfl) (hv 1 _ rfl)).mono ?_
 rintro e w' ⟨v,L1,rfl,k1,k2,k3,k4⟩
 have hH:appF (hf H) H.length [.set x none,.push (some ⟨1,numE (delL k xs)⟩)]=hf (H.set x none++[some ⟨1,numE (delL k xs)⟩]):=by
  simp only[appF]
  rw[Yb4 (by show H[x]?≠none;rw[g2];simp)]
  have:=hf_push (H:=H.set x none) (o:=some ⟨1,numE (delL k xs)⟩)
  rw[YCt]at this
  exact this
 rw[hH]at k3
 obtain⟨q1,_⟩:=YbN hrs hget0 g1
 have hvs:vset Xs 0 none=[none,some (.st [.i .i64 k])]:=by rw[hXs];rfl
 rw[hvs]at q1
 obtain⟨q2,_⟩:=Yap q1 (.sq I64 (delL k xs)) ⟨1,numE (delL k xs)⟩ (fun _=>⟨(H.set x none).length,numE (delL k xs),by rfl,by simp[Cs.width,I64],g3,Ys0 _⟩)
 have hXh:[none,some (VObj.st [.i .i64 k])]++[some (.sq I64 (delL k xs))]=X2:=hX2.symm
 rw[hXh]at q2
 have ht:TR X2 (plS (plK pls 0) (.m [none,some (VObj.st [.i .i64 k])].length) (some (H.set x none).length)) (.ref 2) (.ref H.length 0 (delL k xs).length):=by
  refine .ref 2 H.length (.sq I64 (delL k xs)) _ (by rw[hX2];rfl) ?_ ?_
  ·rfl
  ·simp[plS]
 have hlX:Xs.length=2:=by rw[hXs];rfl
 have hlX2:X2.length=3:=by rw[hX2];rfl
 have hren:renX X2 (List.range 3)=X2:=by rw[hX2];rfl
 have hfin:=Yby (Xs:=Xs) (pls:=pls) (Xh:=X2) (v:=.ref 2) (m:=List.range 3) (s:=⟨[],H.set x none++[some ⟨1,numE (delL k xs)⟩],H.length⟩) hrs hfr q2 rfl (by omega) (fun i hi y hy=>by
   rw[hlX]at hi
   unfold plS at hy
   rw[if_neg (fun e=>by injection e with e;simp at e;omega)]at hy
   unfold plK at hy
   split at hy
   ·cases hy
   ·exact hy) List.nodup_range (by rw[hlX];exact⟨[2],rfl⟩) ht (by rw[hren,hX2];rfl) (by
   rw[hren,hX2]
   simp[wfX,wfTs,wfT,vget,YCK,I64,Cs.width])
 rw[hren,hlX]at hfin
 obtain⟨L2,f1,f2,f3⟩:=hfin fm w' L1 v k3 k4
 refine⟨v,L2,rfl,k1,f1 Lc w.heap.size (fun b hb=> ?_) k2,f2,f3⟩
 apply Classical.byContradiction
 intro hlt
 exact hb ((hr.fresh b).2 (YCs (by simp_all)))
theorem Ys2{P:Program}{fm:FM}{T:Tabs}(hS:YyP P fm T){g:Nat}(gc:Nat)(hp:T.pf g=false)
  (hG: ∀f,fm f=g->Yyw P f=true/\ ∃ρ:Ren,SlLaysH.n10 P ρ/\ (∀w,(zeroValue (ρ.t 23)).run P w= .ok (.int .i64 0) w)/\ (∀f,fm f=gc->EqClo P f)/\ρ.f 10=f):YyP P fm ⟨T.pf,delE g gc::T.fs,T.ls,0⟩:=by
 obtain⟨C,hC,hT⟩:=hS
 have hpC:C.pf g=true->Pure (delE g gc).RI:=fun h=>by rw[hT.p.pf,hp]at h;cases h
 refine⟨Yy3 C g (delE g gc).RI,Ya0 hC hpC (fun f hf=> ?_),Ya1 (e:=delE g gc) hT (fun h=>by rw[show(delE g gc).g=g from rfl,hp]at h;cases h) (fun _ _ _ _ _ h=>h)⟩
 rintro args H r H' ⟨x,y,vs,Xs,pls,Kp,v,l,X2,h1,h2,h3,hct,hrs,hfr,hall,h5,h6,h7,h8,h9,h10,rfl,rfl⟩
 obtain⟨hcal,ρ,L,hz,hE,rfl⟩:=hG f hf
 refine⟨hcal,fun w Lc vals hr hsz hv=> ?_⟩
 have hl:vs.length=2:=Ycp h2
 obtain⟨rfl,hXs,rfl,hX2⟩:=YsZ (gc:=gc) (x:=x) (ys:=y) (YaK h2) hl h5 h6
 obtain⟨q1,q2⟩:=Yaa (show delF x=some y from h1)
 injection q2 with q2;subst q2
 have hlX:Xs.length=2:=by rw[hXs];rfl
 have:=Ys1 L hz hE (YCU q1) hXs hct hrs hfr hr hsz hv hX2
 rw[hlX]
 exact this
theorem Ys3{P:Program}{f:FuncId}{ρ:Ren}(L:SlLaysN.n53 P ρ)(hf:ρ.f 53=f):Yy7 P f (Value.int .i64) (fun l=>l.mergeSort fun x y=>decide (x<=y)):=by
 subst hf
 intro blk cap zs w hH hb hz
 exact AnyG.slices_Sort_int L blk 0 cap zs w hH hb hz
theorem Ys4{P:Program}{fm:FM}{T:Tabs}(hS:YyP P fm T){g:Nat}(hp:T.pf g=false){F0:List Int->Option (List Int)}(he0:vsortE g (.cons (.i .i64) .nil) F0∈T.fs)
  (hG: ∀f,fm f=g->Yyw P f=true/\ ∃ρ:Ren,SlLaysN.n53 P ρ/\ρ.f 53=f):YyP P fm ⟨T.pf,vsortE g (.cons (.i .i64) .nil) (YBf F0)::T.fs,T.ls,0⟩:=by
 refine Ylj hS hp he0 (enc:=Value.int .i64) (srt:=fun l=>l.mergeSort fun x y=>decide (x<=y)) (fun _=>rfl) (fun l=>by simp) rfl (fun n:Int=>n) (fun s=>rfl) (fun y h=>h) (fun x y hx h=> ?_) (fun f hf=> ?_)
 ·cases x with
  |nil=>exact absurd rfl hx
  |cons a r=>
   obtain⟨h1,h2⟩:=Yaa (show(bif YCN (a::r:List Int).length maxEl then some (Yz6 (a::r))else none)=some y from h)
   injection h2 with h2;subst h2
   refine⟨?_,YCP (YCU h1) Ylm⟩
   exact YsJ (a::r)
 ·obtain⟨k1,ρ,k2,k3⟩:=hG f hf
  exact⟨k1,Ys3 k2 k3⟩
end Go.Abs
namespace Go.Abs
def YAL{S R:Type}(step:S->Option (S⊕R)):Nat->S->Option (Option R)
 |0,_=>none
 |n+1,s=>match step s with
  |some (.inl s')=>YAL step n s'
  |some (.inr r)=>some (some r)
  |none=>some none
theorem Ynp{S R:Type}(step:S->Option (S⊕R)): ∀(n:Nat) (x:S) (o:Option R),YAL step n x=some o->YyR step x=o
 |0,_,_,h=>by cases h
 |n+1,x,o,h=>by
  rw[Yau]
  simp only[YAL]at h
  split at h
  ·rename_i s hs;rw[hs];exact Ynp step n s o h
  ·rename_i r hs;rw[hs];injection h
  ·rename_i hs;rw[hs];injection h
noncomputable def loM(n:Nat):Lo:=⟨fun step x=>match YAL step n x with|some y=>y|none=>YyR step x⟩
theorem Ynq(n:Nat):loM n=loO:=by
 unfold loM loO
 congr 1
 funext S R step x
 cases h:YAL step n x with
 |none=>rfl
 |some y=>exact(Ynp step n x y h).symm
end Go.Abs
namespace Go.Abs
open Go Go.RowKit
theorem Yhn{A R:Type}{p:A->ItP}{t:A->Int->Option A}{r:A->Option R}(st:List Int->A){B:List Int}{c:Int}(hB:B.Nodup)(hp: ∀sn,p (st sn)=(B,sn,c,c,c))
  (ht: ∀sn b,b∈B->b∉sn->sn.Nodup->(∀a∈sn,a∈B)->t (st sn) b=some (st (sn++[b]))) {y:R} (hr: ∀sn,sn.Perm B->r (st sn)=some y):Good p t r (st []) y:=by
 have key: ∀(n:Nat) (sn:List Int),YzE B sn=n->sn.Nodup->(∀a∈sn,a∈B)->RunR p t r B c sn (st sn) y:=by
  intro n
  induction n using Nat.strongRecOn with
  |_ n ih=>
   intro sn hn hd hs
   by_cases h: ∀b∈B,b∈sn
   ·exact .fin h (hp sn) (hr sn ((List.perm_ext_iff_of_nodup hd hB).2 fun a=>⟨hs a,h a⟩))
   ·have hx: ∃b∈B,b∉sn:=Classical.byContradiction fun hc=>h fun b hb=>Classical.byContradiction fun hn=>hc ⟨b,hb,hn⟩
    refine .go (fun b=>st (sn++[b])) (hp sn) hx (fun b hb hn=>ht sn b hb hn hd hs) (fun b hb hbn=> ?_)
    refine ih _ (by rw[<-hn];exact YkY hb hbn) (sn++[b]) rfl ?_ ?_
    ·grind
    grind
 exact⟨B,c,key _ [] rfl List.nodup_nil (fun a h=>by cases h)⟩
theorem Yho{l l':List ByteArray}(h:l.Perm l'):Yz5 l=Yz5 l':=by
 have hinj: ∀a b:ByteArray,a.data.toList=b.data.toList->a=b:=fun a b h=>by
  cases a;simp_all
 have tr: ∀a b c:ByteArray,le8 a.data.toList b.data.toList=true->le8 b.data.toList c.data.toList=true->le8 a.data.toList c.data.toList=true:=fun a b c h k=>Yet _ _ _ h k
 have tot: ∀a b:ByteArray,(le8 a.data.toList b.data.toList||le8 b.data.toList a.data.toList)=true:=fun a b=>Yeu _ _
 have ant: ∀a b:ByteArray,le8 a.data.toList b.data.toList=true->le8 b.data.toList a.data.toList=true->a=b:=fun a b h k=>hinj _ _ (YgG _ _ h k)
 exact Ycq tr tot ant (Yes tr tot l) ((Yer _ l).trans h)
theorem YxO{l l':List Int}(h:l.Perm l'):Yz6 l=Yz6 l':=
 Ycq Yev Yew YgH (Yes Yev Yew l) ((Yer _ l).trans h)
section
variable{κ ν:Type}
def kAt(d:κ)(l:List (Int× (κ×ν)))(b:Int):κ:=match mbf b l with|some e=>e.1|none=>d
theorem Ynw{l:List (Int× (κ×ν))}{b:Int}(h:b∈l.map (·.1)): ∃e,mbf b l=some e:=by
 induction l with
 |nil=>grind
 |cons e r ih=>
  simp only[mbf]
  by_cases he:e.1=b
  ·simp_all
  grind
theorem Ynx{d:κ}{l:List (Int× (κ×ν))}(h:(l.map (·.1)).Nodup):(l.map (·.1)).map (kAt d l)=l.map (·.2.1):=by
 rw[YCv]
 refine YCG fun e he=> ?_
 have: ∀(l:List (Int× (κ×ν))),(l.map (·.1)).Nodup->e∈l->mbf e.1 l=some e.2:=by
  intro l
  induction l with
  |nil=>simp
  |cons a r ih=>
   intro hd hm
   simp only[mbf]
   grind
 simp only[Function.comp,kAt,this l h he]
theorem Yny{eq:κ->κ->Bool}{c:Int}{k:κ}{v:ν}: ∀l:List (Int× (κ×ν)),(mpt eq c k v l).map (·.1)=(match mfd eq k l with|some _=>l.map (·.1)|none=>l.map (·.1)++[c])
 | []=>rfl
 |e::r=>by
  simp only[mpt,mfd]
  cases eq k e.2.1 with
  |true=>rfl
  |false=>
   simp only[cond_false,YCa,Yny r]
   grind
theorem Ycs{eq:κ->κ->Bool}{c:Int}{k:κ}{v:ν}{l:List (Int× (κ×ν))}(h:(l.map (·.1)).Nodup)(hc: ∀b∈l.map (·.1),b<c):
  ((mpt eq c k v l).map (·.1)).Nodup/\ ∀b∈ (mpt eq c k v l).map (·.1),b<mck eq c k l:=by
 rw[Yny]
 unfold mck
 grind
end
end Go.Abs
