/- Maps over typed values. No condition. -/
import Derived.Test.YtlmcnindhfbkhaaGreatDoorA1
import Derived.KernelRfl
set_option linter.unusedVariables false
set_option linter.unusedSimpArgs false
set_option linter.unusedSectionVars false
open List renaming getElem?_eq_some_iff → YHT, mem_of_getElem? → YHU, getElem?_eq_getElem → YHV, getElem?_map → YHW, map_cons → YHX, getElem?_append_left → YHY, map_nil → YHZ, getElem?_set_ne → YH0, mem_cons → YH1, mem_map → YH2, length_eq_zero_iff → YH3, mem_iff_getElem? → YH4, mem_cons_self → YH5, drop_zero → YH6, getElem?_append_right → YH7, take_length → YH8, length_map → YIa, all_eq_true → YIb, map_map → YIc, length_cons → YId, getElem?_take → YIe, getElem?_set_self → YIf, getElem?_drop → YIi, ext_getElem? → YIj, getElem?_eq_none → YIl, cons_append → YIm, append_assoc → YIn, getElem?_range → YIo, mem_singleton → YIp
open Nat renaming beq → YIq, le_refl → YIr, ble → YIs, blt → YIt, eq_of_beq_eq_true → YIu, le_trans → YIv, zero_add → YIw, lt_of_lt_of_le → YIx, zero_le → YIz, le_of_ble_eq_true → YIB
open Option renaming map_eq_some_iff → YID, map_some → YIE, isSome_iff_exists → YIG, getD_some → YIH, bind_eq_some_iff → YII
open Bool renaming and_eq_true → YIK, eq_iff_iff → YIN
open Array renaming getD_eq_getD_getElem? → YIQ, getElem?_eq_getElem → YIT
open ByteArray renaming mk → YIU
namespace Go.Abs
open Go Go.RowKit
section
variable{Fr:Nat->Prop}{H0:Heap}{X:YCX}{pl:Pl}{H:Heap}{β:Type}{r:β}{env:VEnv}{ae:Env}
def keyV:(o:Option IntKind)->(kty o).den->Value
 |none,s=>.string s
 |some k,n=>.int k n
theorem YrH{o:Option IntKind}(a b:(kty o).den):YE3 (kstr o) (keyV o a) (keyV o b)=some (keq o a b):=by
 cases o with
 |none=>
  have: ∀a b:ByteArray,some (a==b)=some (decide (a=b)):=fun a b=>by
   congr 1
   by_cases e:a=b
   ·rw[(MapKept.bytes_beq a b).2 e,decide_eq_true e]
   ·rw[decide_eq_false e]
    cases h:(a==b)with
    |false=>rfl
    |true=>exact absurd ((MapKept.bytes_beq a b).1 h) e
  exact this a b
 |some k=>
  have: ∀a b:Int,(if k=k then some (a==b)else none)=some (decide (a=b)):=fun a b=>by
   grind
  exact this a b
theorem YdG(o:Option IntKind)(k:(kty o).den):keyK (kstr o) (keyV o k)=true:=by cases o<;>rfl
theorem YfP{o:Option IntKind}{tv:TV}{a:AV}{k:(kty o).den}(h:toD (kty o) tv=some k)(hr:TR X pl tv a):a= .v (keyV o k):=by
 have:=Yjs h hr
 cases o with
 |none=>exact YaK this
 |some q=>exact YaK this
theorem YjK(o:Option IntKind)(t:Ty)(V:Cs)(x:(mapC o t V).den):(mapC o t V).enc x= .v (.int .i64 x.1):: .v (keyV o x.2.1)::(Cs.cons t V).enc x.2.2:=by
 have:(kty o).enc x.2.1= .v (keyV o x.2.1):=by cases o<;>(rfl)
 rw[<-this]
 rfl
theorem YjL{o:Option IntKind}{t:Ty}{V:Cs}{e:List AV}{x:(mapC o t V).den}(h:CC e ((mapC o t V).enc x)): ∃r,e= .v (.int .i64 x.1):: .v (keyV o x.2.1)::r/\CC r ((Cs.cons t V).enc x.2.2):=by
 rw[YjK]at h
 have hl:=h.1
 match e,hl with
 | [],hl=>trivial
 | [_],hl=>grind
 |b::k::r,hl=>
  have hb:b= .v (.int .i64 x.1):=YaK (h.2 0 b _ rfl rfl)
  have hk:k= .v (keyV o x.2.1):=YaK (h.2 1 k _ rfl rfl)
  subst hb;subst hk
  exact⟨r,rfl,by simp_all,fun j y y' h1 h2=>h.2 (j+2) y y' (by trivial) (by trivial)⟩
theorem YjM{o:Option IntKind}{t:Ty}{V:Cs}{r:List AV}(b:Int)(k:(kty o).den){v:(Cs.cons t V).den}(h:CC r ((Cs.cons t V).enc v)):CC (.v (.int .i64 b):: .v (keyV o k)::r) ((mapC o t V).enc (b,(k,v))):=by
 have key:CC (.v (.int .i64 b):: .v (keyV o k)::r) (.v (.int .i64 b):: .v (keyV o k)::(Cs.cons t V).enc v):=by
  refine⟨by simp[h.1],fun j y y' h1 h2=> ?_⟩
  match j,h1,h2 with
  |0,h1,h2=>simp at h1 h2;subst h1;subst h2;exact .refl _
  |1,h1,h2=>simp at h1 h2;subst h1;subst h2;exact .refl _
  |j+2,h1,h2=>exact h.2 j y y' (by trivial) (by trivial)
 exact Eq.mpr (congrArg (CC _) (YjK o t V _)) key
theorem Rows.tl{el:List (List AV)}{c:Cs}{e:List AV}{x:c.den}{l:List c.den}(h:Rows (e::el) c (x::l)):CC e (c.enc x)/\Rows el c l:=
 ⟨h.2 0 e x rfl rfl,by simpa using h.1,fun i e v h1 h2=>h.2 (i+1) e v (by trivial) (by trivial)⟩
theorem Rows.cons{el:List (List AV)}{c:Cs}{e:List AV}{x:c.den}{l:List c.den}(h:CC e (c.enc x))(k:Rows el c l):Rows (e::el) c (x::l):=by
 refine⟨by simp[k.1],fun i e' v h1 h2=> ?_⟩
 cases i with
 |zero=>simp_all
 |succ i=>exact k.2 i e' v (by trivial) (by trivial)
theorem Rows.none(c:Cs):Rows [] c []:=⟨rfl,fun i e v h=>by simp⟩
theorem YFM{o:Option IntKind}{t:Ty}{V:Cs}(k:(kty o).den): ∀(el:List (List AV)) (l:List (mapC o t V).den) (i:Nat),Rows el (mapC o t V) l->
  (mfd (keq o) k l=none/\YDp (kstr o) (keyV o k) el i=some none/\ (∀(c:Int) (d:(Cs.cons t V).den),mpt (keq o) c k d l=List.append l [(c,(k,d))])/\mdl (keq o) k l=l)\/
  (∃p r v,mfd (keq o) k l=some v/\YDp (kstr o) (keyV o k) el i=some (some (i+p,r))/\CC r ((Cs.cons t V).enc v)/\
   (∀c d r',CC r' ((Cs.cons t V).enc d)->Rows (el.modify p (putE (.v (keyV o k)) r')) (mapC o t V) (mpt (keq o) c k d l))/\Rows (el.eraseIdx p) (mapC o t V) (mdl (keq o) k l))
 | [],[],i,_=>.inl ⟨rfl,rfl,fun _ _=>rfl,rfl⟩
 | [],_::_,i,h=>by have:=h.1;trivial
 |_::_,[],i,h=>by have:=h.1;trivial
 |e::el,x::l,i,h=>by
  obtain⟨h1,h2⟩:=h.tl
  obtain⟨r,rfl,hr⟩:=YjL h1
  simp only[YDp,YrH]
  cases hq:keq o k x.2.1 with
  |true=>
   refine .inr ⟨0,r,x.2.2,by simp only[mfd,hq,cond_true],rfl,hr,fun c d r' hr'=> ?_,?_⟩
   ·simp only[mpt,hq,cond_true]
    exact Rows.cons (YjM x.1 k hr') h2
   ·simp only[mdl,hq]
    exact h2
  |false=>
   rcases YFM k el l (i+1) h2 with⟨g1,g2,g3,g4⟩| ⟨p,r2,v,g1,g2,g3,g4,g5⟩
   ·refine .inl ⟨by simp only[mfd,hq,cond_false];exact g1,g2,fun c d=> ?_,?_⟩
    ·simp only[mpt,hq,cond_false,g3];rfl
    ·show(bif keq o k x.2.1 then l else x::mdl (keq o) k l)=x::l
     simp_all
   ·refine .inr ⟨p+1,r2,v,by simp only[mfd,hq,cond_false];exact g1,by grind,g3,fun c d r' hr'=> ?_,?_⟩
    ·simp only[mpt,hq,cond_false,List.modify_succ_cons]
     exact Rows.cons h1 (g4 c d r' hr')
    ·simp only[mdl,hq,List.eraseIdx_cons_succ]
     exact Rows.cons h1 g5
theorem YrI{κ ν:Type}(n:Int)(e:Int× (κ×ν))(l:List (Int× (κ×ν))):mbf n (e::l)=if e.1=n then some e.2 else mbf n l:=by
 show(bif decide (e.1=n)then some e.2 else mbf n l)=_
 simp
theorem YrJ(n b:Int)(r:List AV)(el:List (List AV)):YEf n ((.v (.int .i64 b)::r)::el)=if b=n then some (.v (.int .i64 b)::r)else YEf n el:=by
 simp only[YEf,YEw]
 simp
theorem YGb{o:Option IntKind}{t:Ty}{V:Cs}(n:Int): ∀(el:List (List AV)) (l:List (mapC o t V).den),Rows el (mapC o t V) l-> ∀e,mbf n l=some e->
  ∃b r,YEf n el=some (b:: .v (keyV o e.1)::r)/\CC r ((Cs.cons t V).enc e.2)
 | [],[],_,e,h=>by cases h
 | [],_::_,h,_,_=>by have:=h.1;trivial
 |_::_,[],h,_,_=>by trivial
 |e0::el,x::l,h,e,he=>by
  obtain⟨h1,h2⟩:=h.tl
  obtain⟨r,rfl,hr⟩:=YjL h1
  have he':=(@YrI (kty o).den (Cs.cons t V).den n x l).symm.trans he
  have ef:=YrJ n x.1 (.v (keyV o x.2.1)::r) el
  split at he'
  ·rename_i hc
   injection he' with he';subst he'
   exact⟨_,r,by rw[ef,if_pos hc],hr⟩
  ·rename_i hc
   rw[ef,if_neg hc]
   exact YGb n el l h2 e he'
theorem YfQ(hr:HRel Fr H0 X pl H){a x:Nat}{cs:List TV}(ho:vget X a=some (.st cs))(hp:pl (.m a)=some x): ∃e,H[x]?=some (some ⟨cs.length,[e]⟩)/\0<cs.length/\CT X pl cs e:=by
 obtain⟨x',e,h1,h2,h3,h4⟩:=hr.obj a _ ho
 simp_all
theorem YfR{c:Cs}{l:List c.den}{R:AV}(h:TR X pl (.l c l) R): ∃el,rowsR R=some el/\Rows el c l:=by
 cases h with
 |l _ _ _ h=>
  rcases YaV h with⟨rfl,h1⟩| ⟨l0,rfl,h2,h3⟩
  ·have:l=[]:=by simp_all
   subst this
   exact⟨[],rfl,Rows.none c⟩
  ·refine⟨l0,rfl,by simp_all,fun i e v k1 k2=> ?_⟩
   grind
theorem YdH{a x:Nat}{n:Int}{c:Cs}{l:List c.den}{tags:List TV}(hr:HRel Fr H0 X pl H)(ho:vget X a=some (.st (.i .i64 n:: .l c l::tags)))(hp:pl (.m a)=some x)(hl:tags.length=1\/tags.length=2):
  ∃el atags R,H[x]?=some (some ⟨tags.length+2,[.v (.int .i64 n)::R::atags]⟩)/\mapO ⟨tags.length+2,[.v (.int .i64 n)::R::atags]⟩=some (n,el,atags)/\Rows el c l/\CT X pl tags atags:=by
 obtain⟨e,h1,h2,h3⟩:=YfQ hr ho hp
 obtain⟨c0,e1,rfl,k1,k2⟩:=h3.inv
 obtain⟨R,at',rfl,k3,k4⟩:=k2.inv
 cases k1
 obtain⟨el,k5,k6⟩:=YfR k3
 refine⟨el,at',R,by trivial,?_,k6,k4⟩
 unfold mapO
 simp only[k5]
 rcases hl with h|h<;>rw[h]<;>rfl
theorem YdI{o:Option IntKind}{t:Ty}{V:Cs}{x:TV}{ax:AV}{a:Nat}{n:Int}{l:List (mapC o t V).den}{tags:List TV}(h:vmap o t V X x=some (a,n,l,tags))(hx:TR X pl x ax)(hr:HRel Fr H0 X pl H):
  ∃y el atags R,x= .np a/\ax= .np y/\pl (.m a)=some y/\vget X a=some (.st (.i .i64 n:: .l (mapC o t V) l::tags))/\ (tags.length=1\/tags.length=2)/\
   H[y]?=some (some ⟨tags.length+2,[.v (.int .i64 n)::R::atags]⟩)/\mapO ⟨tags.length+2,[.v (.int .i64 n)::R::atags]⟩=some (n,el,atags)/\Rows el (mapC o t V) l/\CT X pl tags atags:=by
 unfold vmap at h
 split at h
 ·rename_i a'
  split at h
  ·rename_i n' c l' tags' ho
   split at h
   ·rename_i l2 hl
    obtain⟨e1,e2⟩:=Yab h
    injection e2 with e2;injection e2 with e3 e2;injection e2 with e4 e2;injection e2 with e5 e6
    subst e3;subst e4;subst e5;subst e6
    obtain⟨ec,el⟩:=YaN hl
    subst ec;subst el
    simp at e1
    obtain⟨y,rfl,hp⟩:=YaO ho hx
    obtain⟨el,at',R,k1,k2,k3,k4⟩:=YdH hr ho hp e1
    grind
   trivial
  trivial
 trivial
theorem YfS{ag:Bool}{t:Ty}{V:Cs}{v:(Cs.cons t V).den}{rr:List AV}(hk:knk ag V=true)(h:CC rr ((Cs.cons t V).enc v)): ∃y,mval (knd ag) rr=some y/\TR X pl (mvT ag (.cons t V) v) y:=by
 have hct:=YbC (X:=X) (pl:=pl) (Cs.cons t V) v h
 cases ag with
 |true=>exact⟨.agg rr,rfl,.ag _ _ hct.1 hct.2⟩
 |false=>
  cases V with
  |cons _ _=>trivial
  |nil=>
   have hl:=h.1
   match rr,hl with
   | [a],_=>
     refine⟨a,rfl,?_⟩
     obtain⟨a',h1,h2⟩:=hct.get (j:=0) (c:=tvOf t (fstP .nil v)) rfl
     simp at h1;subst h1
     exact h2
theorem YrK{o:Option IntKind}{t:Ty}{V:Cs}{ag ok:Bool}{m k:TV}{am ak:AV}{K:TV->YCX->Option β}(h:YGn o t V ag ok m k X K=some r)(hm:TR X pl m am)(hk:TR X pl k ak)(hr:HRel Fr H0 X pl H)
  (hz:CC ((Cs.cons t V).zeros.map zc) ((Cs.cons t V).enc (Cs.cons t V).dft)) {KA:AV->List Upd->Prop} (hK: ∀v va,K v X=some r->TR X pl v va->KA va []):
  ∃v us,xF (.mget (kstr o) (knd ag) ok) [am,ak,mzA ag (.cons t V)] (hf H) H.length=some (v,us)/\KA v us:=by
 unfold YGn at h
 split at h
 ·rename_i a n l tags k' hv hk'
  obtain⟨y,el,at',R,rfl,rfl,hp,ho,hl,hy,hmo,hrow,htag⟩:=YdI hv hm hr
  obtain⟨e1,e2⟩:=Yab h
  simp at e1
  obtain⟨e1,e3⟩:=e1
  have hak:=YfP hk' hk
  subst hak
  have hyf:hf H y=some (some ⟨tags.length+2,[.v (.int .i64 n)::R::at']⟩):=hy
  have hb:(YIq (tags.length+2) (knd ag+2)&&keyK (kstr o) (keyV o k'))=true:=by rw[e1,Nat.beq_refl,YdG];rfl
  have mz: ∃z,TR X pl (mvT ag (.cons t V) (Cs.cons t V).dft) z/\mzA ag (.cons t V)=z:=by
   obtain⟨z,h1,h2⟩:=YfS (X:=X) (pl:=pl) e3 hz
   refine⟨z,h2,?_⟩
   cases ag with
   |true=>injection h1
   |false=>
    cases V with
    |cons _ _=>trivial
    |nil=>injection h1
  have fin: ∀(v:TV) (va:AV) (is:Bool),TR X pl v va->vres ok v is X K=some r->KA (mres ok va is) []:=by
   intro v va is hv h
   cases ok with
   |true=>exact hK _ _ h (.tp _ _ rfl (fun j c a h1 h2=>by
    match j,h1,h2 with
    |0,h1,h2=>simp_all
    |1,h1,h2=>simp at h1 h2;subst h1;subst h2;exact .b _
    |j+2,h1,h2=>trivial))
   |false=>exact hK _ _ h hv
  rcases YFM k' el l 0 hrow with⟨g1,g2,_,_⟩| ⟨p,rr,v,g1,g2,g3,_,_⟩
  ·obtain⟨z,hz1,hz2⟩:=mz
   refine⟨mres ok z false,[],?_,fin _ _ _ hz1 ?_⟩
   ·simp only[xF,hyf,hmo,hb,cond_true,g2,hz2]
   ·simpa only[mgt,mhs,g1]using e2
  ·obtain⟨yv,q1,q2⟩:=YfS (X:=X) (pl:=pl) e3 g3
   refine⟨mres ok yv true,[],?_,fin _ _ _ q2 ?_⟩
   ·simp only[xF,hyf,hmo,hb,cond_true,g2,q1]
   ·simpa only[mgt,mhs,g1]using e2
 trivial
theorem YdJ(hr:HRel Fr H0 X pl H){a y:Nat}{cs ds:List TV}{e':List AV}(ho:vget X a=some (.st cs))(hp:pl (.m a)=some y){e:List AV}(hy:H[y]?=some (some ⟨cs.length,[e]⟩))(hl:ds.length=cs.length)(h0:0<ds.length)(hct:CT X pl ds e'):
  Nxt Fr H0 X pl H .u (vset X a (some (.st ds))) .u [.set y (some ⟨cs.length,[e']⟩)]:=by
 refine⟨pl,.u _,?_,.inl (Yag _ _ _)⟩
 exact YbB hr ho hp _ rfl rfl (fun _ _ _ _ e=>by cases e) (fun _ _ _ _ e=>by cases e) (fun hx=>⟨y,e',hp,by grind,h0,hct.ext hx⟩)
theorem YbF{c:Cs}{l:List c.den}{el:List (List AV)}(h:Rows el c l):TR X pl (.l c l) (.rd c.width el):=.l c l _ (rows_coe' h)
theorem YrL{a x:AV}(hna: ∀ds,a≠ .agg ds)(h:cellsOf a=some [x]):YEv 1 a=some [x]:=by
 cases a<;>first|exact absurd rfl (hna _)| (simp only[YEv,h])
theorem YrM{o:Option IntKind}{t:Ty}{V:Cs}{ag:Bool}{m k v:TV}{am ak av:AV}{K:TV->YCX->Option β}(h:YGo o t V ag m k v X K=some r)(hm:TR X pl m am)(hk:TR X pl k ak)(hv:TR X pl v av)(hr:HRel Fr H0 X pl H)
  {KA:AV->List Upd->Prop} (hK: ∀v X' va us,K v X'=some r->Nxt Fr H0 X pl H v X' va us->KA va us):
  ∃w us,xF (.mput (kstr o) (knd ag) (mapC o t V).width) [am,ak,av] (hf H) H.length=some (w,us)/\KA w us:=by
 unfold YGo at h
 split at h
 ·rename_i a n l tags k' hvm hk'
  obtain⟨y,el,at',R,rfl,rfl,hp,ho,hl,hy,hmo,hrow,htag⟩:=YdI hvm hm hr
  obtain⟨e1,e2⟩:=Yab h
  simp at e1
  obtain⟨e1,e3,e4⟩:=e1
  have hak:=YfP hk' hk
  subst hak
  split at e2
  ·rename_i cs hcs
   split at e2
   ·rename_i d hd
    obtain⟨as,ha1,ha2⟩:=YfI hcs hv
    have hcc:=Ycx hd ha2
    have hcell:YEv (knd ag) av=some as:=by
     cases ag with
     |true=>
      cases v<;>simp[isAg]at e3
      cases hv
      trivial
     |false=>
      have hV:V.width=0:=YIu e4
      have hlen:as.length=1:=by rw[hcc.1,Ya8];simp[Cs.width,hV]
      match as,hlen with
      | [x],_=>
        have hna: ∀ds,av≠ .agg ds:=by
         intro ds e
         subst e
         cases hv with
         |l c w _ hco=>trivial
         |u=>trivial
         |refD a'=>rename_i hq _;simp[YDf,hq]at hcs
         |preD a' m=>rename_i hq _;simp[YDf,hq]at hcs
         |subD=>trivial
         |ptrD a' i j=>rename_i hq _;simp[YDf,hq]at hcs
         |ptiD=>trivial
         |npD a'=>rename_i hq _;simp[YDf,hq]at hcs
         |ag=>trivial
        exact YrL hna ha1
    have hyf:hf H y=some (some ⟨tags.length+2,[.v (.int .i64 n)::R::at']⟩):=hy
    have hb:(YIq (tags.length+2) (knd ag+2)&&keyK (kstr o) (keyV o k'))=true:=by rw[e1,Nat.beq_refl,YdG];rfl
    have hlen:(.i .i64 n:: .l (mapC o t V) l::tags:List TV).length=tags.length+2:=by simp
    rcases YFM k' el l 0 hrow with⟨g1,g2,g3,_⟩| ⟨p,rr,v0,g1,g2,g3,g4,_⟩
    ·refine⟨.u,_,by simp only[xF,hyf,hmo,hb,cond_true,hcell,g2];rfl,hK _ _ _ _ e2 ?_⟩
     have:=YdJ (ds:=.i .i64 (mck (keq o) n k' l):: .l (mapC o t V) (mpt (keq o) n k' d l)::tags) (e':=.v (.int .i64 (n+1)):: .rd (mapC o t V).width (el++[.v (.int .i64 n):: .v (keyV o k')::as])::at') hr ho hp (by rw[hlen];exact hy) (by simp) (by simp)
      (by
       simp only[mck,g1]
       refine CT.cons (.i _ _) (CT.cons (YbF ?_) htag)
       rw[g3]
       exact YbD hrow (Rows.cons (YjM n k' hcc) (Rows.none _)))
     trivial
    ·refine⟨.u,_,by simp only[xF,hyf,hmo,hb,cond_true,hcell,g2];rfl,hK _ _ _ _ e2 ?_⟩
     have:=YdJ (ds:=.i .i64 (mck (keq o) n k' l):: .l (mapC o t V) (mpt (keq o) n k' d l)::tags) (e':=.v (.int .i64 n):: .rd (mapC o t V).width (el.modify (0+p) (putE (.v (keyV o k')) as))::at') hr ho hp (by rw[hlen];exact hy) (by simp) (by simp)
      (by
       simp only[mck,g1]
       refine CT.cons (.i _ _) (CT.cons (YbF ?_) htag)
       simp_all)
     trivial
   trivial
  trivial
 trivial
theorem YrN{o:Option IntKind}{t:Ty}{V:Cs}{m k:TV}{am ak:AV}{K:TV->YCX->Option β}(h:YGp o t V m k X K=some r)(hm:TR X pl m am)(hk:TR X pl k ak)(hr:HRel Fr H0 X pl H)
  {KA:AV->List Upd->Prop} (hK: ∀v X' va us,K v X'=some r->Nxt Fr H0 X pl H v X' va us->KA va us):
  ∃w us,xF (.mdel (kstr o) (mapC o t V).width) [am,ak] (hf H) H.length=some (w,us)/\KA w us:=by
 unfold YGp at h
 split at h
 ·rename_i a n l tags k' hvm hk'
  obtain⟨y,el,at',R,rfl,rfl,hp,ho,hl,hy,hmo,hrow,htag⟩:=YdI hvm hm hr
  have hak:=YfP hk' hk
  subst hak
  have hyf:hf H y=some (some ⟨tags.length+2,[.v (.int .i64 n)::R::at']⟩):=hy
  rcases YFM k' el l 0 hrow with⟨g1,g2,_,g3⟩| ⟨p,rr,v0,g1,g2,g3,_,g4⟩
  ·refine⟨.u,_,by simp only[xF,hyf,hmo,YdG,cond_true,g2];rfl,hK _ _ _ _ h ?_⟩
   have:=YdJ (ds:=.i .i64 n:: .l (mapC o t V) (mdl (keq o) k' l)::tags) (e':=.v (.int .i64 n):: .rd (mapC o t V).width el::at') hr ho hp (by exact hy) (by simp) (by simp)
    (by rw[g3];exact CT.cons (.i _ _) (CT.cons (YbF hrow) htag))
   trivial
  ·refine⟨.u,_,by simp only[xF,hyf,hmo,YdG,cond_true,g2];rfl,hK _ _ _ _ h ?_⟩
   have:=YdJ (ds:=.i .i64 n:: .l (mapC o t V) (mdl (keq o) k' l)::tags) (e':=.v (.int .i64 n):: .rd (mapC o t V).width (el.eraseIdx (0+p))::at') hr ho hp (by exact hy) (by simp) (by simp)
    (by rw[YIw];exact CT.cons (.i _ _) (CT.cons (YbF g4) htag))
   trivial
 trivial
theorem YrO(o:Option IntKind)(t:Ty)(V:Cs)(ag:Bool)(hr:HRel Fr H0 X pl H):
  Nxt Fr H0 X pl H (.np X.length) (X++[some (.st (.i .i64 0:: .l (mapC o t V) []::List.replicate (knd ag) (.b false)))]) (.np H.length) [.push (some ⟨knd ag+2,[.v (.int .i64 0):: .rd (mapC o t V).width []::List.replicate (knd ag) (.v (.bool false))]⟩)]:=by
 obtain⟨k1,k2⟩:=Yap hr (.st (.i .i64 0:: .l (mapC o t V) []::List.replicate (knd ag) (.b false))) ⟨knd ag+2,[.v (.int .i64 0):: .rd (mapC o t V).width []::List.replicate (knd ag) (.v (.bool false))]⟩
  (fun _=>⟨H.length,.v (.int .i64 0):: .rd (mapC o t V).width []::List.replicate (knd ag) (.v (.bool false)),by unfold plS;simp,by simp,by simp,CT.cons (.i _ _) (CT.cons (YbF (Rows.none _)) ⟨by simp,fun j c a h1 h2=>by
   rw[List.getElem?_replicate]at h1 h2
   split at h1
   ·rename_i hj
    rw[if_pos hj]at h2
    injection h1 with h1;injection h2 with h2;subst h1;subst h2;exact .b _
   trivial⟩)⟩)
 exact⟨_,.np X.length H.length _ (Yam X _) (by unfold plS;simp),⟨k1,k2⟩,.inr ⟨by simp,by unfold plS;simp⟩⟩
theorem YrP{a y:Nat}{n:Int}{c:Cs}{l:List c.den}{tags:List TV}(hr:HRel Fr H0 X pl H)(ho:vget X a=some (.st (.i .i64 n:: .l c l::tags)))(hp:pl (.m a)=some y)(hl:tags.length=1\/tags.length=2):
  ∃va us,xF .mrng [.np y] (hf H) H.length=some (va,us)/\Nxt Fr H0 X pl H (.np X.length) (X++[some (.st [.np a,.i .i64 n,.i .i64 n,.l I64 [],.b false])]) va us:=by
 obtain⟨el,at',R,hy,hmo,hrow,htag⟩:=YdH hr ho hp hl
 have hyf:hf H y=some (some ⟨tags.length+2,[.v (.int .i64 n)::R::at']⟩):=hy
 refine⟨.np H.length,_,by simp only[xF,hyf,hmo];rfl,?_⟩
 obtain⟨k1,k2⟩:=Yap hr (.st [.np a,.i .i64 n,.i .i64 n,.l I64 [],.b false]) ⟨5,[[.np y,.v (.int .i64 n),.v (.int .i64 n),.rd 1 [],.v (.bool false)]]⟩
  (fun hx=>⟨H.length,[.np y,.v (.int .i64 n),.v (.int .i64 n),.rd 1 [],.v (.bool false)],by unfold plS;simp,by simp,by simp,CT.cons ((TR.np a y _ ho hp).ext hx) (CT.cons (.i _ _) (CT.cons (.i _ _) (CT.cons (show TR _ _ (.l I64 []) (.rd 1 [])from YbF (c:=I64) (Rows.none _)) (CT.cons (.b _) CT.nil))))⟩)
 exact⟨_,.np X.length H.length _ (Yam X _) (by unfold plS;simp),⟨k1,k2⟩,.inr ⟨by simp,by unfold plS;simp⟩⟩
theorem YrQ{o:Option IntKind}{t:Ty}{V:Cs}{ag:Bool}{it:TV}{ai:AV}{K:TV->YCX->Option β}(h:YGq o t V ag it X K=some r)(hi:TR X pl it ai)(hr:HRel Fr H0 X pl H)
  {KA:AV->List Upd->Prop} (hK: ∀v va,K v X=some r->TR X pl v va->KA va []):
  ∃w us,xF .ment [ai] (hf H) H.length=some (w,us)/\KA w us:=by
 unfold YGq at h
 split at h
 ·rename_i i
  split at h
  ·rename_i a s tm c seen tg hoi
   split at h
   ·rename_i a' n l tags seen' hvm hs
    obtain⟨ec,es⟩:=YaN hs
    subst ec;subst es
    obtain⟨e1,e2⟩:=Yab h
    simp at e1
    obtain⟨e1,e3⟩:=e1
    obtain⟨rfl,e4⟩:=Yai e2
    obtain⟨yi,rfl,hpi⟩:=YaO hoi hi
    obtain⟨e,h1,_,h3⟩:=YfQ hr hoi hpi
    obtain⟨a0,r1,rfl,q0,h3⟩:=h3.inv
    obtain⟨a1,r2,rfl,q1,h3⟩:=h3.inv
    obtain⟨a2,r3,rfl,q2,h3⟩:=h3.inv
    obtain⟨a3,r4,rfl,q3,h3⟩:=h3.inv
    obtain⟨a4,r5,rfl,q4,h3⟩:=h3.inv
    have:r5=[]:=YH3.1 h3.1.symm
    subst this
    obtain⟨y,el,at',R,e5,rfl,hp,ho,hl,hy,hmo,hrow,htag⟩:=YdI hvm q0 hr
    cases q1;cases q2
    obtain⟨bl,g1,g2⟩:=YfR q3
    split at e4
    ·rename_i b hb
     split at e4
     ·rename_i en hen
      obtain⟨bb,rr,f1,f2⟩:=YGb b el l hrow en hen
      obtain⟨yv,f3,f4⟩:=YfS (X:=X) (pl:=pl) e3 f2
      have hif:hf H yi=some (some ⟨5,[[.np y,.v (.int .i64 s),.v (.int .i64 tm),a3,a4]]⟩):=h1
      have hyf:hf H y=some (some ⟨tags.length+2,[.v (.int .i64 tm)::R::at']⟩):=hy
      have hio:YEg ⟨5,[[.np y,.v (.int .i64 s),.v (.int .i64 tm),a3,a4]]⟩=some (y,s,tm,bl):=by
       unfold YEg;simp_all
      have hlast:bl.getLast?=some [.v (.int .i64 b)]:=by
       rw[List.getLast?_eq_getElem?]at hb⊢
       have hlen:bl.length=seen.length:=g2.1
       rw[hlen]
       obtain⟨e',he'⟩:=Yah (l:=bl) (l':=seen) hlen hb
       rw[he']
       have hcc:=g2.2 _ e' b he' hb
       have hl1:=hcc.1
       match e',hl1 with
       | [z],_=>
         have:=hcc.2 0 z _ rfl rfl
         rw[show z= .v (.int .i64 b)from YaK this]
      refine⟨_,[],by simp only[xF,hif,hio,hyf,hlast,hmo,decide_true,cond_true,f1,show tags.length+2-2=knd ag by omega,f3];rfl,hK _ _ e4 ?_⟩
      refine .tp _ _ rfl (fun j c a h1 h2=> ?_)
      match j,h1,h2 with
      |0,h1,h2=>
       simp at h1 h2;subst h1;subst h2
       cases o with
       |none=>exact .s _
       |some q=>exact .i _ _
      |1,h1,h2=>simp_all
      |j+2,h1,h2=>trivial
     trivial
    trivial
   trivial
  trivial
 trivial
theorem YrR{a:Nat}{c c':Cs}{l:List c'.den}{m0:List c.den}{m:List c'.den}{x:TV}{ad ax:AV}(hr:HRel Fr H0 X pl H)(ho:vget X a=some (.sq c' l))(hd:TR X pl (.ref a) ad)(hs:srcV c x=some m0)(hx:TR X pl x ax)(hm:asL c c' m0=some m)(h0:0<c.width):
  ∃va us,xF (.cpy c.width) [ad,ax] (hf H) H.length=some (va,us)/\Nxt Fr H0 X pl H (.i .i64 ((min m.length l.length:Nat):Int)) (vset X a (some (.sq c' (m.take (min m.length l.length)++l.drop (min m.length l.length))))) va us:=by
 obtain⟨ec,em⟩:=YaN hm
 subst ec;subst em
 obtain⟨y,n,rfl,hp,hn⟩:=Yao ho hd
 injection hn with hn;subst hn
 obtain⟨y',el,h1,h2,h3,h4⟩:=hr.obj a _ ho
 rw[hp]at h1;injection h1 with h1;subst h1
 obtain⟨sl,g1,g2,g3⟩:=YcD hs hx
 have hyf:hf H y=some (some ⟨c.width,el⟩):=h2
 have hb:((YDO c.width ax&& (YIq 0 0&&YIq l.length el.length))&& (YIq c.width c.width&& ((sl.all fun e=>YIq e.length c.width)&&YIt 0 c.width)))=true:=by
  rw[g2,h4.1,Nat.beq_refl,Nat.beq_refl,YcB (YbE g3)]
  simp_all
 refine⟨.v (.int .i64 ((min sl.length l.length:Nat):Int)),[.set y (some ⟨c.width,sl.take (min sl.length l.length)++el.drop (min sl.length l.length)⟩)],by simp only[xF,hyf,g1,hb,cond_true],?_⟩
 have hlen:sl.length=m0.length:=g3.1
 refine⟨pl,by rw[hlen];exact .i _ _,?_,.inl (Yag _ _ _)⟩
 refine YbB hr ho hp _ (by simp[elN];omega) (by simp[lenO];omega) (fun _ _ _ _ e=>by cases e) (fun _ _ _ _ e=>by cases e) (fun hx=>⟨y,_,hp,YIf (YHT.1 h2).1,h3,?_⟩)
 rw[hlen]
 refine YbD ⟨by simp_all,fun i e v k1 k2=> ?_⟩ ⟨by simp_all,fun i e v k1 k2=> ?_⟩
 ·rw[YIe]at k1 k2
  split at k1
  ·rename_i hi
   rw[if_pos hi]at k2
   exact g3.2 i e v k1 k2
  trivial
 ·rw[YIi]at k1 k2
  exact h4.2 _ e v k1 k2
end
end Go.Abs
namespace Go.Abs
open Go Go.RowKit
section
variable{Fr:Nat->Prop}{H0:Heap}{X:YCX}{pl:Pl}{H:Heap}{β:Type}{r:β}{env:VEnv}{ae:Env}
theorem YjN(he:ERel X pl env ae){K:List AV->Prop}: ∀{ps:List (Nat×Nat×VOpd)} {l l':List TV} {as:List AV},YFG X l env ps=some l'->CT X pl l as->(∀as',CT X pl l' as'->K as')->YEu as ae (er3 ps) K
 | [],l,l',as,h,hc,hk=>by injection h with h;subst h;exact hk _ hc
 | (off,n,x)::ps,l,l',as,h,hc,hk=>by
   simp only[YFG]at h
   split at h
   ·rename_i cs hcs
    obtain⟨e1,e2⟩:=Yab h
    refine YbW hcs (Yau he x) (fun bs hbs=>⟨by rw[<-hbs.1];simp_all,by rw[<-hc.1];simp_all,?_⟩)
    exact YjN he e2 (hc.spl hbs off) hk
   trivial
theorem YfT(he:ERel X pl env ae){es:Nat}{K:List (List AV)->Prop}: ∀{ps:List (Nat×VOpd)} {l l':List (List TV)} {as:List (List AV)},YEQ X es l env ps=some l'->CE X pl l as->(∀e∈l,e.length=es)->
  (∀as',CE X pl l' as'->(∀e∈l',e.length=es)->K as')->YDG es as ae (er2 ps) K
 | [],l,l',as,h,hc,hz,hk=>by injection h with h;subst h;exact hk _ hc hz
 | (i,x)::ps,l,l',as,h,hc,hz,hk=>by
   simp only[YEQ]at h
   split at h
   ·rename_i cs hcs
    obtain⟨e1,e2⟩:=Yab h
    simp only[YIK]at e1
    have hcl:=YIu e1.1
    have hi:i<l.length:=by simp_all
    refine YbW hcs (Yau he x) (fun bs hbs=>⟨by rw[<-hbs.1];omega,by rw[<-hc.1];exact hi,?_⟩)
    refine YfT he e2 ⟨by simp[hc.1],fun k e f h1 h2=> ?_⟩ (fun e he'=> ?_) hk
    ·by_cases hk:k=i
     ·grind
     ·rw[YH0 (Ne.symm hk)]at h1 h2
      exact hc.2 k e f h1 h2
    grind
   trivial
theorem YdK: ∀(c:Cs),CT X pl c.zcells (c.zeros.map zc)/\c.zcells.length=c.width/\CC (c.zeros.map zc) (c.enc c.dft)
 | .nil=>⟨.nil,rfl,rfl,fun j x x' h=>by trivial⟩
 | .cons t r=>by
   obtain⟨h1,h2,h3⟩:=YdK r
   have key: ∀{t:Ty} {z:TV},TR X pl z (zc t.zero)->Coe (zc t.zero) (t.enc t.dft)->(Cs.zcells (.cons t r)=z::r.zcells)->CT X pl (Cs.zcells (.cons t r)) ((Cs.zeros (.cons t r)).map zc)/\ (Cs.zcells (.cons t r)).length=(Cs.cons t r).width/\CC ((Cs.zeros (.cons t r)).map zc) ((Cs.cons t r).enc (Cs.cons t r).dft):=by
    intro t z g1 g2 g3
    rw[g3]
    refine⟨.cons g1 h1,by simp[Cs.width,h2],?_⟩
    simp only[Cs.zeros,YHX,Cs.enc,Cs.dft,Yby,Ybz]
    refine⟨by simp[h3.1],fun j x x' k1 k2=> ?_⟩
    cases j with
    |zero=>simp_all
    |succ j=>exact h3.2 j x x' (by simp_all) k2
   cases t with
   |i k=>exact key (.i _ _) (.refl _) rfl
   |b=>exact key (.b _) (.refl _) rfl
   |s=>exact key (.s _) (.refl _) rfl
   |l c=>exact key (.e _) (.empRd _) rfl
theorem YdL{es:Nat}{L:List (List AV)}{c:Cs}{l:List c.den}(h:Rows L c l):Coe (.rd es L) (.rd es (l.map c.enc)):=by
 refine .rd es _ _ (by simp[h.1]) (fun i e e' h1 h2=> ?_) (fun i e e' j x x' h1 h2 h3 h4=> ?_)
 all_goals
  rw[YHW,YID]at h2
  obtain⟨v,h2,rfl⟩:=h2
 ·exact(h.2 i e v h1 h2).1
 ·exact(h.2 i e v h1 h2).2 j x x' h3 h4
theorem YaL(he:ERel X pl env ae){o:Option VOpd}{d:Int}{dA:Nat}(hd:d=(dA:Nat)){n:Int}(h:vsb env o d=some n)(h0:0<=n){K:Nat->Prop}(hk:K n.toNat):slB ae (o.map VOpd.er) dA K:=by
 cases o with
 |none=>
  injection h with h;subst h;subst hd
  trivial
 |some x=>
  simp only[vsb]at h
  split at h
  ·rename_i k m hx
   injection h with h;subst h
   have:=Yau he x
   rw[hx]at this
   simp only[YIE,slB,opK]
   generalize opd ae x.er=av at this⊢
   cases this
   exact⟨_,_,rfl,h0,hk⟩
  trivial
theorem YaP(he:ERel X pl env ae)(xs:List VOpd):CT X pl (xs.map (vo env)) ((xs.map VOpd.er).map (opd ae)):=by
 induction xs with
 |nil=>exact .nil
 |cons x xs ih=>exact .cons (Yau he x) ih
theorem YjO{g:Bool}{n:Nat}{cs:List TV}{as:List AV}{K:TV->YCX->Option β}(h:(match YEi g n cs with|some a=>K a X|none=>none)=some r)(hc:CT X pl cs as){KA:AV->Prop}(hk: ∀v va,K v X=some r->TR X pl v va->KA va):YDD g n as KA:=by
 split at h
 ·rename_i v hv;exact Yju hv hc (fun a ha=>hk v a h ha)
 trivial
theorem YrS{op:VOp}{K:TV->YCX->Option β}(h:vG op env X K=some r)(he:ERel X pl env ae)(hr:HRel Fr H0 X pl H){KA:AV->List Upd->Prop}
  (hk: ∀v X' va us,K v X'=some r->Nxt Fr H0 X pl H v X' va us->KA va us):evG op.aop ae (hf H) H.length KA:=by
 have same: ∀v va,K v X=some r->TR X pl v va->KA va []:=fun v va h1 h2=>hk _ _ _ _ h1 (.same hr h2)
 have vok:=fun x=>Yau he x
 have hn:=fun o=>Yam X o
 cases op<;>simp only[vG]at h<;>simp only[VOp.aop,evG,opK]
 case mm mx xs=>
  have hm:=YaP he xs
  generalize hxs:xs.map (vo env)=l at h hm
  generalize(xs.map VOpd.er).map (opd ae)=as at hm
  split at h
  ·rename_i k m l'
   obtain⟨a,as',rfl,h1,h2⟩:=hm.inv
   cases h1
   split at h
   ·rename_i v hv
    obtain⟨a,h3,h4⟩:=Yjy hv h2
    exact⟨a,by trivial,same _ _ h h4⟩
   trivial
  trivial
 case emz x lo hi mx=>
  have h1:=vok x;have h2:=vok lo;have h3:=vok hi;have h4:=vok mx
  simp only[YHX,YHZ]
  generalize opd ae x.er=ax at h1⊢
  generalize opd ae lo.er=al at h2⊢
  generalize opd ae hi.er=ah at h3⊢
  generalize opd ae mx.er=am at h4⊢
  split at h
  ·rename_i e2 e3 e4
   rw[e2]at h2;rw[e3]at h3;rw[e4]at h4
   cases h2;cases h3;cases h4
   obtain⟨⟨rfl,rfl,rfl⟩,g2⟩:=Yai h
   have hz:YEq (.v (.int ‹_› 0))=true:=rfl
   refine⟨.emp,?_,?_⟩
   ·simp only[pvF,YEq,decide_true,and_self,if_true]
    split at g2
    ·rename_i e1;rw[e1]at h1
     cases h1 with
     |l _ _ _ hc=>rcases YaV hc with⟨rfl,_⟩| ⟨l0,rfl,_⟩<;>rfl
    ·rename_i e1;rw[e1]at h1;cases h1;rfl
    trivial
   ·split at g2
    ·exact same _ _ g2 (.e _)
    ·exact same _ _ g2 (.e _)
    trivial
  trivial
 case mv x=>grind
 case pick c a b=>
  have h1:=vok c
  generalize opd ae c.er=ac at h1⊢
  split at h
  ·rename_i t e1
   rw[e1]at h1;cases h1
   refine⟨t,rfl,fun ht=> ?_,fun ht=> ?_⟩
   ·grind
   grind
  trivial
 case box x=>
  split at h
  ·rename_i c cs hcs
   obtain⟨e1,e2⟩:=Yab h
   have hl:cs.length+1<=1000:=by simp_all
   refine YbW hcs (vok x) (fun as has=>⟨by rw[<-has.1];simp,by rw[<-has.1];simp[maxEl];omega,?_⟩)
   obtain⟨k1,k2⟩:=Yap hr (.st (c::cs)) ⟨as.length,[as]⟩ (fun hx=>⟨H.length,as,by unfold plS;simp,by rw[has.1];simp,by simp,has.ext hx⟩)
   exact hk _ _ _ _ e2 ⟨_,.ptr X.length 0 0 H.length _ (hn _) (by simp[elN]) (by unfold plS;simp),⟨k1,k2⟩,.inr ⟨by simp,by unfold plS;simp⟩⟩
  trivial
 case alloc z=>
  obtain⟨e1,e2⟩:=Yab h
  simp only[YIK,YIb]at e1
  have hz:(z.map K1.val).map zc=z.map K1.av:=by
   rw[YIc];exact List.map_congr_left (fun k hk=>Yjr (e1.1 k hk))
  have hm:=CT.map1 (X:=X) (pl:=pl) z
  obtain⟨k1,k2⟩:=Yap hr (.st (z.map K1.tv)) ⟨(z.map K1.val).length,[(z.map K1.val).map zc]⟩ (fun hx=>⟨H.length,z.map K1.av,by unfold plS;simp,by simp_all,by simp_all,hm.ext hx⟩)
  exact hk _ _ _ _ e2 ⟨_,.ptr X.length 0 0 H.length _ (hn _) (by simp[elN]) (by unfold plS;simp),⟨k1,k2⟩,.inr ⟨by simp,by unfold plS;simp⟩⟩
 case build z ps=>
  obtain⟨e1,e2⟩:=Yab h
  simp only[YIb]at e1
  have hz:(z.map K1.val).map zc=z.map K1.av:=by
   rw[YIc];exact List.map_congr_left (fun k hk=>Yjr (e1 k hk))
  split at e2
  ·rename_i cs hcs
   rw[hz]
   exact YjN he hcs (CT.map1 z) (fun as has=>same _ _ e2 (.ag _ _ has.1 has.2))
  trivial
 case bsl c n ps=>
  obtain⟨e1,e2⟩:=Yab h
  obtain⟨z1,z2,z3⟩:=YdK (X:=X) (pl:=pl) c
  have hce:CE X pl (List.replicate n c.zcells) (List.replicate n (c.zeros.map zc)):=⟨by simp,fun i e f h1 h2=>by
   grind⟩
  have hzl: ∀e∈List.replicate n c.zcells,e.length=c.width:=fun e he=>by simp_all
  split at e2
  ·rename_i hf
   refine YfT he hf hce hzl (fun as has _=> ?_)
   have hl:=has.1
   cases as with
   |nil=>exact same _ _ e2 (.e _)
   |cons _ _=>trivial
  ·rename_i e els hf
   refine YfT he hf hce hzl (fun as has hz=> ?_)
   have hl:=has.1
   cases as with
   |nil=>trivial
   |cons f fs=>
    split at e2
    ·rename_i l hp
     exact same _ _ e2 (.l c l _ (YdL (Ycy hp has)))
    ·refine same _ _ e2 (.lt c.width _ _ hl (by simp) hz (fun f' hf'=> ?_) (fun i j e f c a h1 h2 h3 h4=>(has.2 i e f h1 h2).2 j c a h3 h4))
     obtain⟨i,hi⟩:=YH4.1 hf'
     have hil:=(YHT.1 hi).1
     have hil':i< (e::els).length:=by omega
     have:=has.2 i _ _ (YHV hil') hi
     rw[<-this.1];grind
  trivial
 case load g n x=>exact YjB h (vok x) hr (fun v va h1 h2=>same v va h1 h2)
 case loadR g n x=>
  have h1:=vok x
  generalize opd ae x.er=ax at h1⊢
  split at h
  ·rename_i cs e1
   rw[e1]at h1
   cases h1 with
   |rp _ as hl hc=>exact YjO h ⟨hl,hc⟩ (fun v va h1 h2=>same v va h1 h2)
  trivial
 case store n x y=>exact Yrq h (vok x) (vok y) hr hk
 case nilc x=>
  have h1:=vok x
  generalize opd ae x.er=ax at h1⊢
  split at h
  ·rename_i e1;rw[e1]at h1;have h2:=h1;cases h2;grind
  ·rename_i a i j e1;rw[e1]at h1
   obtain⟨g1,g2⟩:=Yab h
   obtain⟨o,ho⟩:=YIG.1 g1
   obtain⟨x',rfl,hp,hi⟩:=Ybj ho h1
   grind
  ·rename_i a ver i k j e1;rw[e1]at h1
   split at h
   ·rename_i c ver' l ho
    obtain⟨g1,g2⟩:=Yab h
    have:=YIu g1;subst this
    obtain⟨y,rfl,_⟩:=YfK ho h1
    grind
   trivial
  ·rename_i e1;rw[e1]at h1;have h2:=h1;cases h2;grind
  trivial
 case bin op x y=>exact Yrm h (vok x) (vok y) (fun w z h1 h2=>same _ _ h1 h2)
 case beq ng x y=>
  have h1:=vok x;have h2:=vok y
  generalize opd ae x.er=ax at h1⊢
  generalize opd ae y.er=ay at h2⊢
  split at h
  ·rename_i e1 e2
   rw[e1]at h1;rw[e2]at h2;cases h1;cases h2
   refine⟨_,rfl,_,rfl,?_⟩
   cases ng<;>exact same _ _ h (.b _)
  trivial
 case eqa ng ks x y=>
  have h1:=vok x;have h2:=vok y
  generalize opd ae x.er=ax at h1⊢
  generalize opd ae y.er=ay at h2⊢
  split at h
  ·rename_i cs ds e1 e2
   rw[e1]at h1;rw[e2]at h2
   cases h1 with
   |ag _ as hl hc=>
    cases h2 with
    |ag _ bs hl' hc'=>
     split at h
     ·rename_i b hb
      refine⟨as,bs,b,rfl,rfl,Yjx hb ⟨hl,hc⟩ ⟨hl',hc'⟩,?_⟩
      cases ng<;>exact same _ _ h (.b _)
     trivial
  trivial
 case not x=>
  have h1:=vok x
  generalize opd ae x.er=ax at h1⊢
  split at h
  ·rename_i e1;rw[e1]at h1;cases h1;exact⟨_,rfl,same _ _ h (.b _)⟩
  trivial
 case neg x=>
  have h1:=vok x
  generalize opd ae x.er=ax at h1⊢
  split at h
  ·rename_i e1;rw[e1]at h1;cases h1;exact⟨_,_,rfl,same _ _ h (.i _ _)⟩
  trivial
 case conv k x=>
  have h1:=vok x
  generalize opd ae x.er=ax at h1⊢
  split at h
  ·rename_i e1;rw[e1]at h1;cases h1;exact⟨_,_,rfl,same _ _ h (.i _ _)⟩
  trivial
 case cvs x=>
  have h1:=vok x
  generalize opd ae x.er=ax at h1⊢
  split at h
  ·rename_i e1;rw[e1]at h1;cases h1;exact⟨_,rfl,same _ _ h (.s _)⟩
  trivial
 case fad off x=>
  have h1:=vok x
  generalize opd ae x.er=ax at h1⊢
  split at h
  ·rename_i e1;rw[e1]at h1
   cases h1 with
   |rp cs as hl hc=>exact same _ _ h (.rp _ _ (CT.drop ⟨hl,hc⟩ off).1 (CT.drop ⟨hl,hc⟩ off).2)
  ·rename_i a i j e1;rw[e1]at h1
   obtain⟨g1,g2⟩:=Yab h
   obtain⟨o,ho⟩:=YIG.1 g1
   obtain⟨x',rfl,hp,hi⟩:=Ybj ho h1
   exact same _ _ g2 (.ptr a i _ x' o ho hi hp)
  ·rename_i a ver i k j e1;rw[e1]at h1
   split at h
   ·rename_i c ver' l ho
    obtain⟨g1,g2⟩:=Yab h
    have:=YIu g1;subst this
    obtain⟨y,rfl,hi,hkk,hp⟩:=YfK ho h1
    exact same _ _ g2 (.pti a ver i k _ y c l ho hi hkk hp)
   trivial
  trivial
 case fld g off n x=>
  have h1:=vok x
  generalize opd ae x.er=ax at h1⊢
  split at h
  ·rename_i e1;rw[e1]at h1
   cases h1 with
   |ag cs as hl hc=>
    obtain⟨g1,g2⟩:=Yab h
    exact⟨as,rfl,by simp_all,YjO g2 (CT.drop ⟨hl,hc⟩ off) (fun v va h1 h2=>same v va h1 h2)⟩
  trivial
 case iad es x i=>exact Yrr h (vok x) (vok i) hr (fun v va h1 h2=>same v va h1 h2)
 case iada=>cases h
 case idx x i=>
  have h1:=vok x;have h2:=vok i
  generalize opd ae x.er=ax at h1⊢
  generalize opd ae i.er=ai at h2⊢
  split at h
  ·rename_i s k n e1 e2
   rw[e1]at h1;rw[e2]at h2;cases h1;cases h2
   obtain⟨g1,g2⟩:=Yai h
   have hlt:n.toNat<s.size:=by omega
   refine⟨s,rfl,k,n,rfl,g1.1,s[n.toNat],getElem?_pos s n.toNat hlt,?_⟩
   have hb:YCZ s n=((s[n.toNat]).toNat:Int):=by
    have hlt2:n.toNat<s.data.size:=hlt
    simp only[YCZ,YIQ,YIT hlt2,YIH];rfl
   rw[hb]at g2
   exact same _ _ g2 (.i _ _)
  trivial
 case slcS x lo hi=>
  have h1:=vok x
  generalize opd ae x.er=ax at h1⊢
  split at h
  ·rename_i s e1;rw[e1]at h1;cases h1
   split at h
   ·rename_i l u hl hu
    obtain⟨⟨g1,g2,g3⟩,g4⟩:=Yai h
    exact⟨s,rfl,YaL he rfl hl g1 (YaL he rfl hu (by omega) ⟨by omega,by omega,same _ _ g4 (.s _)⟩)⟩
   trivial
  trivial
 case slcR es x lo hi=>
  have h1:=vok x
  generalize opd ae x.er=ax at h1⊢
  split at h
  ·rename_i c v e1;rw[e1]at h1
   obtain⟨g1,g2⟩:=Yab h
   split at g2
   ·rename_i l u hl hu
    obtain⟨⟨q1,q2,q3⟩,q4⟩:=Yai g2
    cases h1 with
    |l _ _ _ hc=>
     rcases YaV hc with⟨rfl,hb⟩| ⟨l0,rfl,hl0,hcc⟩
     ·have hv:v=[]:=by simp_all
      subst hv
      simp only[List.length_nil]at q3 hu
      refine YaL he rfl hl q1 (YaL he rfl hu (by omega) ⟨by omega,by omega,same _ _ q4 ?_⟩)
      refine .l c _ _ ?_
      simp_all
     ·simp only[YIa]at hl0
      refine⟨YIu g1,YaL he rfl hl q1 (YaL he (dA:=l0.length) (by rw[hl0]) hu (by omega) ⟨by omega,by omega,same _ _ q4 ?_⟩)⟩
      refine .l c _ _ (YdL ⟨by grind,fun i e w k1 k2=> ?_⟩)
      grind
   trivial
  ·rename_i c e1;rw[e1]at h1;cases h1
   split at h
   ·rename_i l u hl hu
    obtain⟨⟨rfl,rfl⟩,q4⟩:=Yai h
    exact YaL he rfl hl (by omega) (YaL he rfl hu (by omega) ⟨rfl,rfl,same _ _ q4 (.e _)⟩)
   trivial
  ·rename_i a e1;rw[e1]at h1
   split at h
   ·rename_i c l ho
    obtain⟨x',n,rfl,hp,hnn⟩:=Yao ho h1
    have hnl:=hnn
    simp only[lenO]at hnl;injection hnl with hnl;subst hnl
    split at h
    ·rename_i lo' hl
     obtain⟨rfl,q4⟩:=Yai h
     exact YaL he rfl hl (by omega) ⟨rfl,YIr _,same _ _ q4 (.ref a x' _ _ ho hnn hp)⟩
    ·rename_i lo' hi' hl
     split at h
     ·rename_i k u hu
      obtain⟨⟨rfl,q2,q3⟩,q4⟩:=Yai h
      have h2:=vok hi'
      rw[hu]at h2
      refine YaL he rfl hl (by omega) ?_
      simp only[YIE,slB,opK]
      generalize opd ae hi'.er=ah at h2⊢
      cases h2
      exact⟨k,u,rfl,q2,rfl,by omega,same _ _ q4 (.pre a x' u _ _ ho hnn hp q2 (by omega))⟩
     trivial
    trivial
   trivial
  ·rename_i a m e1;rw[e1]at h1
   split at h
   ·rename_i c l ho
    obtain⟨x',n,rfl,hp,hnn,h0,hm⟩:=YbV ho h1
    split at h
    ·rename_i lo' u hl hu
     obtain⟨⟨rfl,q2,q3⟩,q4⟩:=Yai h
     exact YaL he rfl hl (by omega) (YaL he (dA:=m.toNat) (by omega) hu q2 ⟨rfl,by omega,same _ _ q4 (.pre a x' u _ _ ho hnn hp q2 (by omega))⟩)
    trivial
   trivial
  trivial
 case ext x i=>
  have h1:=vok x
  generalize opd ae x.er=ax at h1⊢
  split at h
  ·rename_i cs e1;rw[e1]at h1
   cases h1 with
   |tp _ as hl hc=>
    grind
  trivial
 case len x=>
  have h1:=vok x
  generalize opd ae x.er=ax at h1⊢
  unfold vlen at h
  split at h
  ·rename_i c v e1;rw[e1]at h1
   cases h1 with
   |l _ _ _ hc=>
    rcases YaV hc with⟨rfl,hb⟩| ⟨l0,rfl,hl0,_⟩
    ·have hv:v=[]:=by simp_all
     subst hv;exact same _ _ h (.i _ _)
    ·simp only[YIa]at hl0
     rw[<-hl0]at h;exact same _ _ h (.i _ _)
  ·rename_i e1;rw[e1]at h1;cases h1;exact same _ _ h (.i _ _)
  ·rename_i els e1;rw[e1]at h1
   cases h1 with
   |lt es _ as hl=>rw[hl]at h;exact same _ _ h (.i _ _)
  ·rename_i a e1;rw[e1]at h1
   split at h
   ·rename_i ho
    obtain⟨x',n,rfl,hp,hnn⟩:=Yao ho h1
    simp only[lenO]at hnn;injection hnn with hnn;subst hnn
    exact same _ _ h (.i _ _)
   ·rename_i ho
    obtain⟨x',n,rfl,hp,hnn⟩:=Yao ho h1
    simp only[lenO]at hnn;injection hnn with hnn;subst hnn
    exact same _ _ h (.i _ _)
   ·rename_i ho
    obtain⟨x',n,rfl,hp,hnn⟩:=Yao ho h1
    simp only[lenO]at hnn;injection hnn with hnn;subst hnn
    exact same _ _ h (.i _ _)
   trivial
  ·rename_i a m e1;rw[e1]at h1
   split at h
   ·rename_i ho
    obtain⟨x',n,rfl,hp,hnn,h0,hm⟩:=YbV ho h1
    have:m=((m.toNat:Nat):Int):=by omega
    rw[this]at h
    exact same _ _ h (.i _ _)
   trivial
  ·rename_i a ver i e1;rw[e1]at h1
   split at h
   ·rename_i c ver' l ho
    obtain⟨g1,g2⟩:=Yab h
    have:=YIu g1;subst this
    obtain⟨hi,⟨y,rfl,hp⟩| ⟨rfl,hp,h0⟩⟩:=YfJ ho h1
    ·exact same _ _ g2 (.i _ _)
    ·rw[h0]at g2;exact same _ _ g2 (.i _ _)
   trivial
  trivial
 case lenS x=>
  have h1:=vok x
  generalize opd ae x.er=ax at h1⊢
  split at h
  ·rename_i e1;rw[e1]at h1;cases h1;exact⟨_,rfl,same _ _ h (.i _ _)⟩
  trivial
 case app c w s x=>exact Yru h (vok s) (vok x) hr hk
 case mksl c w n cp=>
  have h1:=vok n;have h2:=vok cp
  generalize opd ae n.er=an at h1⊢
  generalize opd ae cp.er=ac at h2⊢
  split at h
  ·rename_i k n k' m e1 e2
   rw[e1]at h1;rw[e2]at h2;cases h1;cases h2
   obtain⟨⟨g1,g2,g3⟩,g4⟩:=Yai h
   refine⟨_,_,rfl,_,_,rfl,g1,g2,g3,?_⟩
   split at g4
   ·rename_i c'
    obtain⟨q1,q2⟩:=Yab g4
    obtain⟨k1,k2⟩:=Yap hr (.fm c' 0 none (List.replicate n.toNat [])) ⟨1,List.replicate n.toNat [.emp]⟩ (fun hx=>⟨H.length,List.replicate n.toNat [.emp],by unfold plS;simp,by simp,by simp_all,by simp,fun e he=>by simp_all,fun i e v a1 a2 _=>by
      rw[List.getElem?_replicate]at a1 a2
      split at a1
      ·rename_i hi;rw[if_pos hi]at a2;injection a1 with a1;injection a2 with a2
       refine .inr ⟨?_,a2.symm,a1.symm⟩
       unfold plS;rw[if_neg (fun e=>by cases e)];exact hr.dead (Yat (YIr _))
      trivial⟩)
    exact hk _ _ _ _ q2 ⟨_,.ref X.length H.length _ _ (hn _) (by simp[lenO]) (by unfold plS;simp),⟨k1,k2⟩,.inr ⟨by simp,by unfold plS;simp⟩⟩
   ·obtain⟨q1,q2⟩:=Yab g4
    obtain⟨z1,z2,z3⟩:=YdK (X:=X) (pl:=pl) c
    obtain⟨k1,k2⟩:=Yap hr (.sq c (List.replicate n.toNat c.dft)) ⟨c.width,List.replicate n.toNat (c.zeros.map zc)⟩ (fun hx=>⟨H.length,List.replicate n.toNat (c.zeros.map zc),by unfold plS;simp,by simp,by simp_all,by simp,fun i e v a1 a2=>by
      grind⟩)
    exact hk _ _ _ _ q2 ⟨_,.ref X.length H.length _ _ (hn _) (by simp[lenO]) (by unfold plS;simp),⟨k1,k2⟩,.inr ⟨by simp,by unfold plS;simp⟩⟩
   trivial
  trivial
 case mkf f caps=>exact same _ _ h (.clo f _ _ (YaP he caps).1 (YaP he caps).2)
 case call=>cases h
 case dyn=>cases h
 case dynP=>cases h
 case callN=>cases h
 case lit c xs=>
  split at h
  ·rename_i e els hc
   obtain⟨e1,e2⟩:=Yab h
   simp only[YIK,Nat.ble_eq]at e1
   split at e2
   ·rename_i l hp
    obtain⟨va,us,k1,k2⟩:=YrF hc hp (YIB e1.1) e1.2 (YaP he xs) hr
    grind
   trivial
  trivial
 case appD c s x=>
  obtain⟨e1,e2⟩:=Yab h
  exact Yrx (YIB e1) e2 (vok s) (vok x) hr hk
 case apps s x=>
  have h2:=vok x
  split at h
  ·rename_i b e1
   rw[e1]at h2
   have:opd ae x.er= .v (.string b):=YjI h2
   simp only[YHX,YHZ,this]
   exact Yrz h (vok s) hr hk
  trivial
 case appb s x=>exact YrB h (vok s) (vok x) hr hk
 case appDb s x=>exact YrC h (vok s) (vok x) hr hk
 case litb xs=>
  split at h
  ·rename_i e els hc
   obtain⟨e1,e2⟩:=Yab h
   simp only[Nat.ble_eq]at e1
   split at e2
   ·rename_i l hp
    obtain⟨e3,e4⟩:=Yab e2
    obtain⟨va,us,k1,k2⟩:=YrD hc hp e3 e1 (YaP he xs) hr
    grind
   trivial
  trivial
 case bstr x=>exact YrE h (vok x) hr same
 case bld=>exact⟨_,_,rfl,hk _ _ _ _ h (YrG hr)⟩
 case isp ng x=>
  have h2:=vok x
  simp only[YHX,YHZ]
  generalize opd ae x.er=ax at h2⊢
  split at h
  ·rename_i e1
   rw[e1]at h2;cases h2
   refine⟨.v (.bool !ng),by rfl,same _ _ h (.b _)⟩
  ·rename_i a p q e1
   rw[e1]at h2
   obtain⟨e2,e3⟩:=Yab h
   cases h2 with
   |ptr _ _ _ y o h hi hp=>exact⟨.v (.bool ng),rfl,same _ _ e3 (.b _)⟩
   |ptrD _ _ _ _ h _=>simp_all
  trivial
 case sbyt x=>
  have h2:=vok x
  split at h
  ·rename_i b e1
   rw[e1]at h2
   have:opd ae x.er= .v (.string b):=YjI h2
   refine⟨.rd 1 (strA b),by simp only[YHX,YHZ,this,pvF];rfl,same _ _ h (.l U8 (strL b) _ (rows_coe' (YaX b).rows))⟩
  trivial
 case add64 xs=>
  have h2:=YaP he xs
  split at h
  ·rename_i x y c e1
   obtain⟨e2,e3⟩:=Yai h
   rw[YjJ e1 h2]
   refine⟨.tup [.v (.int .u64 (YDT x y c).1),.v (.int .u64 (YDT x y c).2)],by simp only[pvF,if_pos e2],same _ _ e3 (.tp _ _ rfl (fun j c a h1 h2=> ?_))⟩
   match j,h1,h2 with
   |0,h1,h2=>simp at h1 h2;subst h1;subst h2;exact .i _ _
   |1,h1,h2=>simp at h1 h2;subst h1;subst h2;exact .i _ _
   |j+2,h1,h2=>trivial
  trivial
 case mkm o t V ag=>
  refine⟨_,_,?_,hk _ _ _ _ h (YrO o t V ag hr)⟩
  cases ag<;>rfl
 case mget o t V ag ok m k=>
  obtain⟨v,us,h1,h2⟩:=YrK h (vok m) (vok k) hr (YdK (X:=X) (pl:=pl) (.cons t V)).2.2 same
  exact⟨v,us,h1,h2⟩
 case mput o t V ag m k v=>
  obtain⟨w,us,h1,h2⟩:=YrM h (vok m) (vok k) (vok v) hr hk
  grind
 case mdel o t V m k=>
  obtain⟨w,us,h1,h2⟩:=YrN h (vok m) (vok k) hr hk
  grind
 case mlen m=>
  have h2:=vok m
  split at h
  ·rename_i a e1
   rw[e1]at h2
   split at h
   ·rename_i n c l tags ho
    obtain⟨e3,e4⟩:=Yab h
    simp only[Bool.or_eq_true,Nat.beq_eq]at e3
    obtain⟨y,e5,hp⟩:=YaO ho h2
    obtain⟨el,at',R,hy,hmo,hrow,_⟩:=YdH hr ho hp e3
    have hyf:hf H y=some (some ⟨tags.length+2,[.v (.int .i64 n)::R::at']⟩):=hy
    refine⟨.v (.int .i64 (el.length:Nat)),[],by simp only[YHX,YHZ,e5,xF,hyf,hmo],same _ _ e4 ?_⟩
    rw[hrow.1];exact .i _ _
   trivial
  trivial
 case mrng m=>
  have h2:=vok m
  split at h
  ·rename_i a e1
   rw[e1]at h2
   split at h
   ·rename_i n c l tags ho
    obtain⟨e3,e4⟩:=Yab h
    simp only[Bool.or_eq_true,Nat.beq_eq]at e3
    obtain⟨y,e5,hp⟩:=YaO ho h2
    obtain⟨va,us,k1,k2⟩:=YrP hr ho hp e3
    grind
   trivial
  trivial
 case ment o t V ag it=>
  obtain⟨w,us,h1,h2⟩:=YrQ h (vok it) hr same
  grind
 case mnxt it=>cases h
 case cpy c d s=>
  have h2:=vok d
  split at h
  ·rename_i a e1
   rw[e1]at h2
   split at h
   ·rename_i c' l ho
    split at h
    ·rename_i m0 hs
     split at h
     ·rename_i m hm
      obtain⟨e3,e4⟩:=Yab h
      obtain⟨va,us,k1,k2⟩:=YrR hr ho h2 hs (vok s) hm (show 1<=c.width by simpa[YIt]using e3)
      grind
     trivial
    trivial
   trivial
  trivial
 case sub64 xs=>
  have h2:=YaP he xs
  split at h
  ·rename_i x y c e1
   obtain⟨e2,e3⟩:=Yai h
   rw[YjJ e1 h2]
   refine⟨.tup [.v (.int .u64 (YDU x y c).1),.v (.int .u64 (YDU x y c).2)],by simp only[pvF,if_pos e2],same _ _ e3 (.tp _ _ rfl (fun j c a h1 h2=> ?_))⟩
   match j,h1,h2 with
   |0,h1,h2=>simp at h1 h2;subst h1;subst h2;exact .i _ _
   |1,h1,h2=>simp at h1 h2;subst h1;subst h2;exact .i _ _
   |j+2,h1,h2=>trivial
  trivial
end
end Go.Abs
namespace Go.Abs
open Go Go.RowKit
mutual
theorem SV.eq_of: ∀{x y:SV},x.eqb y=true->x=y
 | .i k,y,h=>by
   cases y<;>first| (simp[SV.eqb]at h;done)|skip
   simp only[SV.eqb,decide_eq_true_eq]at h;rw[h]
 | .b,y,h=>by cases y<;>first| (simp[SV.eqb]at h;done)|rfl
 | .s,y,h=>by cases y<;>first| (simp[SV.eqb]at h;done)|rfl
 | .u,y,h=>by cases y<;>first| (simp[SV.eqb]at h;done)|rfl
 | .nl,y,h=>by cases y<;>first| (simp[SV.eqb]at h;done)|rfl
 | .l c,y,h=>by
   cases y<;>first| (simp[SV.eqb]at h;done)|skip
   rw[Cs.eq_of (show Cs.eqb c _=true from h)]
 | .e c,y,h=>by
   cases y<;>first| (simp[SV.eqb]at h;done)|skip
   rw[Cs.eq_of (show Cs.eqb c _=true from h)]
 | .np a,y,h=>by
   cases y<;>first| (simp[SV.eqb]at h;done)|skip
   rw[YIu (show YIq a _=true from h)]
 | .ref a,y,h=>by
   cases y<;>first| (simp[SV.eqb]at h;done)|skip
   rw[YIu (show YIq a _=true from h)]
 | .pre a,y,h=>by
   cases y<;>first| (simp[SV.eqb]at h;done)|skip
   rw[YIu (show YIq a _=true from h)]
 | .ptr a p q,y,h=>by
   cases y<;>first| (simp[SV.eqb]at h;done)|skip
   simp only[SV.eqb,YIK]at h
   rw[YIu h.1.1,YIu h.1.2,YIu h.2]
 | .ag x,y,h=>by
   cases y<;>first| (simp[SV.eqb]at h;done)|skip
   rw[SV.eqs_of (show SV.eqbs x _=true from h)]
 | .tp x,y,h=>by
   cases y<;>first| (simp[SV.eqb]at h;done)|skip
   rw[SV.eqs_of (show SV.eqbs x _=true from h)]
 | .clo g x,y,h=>by
   cases y<;>first| (simp[SV.eqb]at h;done)|skip
   simp only[SV.eqb,YIK]at h
   rw[YIu h.1,SV.eqs_of h.2]
theorem SV.eqs_of: ∀{x y:List SV},SV.eqbs x y=true->x=y
 | [],[],_=>rfl
 |a::r,a'::r',h=>by
  simp only[SV.eqbs,YIK]at h
  rw[SV.eq_of h.1,SV.eqs_of h.2]
 | [],_::_,h|_::_,[],h=>by simp[SV.eqbs]at h
end
theorem SO.eq_of{x y:SO}(h:x.eqb y=true):x=y:=by
 cases x<;>cases y<;>first| (simp[SO.eqb]at h;done)|skip
 ·rw[Cs.eq_of (show _=true from h)]
 ·rw[Cs.eq_of (show _=true from h)]
 ·rw[SV.eqs_of (show _=true from h)]
 ·rfl
 ·rfl
theorem SO.eqs_of: ∀{x y:List SO},SO.eqbs x y=true->x=y
 | [],[],_=>rfl
 |a::r,a'::r',h=>by
  simp only[SO.eqbs,YIK]at h
  rw[SO.eq_of h.1,SO.eqs_of h.2]
 | [],_::_,h|_::_,[],h=>by trivial
theorem YaY(c:Cs)(v:List c.den):asL c c v=some v:=by
 unfold asL Ty.cast
 rw[dif_pos (by simpa[Ty.eqb]using Cs.eqb_refl c)]
 rfl
mutual
theorem YfU: ∀{tv:TV} {sv:SV} (r:List Lf),tv.sh=some sv->YC4 sv (tv.lv++r)=some (tv,r)
 | .i k n,sv,r,h=>by simp only[TV.sh]at h;injection h with h;subst h;simp[TV.lv,YC4]
 | .b x,sv,r,h=>by simp only[TV.sh]at h;injection h with h;subst h;simp[TV.lv,YC4]
 | .s x,sv,r,h=>by simp only[TV.sh]at h;injection h with h;subst h;simp[TV.lv,YC4]
 | .l c v,sv,r,h=>by simp only[TV.sh]at h;injection h with h;subst h;simp[TV.lv,YC4,YaY]
 | .u,sv,r,h=>by simp only[TV.sh]at h;injection h with h;subst h;simp[TV.lv,YC4]
 | .ref a,sv,r,h=>by simp only[TV.sh]at h;injection h with h;subst h;simp[TV.lv,YC4]
 | .pre a n,sv,r,h=>by simp only[TV.sh]at h;injection h with h;subst h;simp[TV.lv,YC4]
 | .ptr a p q,sv,r,h=>by simp only[TV.sh]at h;injection h with h;subst h;simp[TV.lv,YC4]
 | .np a,sv,r,h=>by simp only[TV.sh]at h;injection h with h;subst h;simp[TV.lv,YC4]
 | .ag x,sv,r,h=>by
   simp only[TV.sh]at h
   split at h
   ·rename_i y hy;injection h with h;subst h;simp only[TV.lv,YC4,YbX r hy]
   ·cases h
 | .tp x,sv,r,h=>by
   simp only[TV.sh]at h
   split at h
   ·rename_i y hy;injection h with h;subst h;simp only[TV.lv,YC4,YbX r hy]
   ·cases h
 | .clo g x,sv,r,h=>by
   simp only[TV.sh]at h
   split at h
   ·rename_i y hy;injection h with h;subst h;simp only[TV.lv,YC4,YbX r hy]
   ·cases h
 | .e c,sv,r,h=>by simp only[TV.sh]at h;injection h with h;subst h;simp[TV.lv,YC4]
 | .nl,sv,r,h=>by simp only[TV.sh]at h;injection h with h;subst h;simp[TV.lv,YC4]
 | .v _,_,_,h| .sub _ _ _,_,_,h| .pti _ _ _ _ _,_,_,h| .rp _,_,_,h| .lt _,_,_,h=>by simp[TV.sh]at h
theorem YbX: ∀{vs:List TV} {svs:List SV} (r:List Lf),TV.shs vs=some svs->YDi svs (TV.lvs vs++r)=some (vs,r)
 | [],svs,r,h=>by simp only[TV.shs]at h;injection h with h;subst h;simp[TV.lvs,YDi]
 |a::vs,svs,r,h=>by
  simp only[TV.shs]at h
  split at h
  ·rename_i x xs h1 h2
   injection h with h;subst h
   simp only[TV.lvs,YDi,YIn,YfU (TV.lvs vs++r) h1,YbX r h2]
  ·cases h
end
theorem YrT{o:VObj}{so:SO}(r:List Lf)(h:o.sh=some so):YDM so (o.lv++r)=some (o,r):=by
 cases o with
 |sq c l=>injection h with h;subst h;simp[VObj.lv,YDM,YaY]
 |fm c ver hole l=>
  cases hole with
  |some i=>cases h
  |none=>
   obtain⟨h1,h2⟩:=Yab h
   injection h2 with h2;subst h2
   have:=YIu h1;subst this
   have:=YaY (.cons (.l c) .nil) l
   simp only[VObj.lv,YDM,YIm,List.nil_append]
   grind
 |st cs=>
  simp only[VObj.sh]at h
  split at h
  ·rename_i l hl;injection h with h;subst h;simp only[VObj.lv,YDM,YbX r hl]
  trivial
 |sb s=>injection h with h;subst h;rfl
theorem YrU{o:VObj}(h:o.sh=some .dd):False:=by
 cases o with
 |sq c l=>simp[VObj.sh]at h
 |fm c ver hole l=>cases hole with
  |none=>simp only[VObj.sh]at h;grind
  |some i=>cases h
 |st cs=>simp only[VObj.sh]at h;grind
 |sb s=>cases h
theorem YdM: ∀{X:YCX} {so:List SO} (r:List Lf),shOs X=some so->YC9 so (lvOs X++r)=some (X,r)
 | [],so,r,h=>by injection h with h;subst h;rfl
 |none::X,so,r,h=>by
  simp only[shOs]at h
  split at h
  ·rename_i xs h2
   injection h with h;subst h
   simp only[lvOs,YC9,YdM r h2]
  trivial
 |some o::X,so,r,h=>by
  simp only[shOs]at h
  split at h
  ·rename_i x xs h1 h2
   injection h with h;subst h
   have hx:x≠ .dd:=fun e=>by subst e;exact YrU h1
   have:YC9 (x::xs) (o.lv++lvOs X++r)=match YDM x (o.lv++lvOs X++r)with|some (x,r)=>(match YC9 xs r with|some (xs,r)=>some (some x::xs,r)|none=>none)|none=>none:=by cases x<;>first|rfl|trivial
   simp only[lvOs]
   rw[this]
   simp only[YIn,YrT (lvOs X++r) h1,YdM r h2]
  trivial
theorem YdN: ∀l:List Lf,unp (YDL l).1 (YDL l).2=l
 | []=>rfl
 |a::r=>by
  have:=YdN r
  simp only[YDL,unp,Yby,Ybz,this]
theorem YaD{g:Sg}{vs:List TV}{X:YCX}{x:g.c.den}(h:g.read vs X=some x):g.fill x=some ⟨zipE g.ts vs,X⟩:=by
 unfold Sg.read at h
 split at h
 ·rename_i svs sos h1 h2
  obtain⟨e1,e2⟩:=Yab h
  simp at e1
  have q1:=SV.eqs_of e1.1;have q2:=SO.eqs_of e1.2
  have hu:=YdN (TV.lvs vs++lvOs X)
  generalize YDL (TV.lvs vs++lvOs X)=p at e2 hu
  obtain⟨c,z⟩:=p
  obtain⟨e,he⟩:=Cs.cast_some e2
  have hx:unp g.c x=TV.lvs vs++lvOs X:=by
   grind
  unfold Sg.fill
  rw[hx,<-q1,YbX _ h1]
  have:=YdM [] h2
  simp_all
 trivial
theorem YbY: ∀{m:List Nat} {a i j:Nat},idxV m a i=some j->i<=j/\m[j-i]?=some a
 | [],a,i,j,h=>by cases h
 |x::r,a,i,j,h=>by
  simp only[idxV]at h
  cases hx:YIq x a with
  |true=>
   simp_all
  |false=>
   rw[hx,cond_false]at h
   obtain⟨h1,h2⟩:=YbY h
   grind
theorem YbG{X:YCX}: ∀{l m:List Nat},m.Nodup->(YC5 X m l).Nodup
 | [],m,h=>h
 |a::l,m,h=>by
  simp only[YC5]
  cases hc:((vget X a).isSome&& !(m.any (YIq a)))with
  |false=>exact YbG h
  |true=>
   refine YbG ?_
   simp only[YIK,Bool.not_eq_true']at hc
   rw[List.nodup_append]
   refine⟨h,by simp,fun x hx y hy=> ?_⟩
   simp at hy
   subst hy
   intro e;subst e
   have:=List.any_eq_false.1 hc.2 x hx
   simp_all
theorem YcE{X:YCX}: ∀{d:Nat} {m:List Nat},m.Nodup->(YDc X d m).Nodup
 |0,m,h=>h
 |d+1,m,h=>by
  simp only[YDc]
  cases YIq (YC5 X m (m.flatMap fun a=>VObj.ids (vget X a))).length m.length with
  |true=>trivial
  |false=>exact YcE (YbG h)
theorem YcF{X:YCX}: ∀{l m:List Nat},(∀a∈m,∃o,vget X a=some o)-> ∀a∈YC5 X m l,∃o,vget X a=some o
 | [],m,h=>h
 |b::l,m,h=>by
  simp only[YC5]
  cases hc:((vget X b).isSome&& !(m.any (YIq b)))with
  |false=>exact YcF h
  |true=>
   simp at hc
   refine YcF (fun a ha=> ?_)
   rcases List.mem_append.1 ha with ha|ha
   ·simp_all
   ·simp at ha;subst ha;exact YIG.1 hc.1
theorem YfV{X:YCX}: ∀{d:Nat} {m:List Nat},(∀a∈m,∃o,vget X a=some o)-> ∀a∈YDc X d m,∃o,vget X a=some o
 |0,m,h=>h
 |d+1,m,h=>by
  simp only[YDc]
  cases YIq (YC5 X m (m.flatMap fun a=>VObj.ids (vget X a))).length m.length with
  |true=>trivial
  |false=>exact YfV (YcF h)
theorem YjP: ∀{m:List Nat} {a:Nat} (i:Nat),a∈m-> ∃j,idxV m a i=some j
 |x::m,a,i,h=>by
  simp only[idxV]
  cases hx:YIq x a with
  |true=>simp
  |false=>
   rcases YH1.1 h with e|h
   ·simp_all
   ·exact YjP (i+1) h
theorem YdO{m:List Nat}{a i:Nat}(h:a∉m):idxV m a i=none:=by
 cases hx:idxV m a i with
 |none=>rfl
 |some j=>exact absurd (YHU (YbY hx).2) h
theorem YcG(X:YCX): ∀(l m:List Nat),m<+:YC5 X m l
 | [],m=>List.prefix_refl _
 |a::l,m=>by
  simp only[YC5]
  cases((vget X a).isSome&& !(m.any (YIq a)))with
  |true=>exact(List.prefix_append m [a]).trans (YcG X l _)
  |false=>exact YcG X l m
theorem YfW(X:YCX): ∀(d:Nat) (m:List Nat),m<+:YDc X d m
 |0,m=>List.prefix_refl _
 |d+1,m=>by
  simp only[YDc]
  cases YIq (YC5 X m (m.flatMap fun a=>VObj.ids (vget X a))).length m.length with
  |true=>simp
  |false=>exact(YcG X _ m).trans (YfW X d _)
theorem YdP(f:Nat->Option VObj): ∀(m:List Nat) (b:Nat),vget (m.map f) b=(m[b]?).bind f
 | [],b=>by rfl
 |a::m,0=>by rfl
 |a::m,b+1=>by simp only[YHX,vget,YdP f m b,List.getElem?_cons_succ]
theorem Yaq(r:Nat->Option Nat): ∀l:List TV,TV.rens r l=l.map (TV.ren r)
 | []=>rfl
 |a::l=>by simp[TV.rens,Yaq r l]
def plR(pl:Pl)(m:List Nat):Pl
 | .m b=>match m[b]? with|some a=>pl (.m a)|none=>none
 | .n b i=>match m[b]? with|some a=>pl (.n a i)|none=>none
section
variable{Fr:Nat->Prop}{H0:Heap}{X:YCX}{pl:Pl}{H:Heap}{m:List Nat}
abbrev renX(X:YCX)(m:List Nat):YCX:=m.map fun a=>(vget X a).map (VObj.ren fun a=>idxV m a 0)
theorem YbZ{b a:Nat}(h:m[b]?=some a):vget (renX X m) b=(vget X a).map (VObj.ren fun a=>idxV m a 0):=by
 rw[YdP,h];rfl
theorem TR.renG{X':YCX}{pl':Pl}{r:Nat->Option Nat}(look: ∀{a b:Nat},a<X.length->r a=some b->b<X'.length/\vget X' b=(vget X a).map (VObj.ren r)/\pl' (.m b)=pl (.m a)){tv:TV}{av:AV}(h:TR X pl tv av):TR X' pl' (tv.ren r) av:=by
 have hn: ∀(o:VObj),lenO (o.ren r)=lenO o/\elN (o.ren r)=elN o:=fun o=>by cases o<;>exact⟨rfl,rfl⟩
 induction h with
 |i k n=>exact .i k n
 |b x=>exact .b x
 |s x=>exact .s x
 |l c v a h=>exact .l c v a h
 |e c=>exact .e c
 |u a=>exact .u a
 |v x=>exact .u _
 |nl=>exact .nl
 |ref a x o n h hl hp=>
  simp only[TV.ren]
  split
  ·rename_i b hb
   obtain⟨h2,h1,h3⟩:=look (Yae h) hb
   exact .ref b x _ n (by simp_all) ((hn o).1.trans hl) (h3.trans hp)
  ·exact .u _
 |refD a av h ha=>
  simp only[TV.ren]
  split
  ·rename_i b hb
   obtain⟨h2,h1,h3⟩:=look ha hb
   exact .refD b _ (by simp_all) h2
  ·exact .u _
 |pre a x k o n h hl hp h0 hm=>
  simp only[TV.ren]
  split
  ·rename_i b hb
   obtain⟨h2,h1,h3⟩:=look (Yae h) hb
   exact .pre b x k _ n (by simp_all) ((hn o).1.trans hl) (h3.trans hp) h0 hm
  ·exact .u _
 |preD a k av h ha=>
  simp only[TV.ren]
  split
  ·rename_i b hb
   obtain⟨h2,h1,h3⟩:=look ha hb
   exact .preD b _ _ (by simp_all) h2
  ·exact .u _
 |ptr a i j x o h hi hp=>
  simp only[TV.ren]
  split
  ·rename_i b hb
   obtain⟨h2,h1,h3⟩:=look (Yae h) hb
   exact .ptr b i j x _ (by rw[h1,h];rfl) (by simp_all) (h3.trans hp)
  ·exact .u _
 |ptrD a i j av h ha=>
  simp only[TV.ren]
  split
  ·rename_i b hb
   obtain⟨h2,h1,h3⟩:=look ha hb
   exact .ptrD b _ _ _ (by simp_all) h2
  ·exact .u _
 |np a x o h hp=>
  simp only[TV.ren]
  split
  ·rename_i b hb
   obtain⟨h2,h1,h3⟩:=look (Yae h) hb
   exact .np b x _ (by rw[h1,h];rfl) (h3.trans hp)
  ·exact .u _
 |npD a av h ha=>
  simp only[TV.ren]
  split
  ·rename_i b hb
   obtain⟨h2,h1,h3⟩:=look ha hb
   exact .npD b _ (by simp_all) h2
  ·exact .u _
 |sub=>exact .u _
 |sube=>exact .u _
 |subD=>exact .u _
 |pti=>exact .u _
 |ptiD=>exact .u _
 |rp=>exact .u _
 |lt=>exact .u _
 |ag cs as hl h ih=>
  simp only[TV.ren,Yaq]
  refine .ag _ _ (by grind) (fun j c a h1 h2=> ?_)
  grind
 |tp cs as hl h ih=>
  simp only[TV.ren,Yaq]
  refine .tp _ _ (by grind) (fun j c a h1 h2=> ?_)
  grind
 |clo g cs as hl h ih=>
  simp only[TV.ren,Yaq]
  refine .clo g _ _ (by grind) (fun j c a h1 h2=> ?_)
  grind
theorem TR.ren{tv:TV}{av:AV}(h:TR X pl tv av):TR (renX X m) (plR pl m) (tv.ren fun a=>idxV m a 0) av:=by
 refine h.renG (fun{a b} _ hb=> ?_)
 obtain⟨_,h2⟩:=YbY hb
 simp only[Nat.sub_zero]at h2
 exact⟨by grind,YbZ h2,by simp only[plR,h2]⟩
theorem YfX(hr:HRel Fr H0 X pl H)(hm:m.Nodup):HRel Fr H0 (renX X m) (plR pl m) H:=by
 have up: ∀{p:Pos} {x},plR pl m p=some x-> ∃a,m[p.of]?=some a/\pl (match p with| .m _=>.m a| .n _ i=>.n a i)=some x:=by
  intro p x h
  cases p with
  |m b=>simp only[plR]at h;split at h;·exact⟨_,by trivial,h⟩
        trivial
  |n b i=>simp only[plR]at h;split at h;·exact⟨_,by trivial,h⟩
          trivial
 refine⟨fun b o' h1=> ?_,fun p q x hp hq=> ?_,fun p x hp=> ?_,hr.fr,fun p x hp=> ?_,hr.le⟩
 ·rw[YdP]at h1
  cases hb:m[b]? with
  |none=>simp_all
  |some a=>
   rw[hb]at h1
   simp at h1
   obtain⟨o,ho,rfl⟩:=h1
   have hob:=hr.obj a o ho
   have e1:plR pl m (.m b)=pl (.m a):=by simp only[plR,hb]
   have e2: ∀i,plR pl m (.n b i)=pl (.n a i):=fun i=>by simp only[plR,hb]
   cases o with
   |sq c l=>obtain⟨x,el,h1,h2,h3,h4⟩:=hob;exact⟨x,el,e1.trans h1,h2,h3,h4⟩
   |fm c ver hole l=>
    obtain⟨x,el,h1,h2,h3,h4,h5,h6⟩:=hob
    refine⟨x,el,e1.trans h1,h2,h3,h4,h5,fun i e v k1 k2 k3=> ?_⟩
    simp_all
   |st cs=>
    obtain⟨x,e,h1,h2,h3,h4⟩:=hob
    refine⟨x,e,e1.trans h1,?_,?_,?_⟩
    ·simp only[Yaq,YIa];exact h2
    ·simpa[Yaq]using h3
    ·refine⟨by simp[Yaq,h4.1],fun j c a h1 h2=> ?_⟩
     rw[Yaq,YHW,YID]at h1
     obtain⟨y,h1,rfl⟩:=h1
     exact(h4.2 j y a h1 h2).ren
   |sb s=>obtain⟨x,h1,h2⟩:=hob;exact⟨x,e1.trans h1,h2⟩
 ·obtain⟨a,h1,h2⟩:=up hp
  obtain⟨a',h3,h4⟩:=up hq
  have:=hr.inj _ _ _ h2 h4
  have nd: ∀{i j:Nat} {a:Nat},m[i]?=some a->m[j]?=some a->i=j:=fun hi hj=>by
   have g1:=YHT.1 hi
   have g2:=YHT.1 hj
   exact(List.getElem_inj (h₀:=g1.1) (h₁:=g2.1) hm).1 (by omega)
  cases p with
  |m b=>cases q with
   |m b'=>injection this with this;subst this;simp only[Pos.of]at h1 h3;grind
   |n b' i=>trivial
  |n b i=>cases q with
   |m b'=>trivial
   |n b' j=>injection this with this e;subst this;subst e;simp only[Pos.of]at h1 h3;grind
 ·obtain⟨a,h1,h2⟩:=up hp
  have:=hr.own _ _ h2
  cases p with
  |m b=>obtain⟨o,ho⟩:=this;exact⟨_,by rw[YbZ (b:=b) (a:=a) h1,ho];rfl⟩
  |n b i=>obtain⟨c,v,h,l,ho,k⟩:=this;exact⟨c,0,h,l,by rw[YbZ (b:=b) (a:=a) h1,ho];rfl,k⟩
 ·obtain⟨a,h1,h2⟩:=up hp
  exact hr.nfr _ _ h2
theorem YjQ(f:Nat->TV): ∀(ts:List Nat) (t:Nat),YDa (zipE ts (ts.map f)) t=if t∈ts then f t else .u
 | [],t=>by rfl
 |s::ts,t=>by
  simp only[YHX,zipE,YDa]
  cases hb:YIq s t with
  |true=>
   simp_all
  |false=>
   have hne:t≠s:=fun e=>by simp_all
   rw[cond_false,YjQ f ts t]
   grind
theorem YdQ(f:Option VObj->Option VObj)(hf:f none=none): ∀(X:YCX) (a:Nat),vget (X.map f) a=f (vget X a)
 | [],a=>by simp[vget,hf]
 |o::X,0=>rfl
 |o::X,a+1=>by exact YdQ f hf X a
theorem YfY: ∀l:List TV,TV.nrms l=l.map TV.nrm
 | []=>rfl
 |a::r=>by simp[TV.nrms,YfY r]
mutual
theorem TR.nrm: ∀(v:TV) {a:AV},TR X pl v a->TR X pl v.nrm a
 | .e c,_,h=>by cases h;exact .l c [] _ (by simp only[YHZ];exact .empRd _)
 | .ag x,_,h=>by
   cases h with
   |ag _ as hl hc=>have:=CT.nrm x ⟨hl,hc⟩;exact .ag _ _ this.1 this.2
 | .tp x,_,h=>by
   cases h with
   |tp _ as hl hc=>have:=CT.nrm x ⟨hl,hc⟩;exact .tp _ _ this.1 this.2
 | .clo g x,_,h=>by
   cases h with
   |clo _ _ as hl hc=>have:=CT.nrm x ⟨hl,hc⟩;exact .clo g _ _ this.1 this.2
 | .i _ _,_,h=>h
 | .b _,_,h=>h
 | .s _,_,h=>h
 | .l _ _,_,h=>h
 | .u,_,h=>h
 | .v _,_,h=>h
 | .nl,_,h=>h
 | .ref _,_,h=>h
 | .pre _ _,_,h=>h
 | .sub _ _ _,_,h=>h
 | .ptr _ _ _,_,h=>h
 | .np _,_,h=>h
 | .pti _ _ _ _ _,_,h=>h
 | .rp _,_,h=>h
 | .lt _,_,h=>h
theorem CT.nrm: ∀(l:List TV) {as:List AV},CT X pl l as->CT X pl (TV.nrms l) as
 | [],_,h=>h
 |v::l,as,h=>by
  obtain⟨a,r,rfl,h1,h2⟩:=h.inv
  exact .cons (TR.nrm v h1) (CT.nrm l h2)
end
theorem YdR(a:Nat):vget (nrmX X) a=(vget X a).map VObj.nrm:=by
 exact YdQ _ rfl X a
theorem YfZ:Ext X pl (nrmX X) pl:=by
 refine⟨by simp[nrmX],fun a _=> ?_⟩
 rw[YdR]
 cases h:vget X a with
 |none=>simp
 |some o=>
  refine .inr ⟨o,o.nrm,rfl,rfl,?_,?_,rfl,?_,fun c ver hole l e=> ?_⟩
  ·cases o<;>rfl
  ·cases o<;>rfl
  ·cases o<;>rfl
  ·cases o with
   |sq _ _=>cases e
   |st _=>cases e
   |sb _=>cases e
   |fm c0 v0 h0 l0=>exact⟨ver,hole,l,e,rfl,.inr ⟨rfl,fun h=>⟨h,fun i=>⟨rfl,rfl⟩⟩⟩⟩
theorem YjR(hr:HRel Fr H0 X pl H):HRel Fr H0 (nrmX X) pl H:=by
 refine⟨fun a o ho=> ?_,hr.inj,fun p x hp=> ?_,hr.fr,hr.nfr,hr.le⟩
 ·rw[YdR,YID]at ho
  obtain⟨o0,h0,rfl⟩:=ho
  have:=hr.obj a o0 h0
  cases o0 with
  |sq c l=>trivial
  |fm c v h l=>trivial
  |sb s=>trivial
  |st cs=>
   obtain⟨x,e,e1,e2,e3,e4⟩:=this
   exact⟨x,e,e1,by rw[YfY,YIa];exact e2,by rw[YfY,YIa];exact e3,CT.nrm cs (e4.ext YfZ)⟩
 ·have:=hr.own p x hp
  cases p with
  |m a=>obtain⟨o,ho⟩:=this;exact⟨o.nrm,by rw[YdR,ho];rfl⟩
  |n a i=>obtain⟨c,v,h,l,ho,k⟩:=this;exact⟨c,v,h,l,by rw[YdR,ho];rfl,k⟩
theorem YcH{env:VEnv}{ae:Env}(he:ERel X pl env ae)(hr:HRel Fr H0 X pl H){kb:Nat}{ts:List Nat}{vs:List TV}{X':YCX}(hkb:kb<=X.length)(h:YDZ kb ts ⟨env,X⟩=(vs,X')): ∃pl',ERel X' pl' (zipE ts vs) ae/\HRel Fr H0 X' pl' H/\kb<=X'.length/\ ∀i,i<kb-> ∀x,pl' (.m i)=some x->pl (.m i)=some x:=by
 unfold YDZ at h
 simp only at h
 have he1: ∀t,TR (nrmX X) pl (YDa env t).nrm (YC1 ae t):=fun t=>TR.nrm _ ((he t).ext YfZ)
 have hr:=YjR hr
 have hXl:(nrmX X).length=X.length:=by simp[nrmX]
 have hkb:kb<=(nrmX X).length:=by omega
 clear hXl he
 generalize nrmX X=X at h hr hkb he1
 have hnd:(YDc X 5 (YC5 X (List.range (min kb X.length)) (TV.idss (ts.map fun t=>(YDa env t).nrm)))).Nodup:=YcE (YbG List.nodup_range)
 have hpre:List.range (min kb X.length)<+:YDc X 5 (YC5 X (List.range (min kb X.length)) (TV.idss (ts.map fun t=>(YDa env t).nrm))):=(YcG _ _ _).trans (YfW _ _ _)
 generalize(YDc X 5 (YC5 X (List.range (min kb X.length)) (TV.idss (ts.map fun t=>(YDa env t).nrm))))=m at h hnd hpre
 injection h with h1 h2
 subst h1;subst h2
 obtain⟨tl,htl⟩:=hpre
 refine⟨plR pl m,fun t=> ?_,YfX hr hnd,by grind,fun i hi x hx=> ?_⟩
 rotate_left
 ·have:m[i]?=some i:=by
   grind
  simpa only[plR,this]using hx
 rw[Yaq,YIc,YjQ]
 split
 ·exact(he1 t).ren
 ·exact .u _
theorem YrV{env:Env}{H:Heap}{b x es n j:Nat}{e:List AV}{av:AV}(hx:H[x]?=some (some ⟨n,[e]⟩))(hj:e[j]?=some av)(hes:(av= .emp/\0<es)\/av= .v (.slice none 0 0)):
  Wk ⟨env,H,b⟩ ⟨env,H.set x (some ⟨n,[e.set j (.ref H.length 0 0)]⟩)++[some ⟨es,[]⟩],b⟩:=by
 intro fm n0 w0 L0 a w hs
 obtain⟨h1,h2,h3,L,h4,h5,h6,h7⟩:=hs
 obtain⟨k1,k2⟩:=Ybt h6 (nid:=H.length) (by simp[hf]) (es:=es) w0.heap.size (decide (es=0)) (fun h=>by simpa using h)
 have k2':LStep L (fun a=>if a=H.length then .nil (decide (es=0))else L a) w.heap.size:=(Ybt h6 (nid:=H.length) (by simp[hf]) (es:=es) w.heap.size (decide (es=0)) (fun h=>by simpa using h)).1
 rw[hf_push]at k2
 have hxl:=(YHT.1 hx).1
 have hxn:x≠H.length:=by omega
 have hget: ∀c,hf (H.set x (some ⟨n,[e.set j (.ref H.length 0 0)]⟩)++[some ⟨es,[]⟩]) c=if c=x then some (some ⟨n,[e.set j (.ref H.length 0 0)]⟩)else hf (H++[some ⟨es,[]⟩]) c:=by
  intro c
  simp only[hf]
  by_cases ec:c=x
  ·subst ec;rw[if_pos rfl,YHY (by simpa using hxl),YIf hxl]
  ·rw[if_neg ec]
   by_cases hc:c<H.length
   ·rw[YHY (by simpa using hc),YHY hc,YH0 (Ne.symm ec)]
   ·rw[YH7 (by simp;omega),YH7 (by omega)];simp
 have hxo:hf (H++[some ⟨es,[]⟩]) x=some (some ⟨n,[e]⟩):=by
  simp only[hf];rw[YHY hxl];exact hx
 refine⟨h1,h2,h3,_,h4,h5.trans k1,?_,fun s=>(h7 s).mono (Keep.refl _ _) k2'⟩
 refine⟨fun c q hq=> ?_,fun c hc'=> ?_,fun c=> ?_,k2.inj,k2.hid,fun c q g es' cap hq h0 hL=> ?_,fun c i g hc'=> ?_⟩
 rotate_left 4
 ·obtain⟨⟨q,hq⟩,k⟩:=k2.mps c i g hc'
  refine⟨?_,k⟩
  rw[hget]
  by_cases ec:c=x
  ·rw[if_pos ec];exact⟨_,rfl⟩
  ·rw[if_neg ec];exact⟨q,hq⟩
 rotate_left 3
 ·rw[hget]at hq
  by_cases ec:c=x
  ·subst ec
   rw[if_pos rfl]at hq;injection hq with hq;injection hq with hq;subst hq
   exact k2.byt c _ g es' cap hxo h0 hL
  ·rw[if_neg ec]at hq;exact k2.byt c q g es' cap hq h0 hL
 ·rw[hget]at hq
  by_cases ec:c=x
  ·subst ec
   rw[if_pos rfl]at hq;injection hq with hq;injection hq with hq;subst hq
   have hLc:(if c=H.length then Loc.nil (decide (es=0))else L c)=L c:=if_neg hxn
   have hob:ObjR fm w _ (if c=H.length then Loc.nil (decide (es=0))else L c) _:=k2.obj c _ hxo
   rw[hLc]at hob⊢
   revert hob
   cases hL:L c with
   |fresh=>exact id
   |dead=>exact id
   |hid g=>exact id
   |nil=>intro g1;cases g1.1
   |cells g es' cap=>
    rintro⟨g0,g1,g2,g3,g4,cur,ty,g5,g6,g7⟩
    refine⟨g0,g1,by simpa using g2,g3,fun e' he'=> ?_,cur,ty,g5,g6,fun i e' j' x' hi hj'=> ?_⟩
    ·simp at he';subst he';rw[List.length_set];exact g4 e (YIp.2 rfl)
    ·cases i with
     |succ i=>simp at hi
     |zero=>
      simp at hi;subst hi
      by_cases ej:j'=j
      ·subst ej
       have hjl:=(YHT.1 hj).1
       rw[YIf hjl]at hj';injection hj' with hj';subst hj'
       obtain⟨q1,q2⟩:=g7 0 e j' _ rfl hj
       refine⟨q1,?_⟩
       rcases hes with⟨rfl,hes⟩|rfl
       ·obtain⟨A,hA⟩:=YaJ q2
        rw[hA]
        exact .refNil A H.length (decide (es=0)) (by simp) (fun h=>by simp at h;omega)
       ·rw[Yad q2]
        exact .refNil none H.length (decide (es=0)) (by simp) (fun _=>rfl)
      ·rw[YH0 (Ne.symm ej)]at hj'
       exact g7 0 e j' x' rfl hj'
   |mp i g=>
    intro hm
    exfalso
    have nov: ∀x,(∀A n c,x≠ .slice A n c)-> ¬VR fm w (fun a=>if a=H.length then Loc.nil (decide (es=0))else L a) x av:=fun x hx hv=>by
     rcases hes with⟨rfl,_⟩|rfl
     ·obtain⟨A,hA⟩:=YaJ hv;exact hx _ _ _ hA
     ·exact hx _ _ _ (Yad hv)
    have norow: ∀{wd:Nat} {el:List (List AV)},av≠ .rd wd el:=fun e=>by
     rcases hes with⟨rfl,_⟩|rfl<;>cases e
    have nou:av≠ .u:=fun e=>by
     rcases hes with⟨rfl,_⟩|rfl<;>cases e
    cases i with
    |true=>
     obtain⟨_,a0,s,t,S,tag,g',since,seen,stepped,_,h2,h3,h4,h5,h6,h7⟩:=hm
     injection h2 with h2 _
     subst h2
     match j,hj with
     |0,hj=>simp at hj;subst hj;exact nov _ (fun A n c e=>by cases e) h3
     |1,hj=>simp at hj;subst hj;exact nov _ (fun A n c e=>by cases e) h4
     |2,hj=>simp at hj;subst hj;exact nov _ (fun A n c e=>by cases e) h5
     |3,hj=>
      simp at hj;subst hj
      rcases h7 with e| ⟨wd,bl,e,_⟩
      ·exact nou e
      ·exact norow e
     |4,hj=>simp at hj;subst hj;exact nov _ (fun A n c e=>by cases e) h6
     |j+5,hj=>simp at hj
    |false=>
     obtain⟨_,ms,clock,c0,R,tags,_,h2,h3,h4,_,h5⟩:=hm
     injection h2 with h2 _
     subst h2
     match j,hj with
     |0,hj=>simp at hj;subst hj;exact nov _ (fun A n c e=>by cases e) h3
     |1,hj=>
      simp at hj;subst hj
      rcases h5 with e| ⟨wd,el,e,_⟩
      ·exact nou e
      ·exact norow e
     |j+2,hj=>
      simp at hj
      exact nov _ (fun A n c e=>by cases e) (h4 av (YHU hj))
  ·rw[if_neg ec]at hq;exact k2.obj c q hq
 ·obtain⟨q,hq⟩:=k2.live c hc'
  rw[hget]
  by_cases ec:c=x
  ·rw[if_pos ec];exact⟨_,rfl⟩
  ·rw[if_neg ec];exact⟨q,hq⟩
 ·rw[hget,k2.fresh c]
  by_cases ec:c=x
  ·subst ec;rw[if_pos rfl,hxo];simp
  ·rw[if_neg ec]
theorem YrW(hr:HRel Fr H0 X pl H){a x j es:Nat}{cs:List TV}{e:List AV}{o:VObj}(ha:vget X a=some (.st cs))(hp:pl (.m a)=some x)(hx:H[x]?=some (some ⟨cs.length,[e]⟩))(hct:CT X pl cs e)(h0:0<cs.length)(hj:j<cs.length)(ho:lenO o=some 0)
  (hor: ∀{X':YCX} {pl':Pl} {H':Heap},pl' (.m X.length)=some H.length->(∀i,pl' (.n X.length i)=none)->H'[H.length]?=some (some ⟨es,[]⟩)->OR X' pl' H' X.length o):
  HRel Fr H0 (vset X a (some (.st (cs.set j (.ref X.length))))++[some o]) (plS pl (.m X.length) (some H.length)) (H.set x (some ⟨cs.length,[e.set j (.ref H.length 0 0)]⟩)++[some ⟨es,[]⟩])/\
   Ext X pl (vset X a (some (.st (cs.set j (.ref X.length))))++[some o]) (plS pl (.m X.length) (some H.length)):=by
 have hal:=Yae ha
 have hxl:=(YHT.1 hx).1
 have hXl:(vset X a (some (.st (cs.set j (.ref X.length))))).length=X.length:=Yag _ _ _
 have hgn:vget (vset X a (some (.st (cs.set j (.ref X.length))))++[some o]) X.length=some o:=by
  have:=Yam (vset X a (some (.st (cs.set j (.ref X.length))))) (some o);simp_all
 have hga:vget (vset X a (some (.st (cs.set j (.ref X.length))))++[some o]) a=some (.st (cs.set j (.ref X.length))):=by
  rw[Yas (by omega)];exact Yar _ hal
 have hgb: ∀b,b≠a->b≠X.length->vget (vset X a (some (.st (cs.set j (.ref X.length))))++[some o]) b=vget X b:=fun b h1 h2=>by
  by_cases hb:b<X.length
  ·rw[Yas (by omega),Yal _ (Ne.symm h1)]
  ·rw[Yat (by grind),Yat (by omega)]
 have hpn: ∀p:Pos,p≠ .m X.length->plS pl (.m X.length) (some H.length) p=pl p:=fun p h=>by unfold plS;simp_all
 have hpo: ∀p:Pos,p.of≠X.length->p≠ .m X.length:=fun p h e=>by subst e;trivial
 have hps:plS pl (.m X.length) (some H.length) (.m X.length)=some H.length:=by unfold plS;simp
 have hH': ∀{p:Pos} {z},p≠ .m a->pl p=some z->(H.set x (some ⟨cs.length,[e.set j (.ref H.length 0 0)]⟩)++[some ⟨es,[]⟩])[z]?=H[z]?:=fun h1 h2=>by
  rw[YHY (by simpa using hr.bd h2),YH0 (fun e=>h1 (by subst e;exact hr.inj _ _ _ h2 hp))]
 have hxt:Ext X pl (vset X a (some (.st (cs.set j (.ref X.length))))++[some o]) (plS pl (.m X.length) (some H.length)):=by
  refine⟨by grind,fun b hb=> ?_⟩
  have hbn:b≠X.length:=by omega
  by_cases e1:b=a
  ·subst e1
   exact .inr ⟨_,_,ha,hga,rfl,rfl,hpn _ (hpo (.m b) hbn),rfl,fun c v h l e=>by cases e⟩
  ·rw[hgb b e1 hbn]
   cases h:vget X b with
   |none=>simp
   |some o1=>exact .inr ⟨o1,o1,rfl,rfl,rfl,rfl,hpn _ (hpo (.m b) hbn),rfl,fun c' v' h' l' e=>⟨v',h',l',e,rfl,.inr ⟨rfl,fun h=>⟨h,fun i=>⟨rfl,hpn _ (fun e=>by cases e)⟩⟩⟩⟩⟩
 refine⟨hr.build (fun b=>b=a\/b=X.length) hxt (fun b hb=>hgb b (fun e=>hb (.inl e)) (fun e=>hb (.inr e))) (fun p hb=>hpn p (hpo p (fun e=>hb (.inr e)))) (fun p z hb hz=>hH' (fun e=>by subst e;exact hb (.inl rfl)) hz)
  (fun b ob hb hob=> ?_) (fun p z hb hz=> ?_) (fun p z hb hz=> ?_) (fun p q z hb hb' hz hz'=> ?_) (fun z hz=> ?_) (by simp),hxt⟩
 ·by_cases e1:b=X.length
  ·subst e1
   rw[hgn]at hob;injection hob with hob;subst hob
   refine hor hps (fun i=> ?_) ?_
   ·rw[hpn _ (fun e=>by cases e)];exact hr.dead (Yat (YIr _))
   simp
  ·have:=hb.resolve_right e1;subst this
   rw[hga]at hob;injection hob with hob;subst hob
   refine⟨x,e.set j (.ref H.length 0 0),(hpn _ (hpo (.m b) e1)).trans hp,?_,by simp_all,?_⟩
   ·grind
   ·refine⟨by simp[hct.1],fun i c av g1 g2=> ?_⟩
    by_cases ei:i=j
    ·subst ei
     rw[YIf hj]at g1
     rw[YIf (by grind)]at g2
     injection g1 with g1;injection g2 with g2;subst g1;subst g2
     exact .ref X.length H.length o 0 hgn ho hps
    ·rw[YH0 (Ne.symm ei)]at g1 g2
     exact(hct.2 i c av g1 g2).ext hxt
 ·by_cases e1:p= .m X.length
  ·subst e1;exact⟨o,hgn⟩
  ·rw[hpn p e1]at hz
   have hl:=hr.own p z hz
   rcases hb with hb|hb
   ·cases p with
    |m b=>simp only[Pos.of]at hb;subst hb;exact⟨_,hga⟩
    |n b i=>simp only[Pos.of]at hb;subst hb;obtain⟨c,v,h,l,k,_⟩:=hl;simp_all
   ·have:=hr.dead (p:=p) (by rw[hb];exact Yat (YIr _))
    simp_all
 ·grind
 ·by_cases e1:p= .m X.length<;>by_cases e2:q= .m X.length
  ·simp_all
  ·grind
  ·grind
  ·rw[hpn p e1]at hz;rw[hpn q e2]at hz';exact hr.inj _ _ _ hz hz'
 ·have:=(hr.fr z hz).1;have:=hr.le
  rw[YHY (by grind),YH0 (fun e=>hr.nfr _ _ hp (by simp_all))]
theorem YjS(f:TV->TV)(hf:f .u= .u): ∀(env:VEnv) (t:Nat),YDa (env.map fun p=>(p.1,f p.2)) t=f (YDa env t)
 | [],t=>by simp[YDa,hf]
 | (s,v)::r,t=>by
   simp only[YHX,YDa]
   cases YIq s t with
   |true=>rfl
   |false=>exact YjS f hf r t
theorem YrX(a n:Nat):(rnM a n).Nodup:=by
 have hf: ∀b,b<n->(bif YIq b a then n else b)≠a\/False:=fun b hb=>by
  cases h:YIq b a with
  |true=>have:=YIu h;grind
  |false=>exact .inl (fun e=>by simp_all)
 unfold rnM
 rw[List.nodup_append]
 refine⟨?_,by simp,fun x hx y hy=> ?_⟩
 ·rw[List.nodup_iff_pairwise_ne,List.pairwise_map]
  refine List.Pairwise.imp_of_mem (fun{x y} hx hy hne=> ?_) (List.nodup_iff_pairwise_ne.1 (List.nodup_range (n:=n)))
  cases h:YIq x a<;>cases h':YIq y a
  ·trivial
  ·grind
  ·grind
  simp_all
 grind
theorem YjT{env:VEnv}{ae:Env}(he:ERel X pl env ae)(hr:HRel Fr H0 X pl H)(a:Nat):
  ERel (rnV a ⟨env,X⟩).heap (plR pl (rnM a X.length)) (rnV a ⟨env,X⟩).env ae/\HRel Fr H0 (rnV a ⟨env,X⟩).heap (plR pl (rnM a X.length)) H/\X.length+1=(rnV a ⟨env,X⟩).heap.length/\ ∀i,i<X.length-> ∀x,plR pl (rnM a X.length) (.m i)=some x->pl (.m i)=some x:=by
 refine⟨fun t=> ?_,YfX hr (YrX a X.length),by simp[rnV,rnM],fun i hi x hx=> ?_⟩
 ·show TR (renX X (rnM a X.length)) _ (YDa (env.map fun p=>(p.1,p.2.ren fun b=>idxV (rnM a X.length) b 0)) t) _
  rw[YjS (fun v=>v.ren fun b=>idxV (rnM a X.length) b 0) rfl]
  exact(he t).ren
 ·have:(rnM a X.length)[i]?=some (bif YIq i a then X.length else i):=by
   unfold rnM
   grind
  simp only[plR,this]at hx
  cases h:YIq i a with
  |true=>
   have:=hr.dead (p:=.m X.length) (Yat (YIr _))
   simp_all
  |false=>simp_all
theorem YjU{fm:FM}{w:World}{L:Nat->Loc}{H:Heap}{x es:Nat}{el:List (List AV)}(n:Nat)(hr:HR fm w L (hf H))(hx:H[x]?=some (some ⟨es,el⟩))
  (hL:(∃g es' cap,L x= .cells g es' cap)\/ ∃b,L x= .nil b):HR fm w L (hf (H.set x (some ⟨es,el.take n⟩))):=by
 have hget: ∀c,hf (H.set x (some ⟨es,el.take n⟩)) c=if c=x then some (some ⟨es,el.take n⟩)else hf H c:=by
  intro c
  simp only[hf]
  grind
 have hxo:hf H x=some (some ⟨es,el⟩):=hx
 refine⟨fun c q hq=> ?_,fun c hc'=> ?_,fun c=> ?_,hr.inj,hr.hid,fun c q g es' cap hq h0 hLc=> ?_,fun c i g hc'=> ?_⟩
 ·rw[hget]at hq
  by_cases ec:c=x
  ·subst ec
   rw[if_pos rfl]at hq;injection hq with hq;injection hq with hq;subst hq
   have hob:=hr.obj c _ hxo
   rcases hL with⟨g,es',cap,hL⟩| ⟨b,hL⟩
   ·rw[hL]at hob⊢
    obtain⟨g0,g1,g2,g3,g4,cur,ty,g5,g6,g7⟩:=hob
    refine⟨g0,g1,by grind,g3,fun e he=>g4 e (List.mem_of_mem_take he),cur,ty,g5,g6,fun i e j y hi hj=> ?_⟩
    grind
   ·rw[hL]at hob⊢
    have h0:el=[]:=hob.1
    simp_all
  ·rw[if_neg ec]at hq;exact hr.obj c q hq
 ·rw[hget]
  by_cases ec:c=x
  ·simp_all
  ·rw[if_neg ec];exact hr.live c hc'
 ·rw[hget]
  by_cases ec:c=x
  ·grind
  ·rw[if_neg ec];exact hr.fresh c
 ·rw[hget]at hq
  by_cases ec:c=x
  ·subst ec
   rw[if_pos rfl]at hq;injection hq with hq;injection hq with hq;subst hq
   exact hr.byt c _ g es' cap hxo h0 hLc
  ·rw[if_neg ec]at hq;exact hr.byt c q g es' cap hq h0 hLc
 ·obtain⟨⟨q,hq⟩,k⟩:=hr.mps c i g hc'
  grind
theorem YjV{fm:FM}{w:World}{L:Nat->Loc}{H:Heap}{x m:Nat}{o:AObj}{v:Value}(hr:HR fm w L (hf H))(hx:H[x]?=some (some o))(h:VR fm w L v (.ref x 0 m)):
  (∃g es' cap,L x= .cells g es' cap)\/ ∃b,L x= .nil b:=by
 generalize ha:AV.ref x 0 m=a at h
 cases h with
 |refAt g es cap a off len h hl=>simp_all
 |refNil A a b h hA=>simp_all
 |refDead A c a off len h hl=>
  injection ha with h1;subst h1
  have:=hr.obj x o hx
  rw[h]at this;trivial
 |_=>cases ha
theorem YrY{env:Env}{H:Heap}{b x es t m n:Nat}{el:List (List AV)}(hx:H[x]?=some (some ⟨es,el⟩))(ht:YC1 env t= .ref x 0 m):
  Wk ⟨env,H,b⟩ ⟨env,H.set x (some ⟨es,el.take n⟩),b⟩:=by
 intro fm n0 w0 L0 a w hs
 obtain⟨h1,h2,h3,L,h4,h5,h6,h7⟩:=hs
 have:=h7 t
 simp only[ht]at this
 exact⟨h1,h2,h3,L,h4,h5,YjU n h6 hx (YjV h6 hx this),h7⟩
theorem YrZ{env:Env}{H:Heap}{b x es y k j m n:Nat}{el:List (List AV)}{e:List AV}(hx:H[x]?=some (some ⟨es,el⟩))(hy:H[y]?=some (some ⟨k,[e]⟩))(hj:e[j]?=some (.ref x 0 m)):
  Wk ⟨env,H,b⟩ ⟨env,H.set x (some ⟨es,el.take n⟩),b⟩:=by
 intro fm n0 w0 L0 a w hs
 obtain⟨h1,h2,h3,L,h4,h5,h6,h7⟩:=hs
 have nov: ∀{v:Value},(∀A b c,v≠ .slice A b c)-> ¬VR fm w L v (.ref x 0 m):=fun hv hr=>by
  generalize ha:AV.ref x 0 m=a at hr
  cases hr with
  |refAt g es cap a off len h hl=>simp_all
  |refNil A a b h hA=>simp_all
  |refDead A c a off len h hl=>simp_all
  |_=>cases ha
 refine⟨h1,h2,h3,L,h4,h5,YjU n h6 hx ?_,h7⟩
 have hob:=h6.obj y _ hy
 revert hob
 cases hL:L y with
 |fresh=>intro h;cases h
 |dead=>intro h;cases h
 |hid g=>intro h;cases h
 |nil=>intro g1;cases g1.1
 |cells g es' cap=>
  rintro⟨g0,g1,g2,g3,g4,cur,ty,g5,g6,g7⟩
  exact YjV h6 hx (g7 0 e j _ rfl hj).2
 |mp i g=>
  cases i with
  |false=>
   rintro⟨g0,es',clock,c0,R,tags,g1,g2,g3,g4,g5,g6⟩
   injection g2 with g2;subst g2
   cases j with
   |zero=>simp_all
   |succ j=>cases j with
    |zero=>simp_all
    |succ j=>
     have:=g4 _ (YHU (show tags[j]?=some _ from hj))
     trivial
  |true=>
   rintro⟨g0,a0,s,t,S,tag,g',since,seen,stepped,g1,g2,g3,g4,g5,g6,g7⟩
   grind
theorem YjW{X:YCX}{pl:Pl}{H:Heap}(hr:HRel Fr H0 X pl H){b x m:Nat}{c:Cs}{l:List c.den}{el:List (List AV)}(hb:vget X b=some (.sq c l))(hp:pl (.m b)=some x)(hx:H[x]?=some (some ⟨c.width,el⟩))(hw:0<c.width)(hrow:Rows el c l):
  HRel Fr H0 (vset X b none++[some (.sq c (l.take m))]) (plS (plS pl (.m b) none) (.m X.length) (some x)) (H.set x (some ⟨c.width,el.take m⟩))/\
   Ext X pl (vset X b none++[some (.sq c (l.take m))]) (plS (plS pl (.m b) none) (.m X.length) (some x)):=by
 have hbl:=Yae hb
 have hxl:=(YHT.1 hx).1
 have hXl:(vset X b none).length=X.length:=Yag _ _ _
 have hgn:vget (vset X b none++[some (.sq c (l.take m))]) X.length=some (.sq c (l.take m)):=by
  have:=Yam (vset X b none) (some (.sq c (l.take m)));simp_all
 have hgb0:vget (vset X b none++[some (.sq c (l.take m))]) b=none:=by
  rw[Yas (by omega)];exact Yar _ hbl
 have hgb: ∀d,d≠b->d≠X.length->vget (vset X b none++[some (.sq c (l.take m))]) d=vget X d:=fun d h1 h2=>by
  by_cases hd:d<X.length
  ·rw[Yas (by omega),Yal _ (Ne.symm h1)]
  ·rw[Yat (by grind),Yat (by omega)]
 have hps:plS (plS pl (.m b) none) (.m X.length) (some x) (.m X.length)=some x:=by unfold plS;simp
 have hpb:plS (plS pl (.m b) none) (.m X.length) (some x) (.m b)=none:=by
  unfold plS;grind
 have hpn: ∀p:Pos,p≠ .m X.length->p≠ .m b->plS (plS pl (.m b) none) (.m X.length) (some x) p=pl p:=fun p h h'=>by unfold plS;simp_all
 have hxt:Ext X pl (vset X b none++[some (.sq c (l.take m))]) (plS (plS pl (.m b) none) (.m X.length) (some x)):=by
  refine⟨by grind,fun d hd=> ?_⟩
  have hdn:d≠X.length:=by omega
  by_cases e1:d=b
  ·simp_all
  ·rw[hgb d e1 hdn]
   cases h:vget X d with
   |none=>simp
   |some o1=>exact .inr ⟨o1,o1,rfl,rfl,rfl,rfl,hpn _ (fun e=>by simp_all) (fun e=>by simp_all),rfl,fun c' v' h' l' e=>⟨v',h',l',e,rfl,.inr ⟨rfl,fun h=>⟨h,fun i=>⟨rfl,hpn _ (fun e=>by cases e) (fun e=>by cases e)⟩⟩⟩⟩⟩
 refine⟨hr.build (fun d=>d=b\/d=X.length) hxt (fun d hd=>hgb d (fun e=>hd (.inl e)) (fun e=>hd (.inr e)))
  (fun p hd=>hpn p (fun e=>by subst e;exact hd (.inr rfl)) (fun e=>by subst e;exact hd (.inl rfl)))
  (fun p z hd hz=>by rw[YH0 (fun e=>hd (by subst e;have:=hr.inj _ _ _ hz hp;subst this;exact .inl rfl))])
  (fun d ob hd hob=> ?_) (fun p z hd hz=> ?_) (fun p z hd hz=> ?_) (fun p q z hd hd' hz hz'=> ?_) (fun z hz=> ?_) (by simp),hxt⟩
 ·rcases hd with rfl|rfl
  ·simp_all
  ·rw[hgn]at hob;injection hob with hob;subst hob
   refine⟨x,el.take m,hps,by simp_all,hw,by simp[hrow.1],fun i e v h1 h2=> ?_⟩
   rw[YIe]at h1 h2
   split at h1
   ·rename_i hi;rw[if_pos hi]at h2;exact hrow.2 i e v h1 h2
   trivial
 ·by_cases e1:p= .m X.length
  ·subst e1;exact⟨_,hgn⟩
  ·by_cases e2:p= .m b
   ·simp_all
   ·rw[hpn p e1 e2]at hz
    rcases hd with hd|hd
    ·exact absurd (Yjz hr hb hz hd) e2
    ·have:=hr.dead (p:=p) (by rw[hd];exact Yat (YIr _))
     simp_all
 ·by_cases e1:p= .m X.length
  ·subst e1;rw[hps]at hz;injection hz with hz;subst hz;exact .inl ⟨.m b,hp,.inl rfl⟩
  grind
 ·have key: ∀(p q:Pos) (z:Nat),p≠ .m X.length->q= .m X.length->plS (plS pl (.m b) none) (.m X.length) (some x) p=some z->plS (plS pl (.m b) none) (.m X.length) (some x) q=some z->False:=by
   intro p q z h1 h2 h3 h4
   subst h2;rw[hps]at h4;injection h4 with h4;subst h4
   by_cases e2:p= .m b
   ·simp_all
   ·rw[hpn p h1 e2]at h3;exact e2 (hr.inj _ _ _ h3 hp)
  by_cases e1:p= .m X.length<;>by_cases e2:q= .m X.length
  ·simp_all
  ·grind
  ·grind
  ·by_cases e3:p= .m b
   ·simp_all
   ·by_cases e4:q= .m b
    ·simp_all
    ·rw[hpn p e1 e3]at hz;rw[hpn q e2 e4]at hz';exact hr.inj _ _ _ hz hz'
 ·rw[YH0 (fun e=>hr.nfr _ _ hp (by simp_all))]
theorem Yr0{X:YCX}{pl:Pl}{H:Heap}(hr:HRel Fr H0 X pl H){a j y:Nat}{cs:List TV}{e:List AV}{v:TV}{av:AV}(ha:vget X a=some (.st cs))(hp:pl (.m a)=some y)(hy:H[y]?=some (some ⟨cs.length,[e]⟩))(hct:CT X pl cs e)
  (hj:e[j]?=some av) (hv: ∀{X'},Ext X pl X' pl->TR X' pl v av):HRel Fr H0 (vset X a (some (.st (cs.set j v)))) pl H/\Ext X pl (vset X a (some (.st (cs.set j v)))) pl:=by
 have hal:=Yae ha
 have hga:vget (vset X a (some (.st (cs.set j v)))) a=some (.st (cs.set j v)):=Yar _ hal
 have hgb: ∀b,b≠a->vget (vset X a (some (.st (cs.set j v)))) b=vget X b:=fun b h1=>Yal _ (Ne.symm h1)
 have hxt:Ext X pl (vset X a (some (.st (cs.set j v)))) pl:=by
  refine⟨by rw[Yag];omega,fun b hb=> ?_⟩
  by_cases e1:b=a
  ·subst e1;exact .inr ⟨_,_,ha,hga,rfl,rfl,rfl,rfl,fun c v h l e=>by cases e⟩
  ·rw[hgb b e1]
   cases h:vget X b with
   |none=>simp
   |some o1=>grind
 have h0:0<cs.length:=by rw[hct.1];grind
 refine⟨hr.build (fun b=>b=a) hxt (fun b hb=>hgb b hb) (fun _ _=>rfl) (fun _ _ _ _=>rfl) (fun b ob hb hob=> ?_) (fun p z hb hz=> ?_) (fun p z hb hz=>.inl ⟨p,hz,hb⟩) (fun p q z _ _ h1 h2=>hr.inj _ _ _ h1 h2) (fun _ _=>rfl) (YIr _),hxt⟩
 ·subst hb
  rw[hga]at hob;injection hob with hob;subst hob
  refine⟨y,e,hp,by simp_all,by simp_all,by simp[hct.1],fun i c q g1 g2=> ?_⟩
  by_cases ei:i=j
  ·grind
  ·rw[YH0 (Ne.symm ei)]at g1
   exact(hct.2 i c q g1 g2).ext hxt
 ·have hl:=hr.own p z hz
  cases p with
  |m b=>simp only[Pos.of]at hb;subst hb;exact⟨_,hga⟩
  |n b i=>simp only[Pos.of]at hb;subst hb;obtain⟨c,v,h,l,k,_⟩:=hl;simp_all
theorem YaH{base:Nat}: ∀{ws:List (Nat×Option Nat×Bool)} {s:VSt} {pl:Pl} {st:ASt},st.base=base->ERel s.heap pl s.env st.env->HRel Fr H0 s.heap pl st.heap->
  ∃st' pl',Wk st st'/\st'.base=base/\ERel (ownV ws s).heap pl' (ownV ws s).env st'.env/\HRel Fr H0 (ownV ws s).heap pl' st'.heap/\s.heap.length<=(ownV ws s).heap.length/\ ∀i,i<s.heap.length-> ∀x,pl' (.m i)=some x->pl (.m i)=some x
 | [],s,pl,st,hb,he,hr=>⟨st,pl,.refl _,hb,he,hr,YIr _,fun _ _ _ h=>h⟩
 | (t,some j,w)::r,s,pl,st,hb0,he,hr=>by
   have hb:=hb0
   obtain⟨env,X⟩:=s
   obtain⟨ae,H,b0⟩:=st
   have rest:=YaH (ws:=r) (s:=⟨env,X⟩) (st:=⟨ae,H,b0⟩) hb he hr
   have step: ∀{a:Nat} {cs:List TV} {c0:Cs} (o:VObj) (es:Nat),vget X a=some (.st cs)->((cs[j]?=some (.e c0)/\0<es)\/cs[j]?=some (.v (.slice none 0 0)))->lenO o=some 0->
     (∀{X':YCX} {pl':Pl} {H':Heap},pl' (.m X.length)=some H.length->(∀i,pl' (.n X.length i)=none)->H'[H.length]?=some (some ⟨es,[]⟩)->OR X' pl' H' X.length o)->
     ∃st' pl',Wk ⟨ae,H,b0⟩ st'/\st'.base=base/\ERel (ownV r ⟨env,vset X a (some (.st (cs.set j (.ref X.length))))++[some o]⟩).heap pl' (ownV r ⟨env,vset X a (some (.st (cs.set j (.ref X.length))))++[some o]⟩).env st'.env/\HRel Fr H0 (ownV r ⟨env,vset X a (some (.st (cs.set j (.ref X.length))))++[some o]⟩).heap pl' st'.heap/\X.length<=(ownV r ⟨env,vset X a (some (.st (cs.set j (.ref X.length))))++[some o]⟩).heap.length/\ ∀i,i<X.length-> ∀x,pl' (.m i)=some x->pl (.m i)=some x:=by
    intro a cs c0 o es ha hj ho hor
    obtain⟨x,e,e1,e2,e3,e4⟩:=hr.obj a _ ha
    obtain⟨av,h1,hes,hjl⟩: ∃av,e[j]?=some av/\ ((av= .emp/\0<es)\/av= .v (.slice none 0 0))/\j<cs.length:=by
     rcases hj with⟨hj,hes⟩|hj
     ·obtain⟨av,h1,h2⟩:=e4.get hj
      cases h2
      grind
     ·obtain⟨av,h1,h2⟩:=e4.get hj
      cases h2
      grind
    obtain⟨k1,k2⟩:=YrW hr ha e1 e2 e4 e3 hjl ho hor
    obtain⟨st',pl',g1,g2,g3,g4,g5,g6⟩:=YaH (ws:=r) (s:=⟨env,vset X a (some (.st (cs.set j (.ref X.length))))++[some o]⟩) (st:=⟨ae,H.set x (some ⟨cs.length,[e.set j (.ref H.length 0 0)]⟩)++[some ⟨es,[]⟩],b0⟩) hb (he.ext k2) k1
    have hlx:X.length+1=(vset X a (some (.st (cs.set j (.ref X.length))))++[some o]).length:=by simp[Yag]
    simp only at g5 g6
    exact⟨st',pl',(YrV e2 h1 hes).trans g1,g2,g3,g4,by omega,fun i hi z hz=>by
     have:=g6 i (by omega) z hz
     unfold plS at this;grind⟩
   unfold ownV
   simp only
   split
   ·split
    ·rename_i a _ _ _ _ cs ha
     split
     ·rename_i c hj
      cases hw:YIt 0 c.width with
      |false=>trivial
      |true=>
       rw[cond_true]
       have hw':0<c.width:=by simp_all
       exact step (.sq c []) c.width ha (.inl ⟨hj,hw'⟩) rfl (fun h1 _ h3=>⟨H.length,[],h1,h3,hw',rfl,fun i e v h=>by simp⟩)
     ·rename_i c hj
      cases hw:YIt 0 c.width with
      |false=>trivial
      |true=>
       rw[cond_true]
       have hw':0<c.width:=by simp_all
       exact step (.fm c 0 none []) 1 ha (.inl ⟨hj,by omega⟩) rfl (fun h1 _ h3=>⟨H.length,[],h1,h3,hw',rfl,fun e he=>by trivial,fun i e v h=>by simp⟩)
     ·rename_i hj
      exact step (c0:=.nil) (.sb (YIU #[])) 0 ha (.inr hj) rfl (fun h1 _ h3=>⟨H.length,h1,by rw[show strA (YIU #[])=[] by simp[strA,YaW]];exact h3⟩)
     ·rename_i b n hj
      split
      ·rename_i c l hb
       obtain⟨y,e,e1,e2,e3,e4⟩:=hr.obj a _ ha
       obtain⟨x,el,d1,d2,d3,d4⟩:=hr.obj b _ hb
       obtain⟨av,h1,h2⟩:=e4.get hj
       cases h2 with
       |preD _ _ _ h _=>simp_all
       |pre _ x' _ o n' h hn hp h0 hm=>
        rw[hb]at h;injection h with h;subst h
        rw[d1]at hp;injection hp with hp;subst hp
        injection hn with hn;subst hn
        obtain⟨k1,k2⟩:=YjW (m:=n.toNat) hr hb d1 d2 d3 d4
        have hab:a≠b:=fun e=>by simp_all
        have hal:=Yae ha
        have hbl:=Yae hb
        have hXl:(vset X b none).length=X.length:=Yag _ _ _
        have hga:vget (vset X b none++[some (.sq c (l.take n.toNat))]) a=some (.st cs):=by
         rw[Yas (by omega),Yal _ (Ne.symm hab)];exact ha
        have hgn:vget (vset X b none++[some (.sq c (l.take n.toNat))]) X.length=some (.sq c (l.take n.toNat)):=by
         have:=Yam (vset X b none) (some (.sq c (l.take n.toNat)));simp_all
        have hpa:plS (plS pl (.m b) none) (.m X.length) (some x) (.m a)=some y:=by
         unfold plS;grind
        have hxy:x≠y:=fun e=>by subst e;have:=hr.inj _ _ _ d1 e1;simp_all
        obtain⟨f1,f2⟩:=Yr0 (j:=j) (v:=.ref X.length) k1 hga hpa (by simp_all) (e4.ext k2) h1 (fun{X'} hx=>by
         refine TR.ext hx ?_
         have:=TR.ref (X:=vset X b none++[some (.sq c (l.take n.toNat))]) (pl:=plS (plS pl (.m b) none) (.m X.length) (some x)) X.length x _ _ hgn rfl (by unfold plS;simp)
         simp_all)
        obtain⟨st',pl',g1,g2,g3,g4,g5,g6⟩:=YaH (ws:=r) (s:=⟨env,vset (vset X b none++[some (.sq c (l.take n.toNat))]) a (some (.st (cs.set j (.ref X.length))))⟩) (st:=⟨ae,H.set x (some ⟨c.width,el.take n.toNat⟩),b0⟩) hb0 ((he.ext k2).ext f2) f1
        have hlx:X.length+1=(vset (vset X b none++[some (.sq c (l.take n.toNat))]) a (some (.st (cs.set j (.ref X.length))))).length:=by simp[Yag]
        simp only at g5 g6
        exact⟨st',pl',(YrZ d2 e2 h1).trans g1,g2,g3,g4,by omega,fun i hi z hz=>by
         have:=g6 i (by omega) z hz
         unfold plS at this;grind⟩
      trivial
     trivial
    trivial
   ·rename_i a _
    obtain⟨q1,q2,q3,q4⟩:=YjT he hr a
    obtain⟨st',pl',g1,g2,g3,g4,g5,g6⟩:=YaH (ws:=r) (s:=rnV a ⟨env,X⟩) (st:=⟨ae,H,b0⟩) hb q1 q2
    grind
   trivial
 | (t,none,w)::r,s,pl,st,hb,he,hr=>by
   obtain⟨env,X⟩:=s
   obtain⟨ae,H,b0⟩:=st
   have step: ∀(o:VObj) (es:Nat),0<es->YC1 ae t= .emp->lenO o=some 0->(Ext X pl (X++[some o]) (plS pl (.m X.length) (some H.length))->OR (X++[some o]) (plS pl (.m X.length) (some H.length)) (H++[some ⟨es,[]⟩]) X.length o)->
     ∃st' pl',Wk ⟨ae,H,b0⟩ st'/\st'.base=base/\ERel (ownV r ⟨(t,.ref X.length)::env,X++[some o]⟩).heap pl' (ownV r ⟨(t,.ref X.length)::env,X++[some o]⟩).env st'.env/\HRel Fr H0 (ownV r ⟨(t,.ref X.length)::env,X++[some o]⟩).heap pl' st'.heap/\X.length<=(ownV r ⟨(t,.ref X.length)::env,X++[some o]⟩).heap.length/\ ∀i,i<X.length-> ∀x,pl' (.m i)=some x->pl (.m i)=some x:=by
    intro o es hes hl ho hor
    obtain⟨k1,k2⟩:=Yap hr o ⟨es,[]⟩ hor
    have hE:ERel (X++[some o]) (plS pl (.m X.length) (some H.length)) ((t,.ref X.length)::env) ((t,.ref H.length 0 0)::ae):=by
     intro t'
     simp only[YDa,YC1]
     have e0:(t==t')=YIq t t':=by rw[YIN,beq_iff_eq,Nat.beq_eq]
     rw[e0]
     cases YIq t t' with
     |true=>exact .ref X.length H.length o 0 (Yam _ _) ho (by unfold plS;simp)
     |false=>exact(he t').ext k2
    obtain⟨st',pl',h1,h2,h3,h4,g5,g6⟩:=YaH (ws:=r) (s:=⟨(t,.ref X.length)::env,X++[some o]⟩) (st:=⟨(t,.ref H.length 0 0)::ae,H++[some ⟨es,[]⟩],b0⟩) hb hE k1
    simp only[List.length_append,YId,List.length_nil]at g5 g6
    exact⟨st',pl',(YfG hl hes).trans h1,h2,h3,h4,by omega,fun i hi z hz=>by
     have:=g6 i (by omega) z hz
     unfold plS at this;grind⟩
   have rest:=fun(he':ERel X pl env ae)=>YaH (ws:=r) (s:=⟨env,X⟩) (st:=⟨ae,H,b0⟩) hb he' hr
   have ht:=he t
   unfold ownV
   simp only at ht⊢
   cases hbig:YIt 999999 t with
   |true=>
    rw[cond_true]
    obtain⟨q1,q2,q3,q4⟩:=YjT he hr (Nat.sub t 1000000)
    obtain⟨st',pl',g1,g2,g3,g4,g5,g6⟩:=YaH (ws:=r) (s:=rnV (Nat.sub t 1000000) ⟨env,X⟩) (st:=⟨ae,H,b0⟩) hb q1 q2
    grind
   |false=>
   rw[cond_false]
   split
   ·rename_i c hv
    rw[hv]at ht
    cases hw:YIt 0 c.width with
    |false=>simp_all
    |true=>
     rw[cond_true]
     have hw':0<c.width:=by simp_all
     generalize hl:YC1 ae t=av at ht
     cases ht
     exact step (.sq c []) c.width hw' hl rfl (fun _=>⟨H.length,[],by unfold plS;simp,by simp,hw',rfl,fun i e v h=>by simp⟩)
   ·rename_i c hv
    rw[hv]at ht
    cases hw:YIt 0 c.width with
    |false=>simp_all
    |true=>
     rw[cond_true]
     have hw':0<c.width:=by simp_all
     generalize hl:YC1 ae t=av at ht
     cases ht
     exact step (.fm c 0 none []) 1 (by omega) hl rfl (fun _=>⟨H.length,[],by unfold plS;simp,by simp,hw',rfl,fun e he=>by trivial,fun i e v h=>by simp⟩)
   ·rename_i a n hv
    rw[hv]at ht
    split
    ·rename_i c l hb'
     obtain⟨x,el,d1,d2,d3,d4⟩:=hr.obj a _ hb'
     generalize hl:YC1 ae t=av at ht
     cases ht with
     |preD _ _ _ h _=>simp_all
     |pre _ x' _ o n' h hn hp h0 hm=>
      rw[hb']at h;injection h with h;subst h
      rw[d1]at hp;injection hp with hp;subst hp
      injection hn with hn;subst hn
      obtain⟨k1,k2⟩:=YjW (m:=n.toNat) hr hb' d1 d2 d3 d4
      have hXl:(vset X a none).length=X.length:=Yag _ _ _
      have hgn:vget (vset X a none++[some (.sq c (l.take n.toNat))]) X.length=some (.sq c (l.take n.toNat)):=by
       have:=Yam (vset X a none) (some (.sq c (l.take n.toNat)));simp_all
      have hE:ERel (vset X a none++[some (.sq c (l.take n.toNat))]) (plS (plS pl (.m a) none) (.m X.length) (some x)) ((t,.ref X.length)::env) ae:=by
       intro t'
       simp only[YDa]
       cases e:YIq t t' with
       |true=>
        have:=YIu e;subst this
        rw[cond_true,hl]
        have:=TR.ref (X:=vset X a none++[some (.sq c (l.take n.toNat))]) (pl:=plS (plS pl (.m a) none) (.m X.length) (some x)) X.length x _ _ hgn rfl (by unfold plS;simp)
        simp_all
       |false=>exact(he t').ext k2
      have hbl:=Yae hb'
      obtain⟨st',pl',g1,g2,g3,g4,g5,g6⟩:=YaH (ws:=r) (s:=⟨(t,.ref X.length)::env,vset X a none++[some (.sq c (l.take n.toNat))]⟩) (st:=⟨ae,H.set x (some ⟨c.width,el.take n.toNat⟩),b0⟩) hb hE k1
      simp only[List.length_append,YId,List.length_nil,hXl]at g5 g6
      exact⟨st',pl',(YrY d2 hl).trans g1,g2,g3,g4,by omega,fun i hi z hz=>by
       have:=g6 i (by omega) z hz
       unfold plS at this;grind⟩
    simp_all
   simp_all
end
end Go.Abs
namespace Go.Abs
open Go Go.RowKit
mutual
inductive RefIn(A:Nat->Prop):AV->Prop
 |ref (a off len:Nat) (h:A a):RefIn A (.ref a off len)
 |ptr (a i j:Nat) (h:A a):RefIn A (.ptr a i j)
 |np (a:Nat) (h:A a):RefIn A (.np a)
 |v (x:Value):RefIn A (.v x)
 |u:RefIn A .u
 |emp:RefIn A .emp
 |rd (es:Nat) (l:List (List AV)) (h: ∀e∈l,∀x∈e,RefIn A x):RefIn A (.rd es l)
 |rp (cs:List AV) (h: ∀x∈cs,RefIn A x):RefIn A (.rp cs)
 |agg (cs:List AV) (h: ∀x∈cs,RefIn A x):RefIn A (.agg cs)
 |tup (cs:List AV) (h: ∀x∈cs,RefIn A x):RefIn A (.tup cs)
 |clo (f:Nat) (cs:List AV) (h: ∀x∈cs,RefIn A x):RefIn A (.clo f cs)
end
theorem YjX{A:Nat->Prop}{a:AV}(h:NR a):RefIn A a:=by
 induction h with
 |v x=>exact .v x
 |u=>exact .u
 |emp=>exact .emp
 |rd es l h ih=>exact .rd es l ih
 |rp cs h ih=>exact .rp cs ih
 |agg cs h ih=>exact .agg cs ih
 |tup cs h ih=>exact .tup cs ih
 |clo f cs h ih=>exact .clo f cs ih
theorem Yr1{A B:Nat->Prop}(hAB: ∀x,A x->B x){a:AV}(h:RefIn A a):RefIn B a:=by
 induction h with
 |ref a off len h=>exact .ref a off len (hAB a h)
 |ptr a i j h=>exact .ptr a i j (hAB a h)
 |np a h=>exact .np a (hAB a h)
 |v x=>exact .v x
 |u=>exact .u
 |emp=>exact .emp
 |rd es l h ih=>exact .rd es l ih
 |rp cs h ih=>exact .rp cs ih
 |agg cs h ih=>exact .agg cs ih
 |tup cs h ih=>exact .tup cs ih
 |clo f cs h ih=>exact .clo f cs ih
theorem YjY{ρ:Nat->Nat}{Fz:Nat->Prop}{H H':HF}{A:Nat->Prop}(hA: ∀x,A x->ρ x=x/\ ∃o,H' x=some (some o)){a:AV}(h:RefIn A a):Cz ρ Fz H H' a a:=by
 have list: ∀{cs:List AV},(∀x∈cs,Cz ρ Fz H H' x x)-> ∀(j:Nat) (x x':AV),cs[j]?=some x->cs[j]?=some x'->Cz ρ Fz H H' x x':=by
  grind
 induction h with
 |ref a off len h=>
  obtain⟨h1,o,h2⟩:=hA a h
  have:=Cz.ref (ρ:=ρ) (Fz:=Fz) (H:=H) (H':=H') a off len o h2
  simp_all
 |ptr a i j h=>
  obtain⟨h1,o,h2⟩:=hA a h
  have:=Cz.ptr (ρ:=ρ) (Fz:=Fz) (H:=H) (H':=H') a i j o h2
  simp_all
 |np a h=>
  obtain⟨h1,o,h2⟩:=hA a h
  have:=Cz.np (ρ:=ρ) (Fz:=Fz) (H:=H) (H':=H') a o h2
  simp_all
 |v x=>exact .v x
 |u=>exact .u _
 |emp=>exact .emp
 |rd es l h ih=>
  refine .rd es l l rfl (fun i e e' h1 h2=>by simp_all) (fun i e e' j x x' h1 h2 h3 h4=> ?_)
  grind
 |rp cs h ih=>exact .rp cs cs rfl (list ih)
 |agg cs h ih=>exact .agg cs cs rfl (list ih)
 |tup cs h ih=>exact .tup cs cs rfl (list ih)
 |clo f cs h ih=>exact .clo f cs cs rfl (list ih)
def FrOK(Fr:Nat->Prop)(H:Heap):Prop:= ∀x,Fr x->(∃o,H[x]?=some (some o))/\ ∀o,H[x]?=some (some o)-> ∀e∈o.el,∀c∈e,RefIn Fr c
theorem YcI{P:TV->AV->AV->Prop}: ∀(cs:List TV) (as:List AV),cs.length=as.length->(∀(j:Nat) (c:TV) (a:AV),cs[j]?=some c->as[j]?=some a-> ∃a',P c a a')->
  ∃as':List AV,as'.length=as.length/\ ∀(j:Nat) (c:TV) (a a':AV),cs[j]?=some c->as[j]?=some a->as'[j]?=some a'->P c a a'
 | [],[],_,_=>⟨[],rfl,fun j c a a' h=>by simp⟩
 |c::cs,a::as,hl,h=>by
  obtain⟨as',h1,h2⟩:=YcI cs as (by simp_all) (fun j c a k1 k2=>h (j+1) c a k1 k2)
  obtain⟨a',h3⟩:=h 0 c a rfl rfl
  refine⟨a'::as',by grind,fun j c1 a1 a2 k1 k2 k3=> ?_⟩
  grind
 | [],_::_,hl,_=>by trivial
 |_::_,[],hl,_=>by trivial
theorem Ybk(X:YCX)(F:List Nat): ∀l:List TV,YEJ X F l=l.map (frzA X F)
 | []=>rfl
 |a::r=>by simp[YEJ,Ybk X F r]
theorem YjZ(X:YCX): ∀F:List Nat,(YEA X F).length=X.length
 | []=>rfl
 |a::r=>by simp only[YEA];rw[Yag,YjZ X r]
theorem Yj0(X:YCX): ∀(F:List Nat) (a:Nat),vget (YEA X F) a=if a∈F then none else vget X a
 | [],a=>by rfl
 |b::r,a=>by
  simp only[YEA]
  by_cases e:b=a
  ·subst e
   rw[if_pos (YH5 ..)]
   by_cases hb:b< (YEA X r).length
   ·exact Yar _ hb
   ·exact Yat (by rw[Yag];omega)
  ·rw[Yal _ e,Yj0 X r a]
   grind
theorem any_mem{F:List Nat}{a:Nat}:F.any (YIq a)=true↔a∈F:=by
 simp
theorem Yr2{ρ:Nat->Nat}{Fz:Nat->Prop}{H H1 H2:HF}(hl: ∀a o,H1 a=some (some o)-> ∃o',H2 a=some (some o')){a b:AV}(h:Cz ρ Fz H H1 a b):Cz ρ Fz H H2 a b:=by
 induction h with
 |u a=>exact .u a
 |v x=>exact .v x
 |emp=>exact .emp
 |empRd es=>exact .empRd es
 |rd es l l' hl hz h ih=>exact .rd es l l' hl hz ih
 |rp cs cs' hl h ih=>exact .rp cs cs' hl ih
 |agg cs cs' hl h ih=>exact .agg cs cs' hl ih
 |tup cs cs' hl h ih=>exact .tup cs cs' hl ih
 |clo f cs cs' hl h ih=>exact .clo f cs cs' hl ih
 |ref a off len o h=>obtain⟨o',h'⟩:=hl a o h;exact .ref a off len o' h'
 |ptr a i j o h=>obtain⟨o',h'⟩:=hl a o h;exact .ptr a i j o' h'
 |np a o h=>obtain⟨o',h'⟩:=hl a o h;exact .np a o' h'
 |frz i off len o l' hz ho hle hl hlz h ih=>exact .frz i off len o l' hz ho hle hl hlz ih
section
variable{Fr:Nat->Prop}{H0:Heap}{X:YCX}{pl:Pl}{H:Heap}{F:List Nat}
abbrev frzX(X:YCX)(F:List Nat):YCX:=YEA (X.map (frzO X F)) F
def plF(pl:Pl)(F:List Nat):Pl:=fun p=>if p.of∈F then none else pl p
theorem Ya9(a:Nat):vget (frzX X F) a=if a∈F then none else frzO X F (vget X a):=by
 rw[Yj0,YdQ _ rfl]
theorem Yba:(frzX X F).length=X.length:=by rw[YjZ];simp
theorem Yf0{el:List (List AV)}{c:Cs}{l:List c.den}(h:Rows el c l){Fz:Nat->Prop}{h0 h1:HF}{k:Nat}(hk:k<=l.length):
  (∀(i:Nat) (e e':List AV),el[0+i]?=some e->((l.take k).map c.enc)[i]?=some e'->e.length=e'.length)/\
  (∀(i:Nat) (e e':List AV) (j:Nat) (x x':AV),el[0+i]?=some e->((l.take k).map c.enc)[i]?=some e'->e[j]?=some x->e'[j]?=some x'->Cz id Fz h0 h1 x x'):=by
 have key: ∀{i:Nat} {e e':List AV},el[0+i]?=some e->((l.take k).map c.enc)[i]?=some e'-> ∃v,CC e (c.enc v)/\e'=c.enc v:=by
  intro i e e' h1 h2
  rw[YHW,YID]at h2
  obtain⟨v,h2,rfl⟩:=h2
  rw[YIe]at h2
  split at h2
  ·rw[YIw]at h1;exact⟨v,h.2 i e v h1 h2,rfl⟩
  trivial
 refine⟨fun i e e' h1 h2=> ?_,fun i e e' j x x' h1 h2 h3 h4=> ?_⟩
 ·obtain⟨v,hv,rfl⟩:=key h1 h2;exact hv.1
 ·obtain⟨v,hv,rfl⟩:=key h1 h2
  exact Ybx (hv.2 j x x' h3 h4) (YbA c v x' (YHU h4))
theorem YdS{Fz:Nat->Prop}{h1:HF}{a x:Nat}{c:Cs}{l:List c.den}(hr:HRel Fr H0 X pl H)(ho:vget X a=some (.sq c l))(hp:pl (.m a)=some x)(hz:Fz x){k:Nat}(hk:k<=l.length):
  Cz id Fz (hf H) h1 (.ref x 0 k) (.rd c.width ((l.take k).map c.enc)):=by
 obtain⟨x',el,e1,e2,e3,e4⟩:=hr.obj a _ ho
 rw[hp]at e1;injection e1 with e1;subst e1
 have:=Yf0 (Fz:=Fz) (h0:=hf H) (h1:=h1) e4 hk
 have:=Cz.frz (ρ:=id) (Fz:=Fz) (H:=hf H) (H':=h1) x 0 k ⟨c.width,el⟩ _ hz e2 (by simp[e4.1];omega) (by simp_all) this.1 this.2
 rwa[show wd (AObj.es ⟨c.width,el⟩)=c.width from YaF e3]at this
theorem Yr3{el:List (List AV)}{c:Cs}{l:List c.den}(h:Rows el c l){Fz:Nat->Prop}{h0 h1:HF}{x:Nat}{o:AObj}(ho:h0 x=some (some o))(he:o.el=el)(hw:wd o.es=c.width)(hz:Fz x):
  Cz id Fz h0 h1 (.ref x 0 l.length) (.rd c.width (l.map c.enc)):=by
 have:=Yf0 (Fz:=Fz) (h0:=h0) (h1:=h1) h (k:=l.length) (YIr _)
 rw[YH8]at this
 subst he
 rw[<-hw]
 exact .frz x 0 l.length o _ hz ho (by rw[h.1];omega) (by simp) this.1 this.2
theorem Yj1{Fz:Nat->Prop}{h1:HF}{a x:Nat}{s:ByteArray}(hr:HRel Fr H0 X pl H)(ho:vget X a=some (.sb s))(hp:pl (.m a)=some x)(hz:Fz x):
  Cz id Fz (hf H) h1 (.ref x 0 s.size) (.rd U8.width ((strL s).map U8.enc)):=by
 obtain⟨x',e1,e2⟩:=hr.obj a _ ho
 rw[hp]at e1;injection e1 with e1;subst e1
 have hL:(strL s).length=s.size:=by rw[<-(YaX s).1];exact strA_len' s
 rw[<-hL]
 exact Yr3 (YaX s).rows e2 rfl rfl hz
theorem Yr4(hr:HRel Fr H0 X pl H){a:Nat}{s:ByteArray}(ha:vget X a=some (.sb s)){p:Pos}{x:Nat}(hp:pl p=some x)(hpa:p.of=a):p= .m a:=by
 have:=hr.own p x hp
 cases p with
 |m b=>simp only[Pos.of]at hpa;rw[hpa]
 |n b i=>
  simp only[Pos.of]at hpa;subst hpa
  obtain⟨c',v,h,l',k,_⟩:=this
  simp_all
theorem Yj2{Fz:Nat->Prop}{h1:HF}{a x:Nat}{c:Cs}{ver:Nat}{l:List (List c.den)}(hr:HRel Fr H0 X pl H)(ho:vget X a=some (.fm c ver none l))(hp:pl (.m a)=some x)(hz: ∀p y,p.of=a->pl p=some y->Fz y):
  Cz id Fz (hf H) h1 (.ref x 0 l.length) (.rd 1 (l.map fun v=>[AV.rd c.width (v.map c.enc)])):=by
 obtain⟨x',el,e1,e2,e3,e4,e5,e6⟩:=hr.obj a _ ho
 rw[hp]at e1;injection e1 with e1;subst e1
 have key: ∀{i:Nat} {e e':List AV},el[0+i]?=some e->(l.map fun v=>[AV.rd c.width (v.map c.enc)])[i]?=some e'->e.length=e'.length/\ ∀(j:Nat) (z z':AV),e[j]?=some z->e'[j]?=some z'->Cz id Fz (hf H) h1 z z':=by
  intro i e e' k1 k2
  rw[YHW,YID]at k2
  obtain⟨v,k2,rfl⟩:=k2
  rw[YIw]at k1
  rcases e6 i e v k1 k2 (by simp)with⟨y,el',g1,g2,g3,g4⟩| ⟨g1,g2,g3⟩
  ·subst g2
   refine⟨rfl,fun j z z' h1 h2=> ?_⟩
   cases j with
   |zero=>
    have hz1:z= .ref y 0 v.length:=by simp_all
    have hz2:z'= .rd c.width (v.map c.enc):=by
     simp_all
    subst hz1;subst hz2
    have:=Yf0 (Fz:=Fz) (h0:=hf H) (h1:= ‹HF›) g4 (k:=v.length) (YIr _)
    rw[YH8]at this
    have:=Cz.frz (ρ:=id) (Fz:=Fz) (H:=hf H) (H':= ‹HF›) y 0 v.length ⟨c.width,el'⟩ _ (hz _ y rfl g1) g3 (by simp[g4.1]) (by simp) this.1 this.2
    rwa[show wd (AObj.es ⟨c.width,el'⟩)=c.width from YaF e3]at this
   |succ j=>trivial
  ·subst g2;subst g3
   refine⟨rfl,fun j z z' h1 h2=> ?_⟩
   cases j with
   |zero=>
    have hz1:z= .emp:=by simp_all
    have hz2:z'= .rd c.width []:=by
     simp_all
    subst hz1;subst hz2;exact .empRd _
   |succ j=>trivial
 exact .frz x 0 l.length ⟨1,el⟩ _ (hz _ x rfl hp) e2 (by grind) (by simp) (fun i e e' k1 k2=>(key k1 k2).1) (fun i e e' j z z' k1 k2 k3 k4=>(key k1 k2).2 j z z' k3 k4)
theorem Yj3(hr:HRel Fr H0 X pl H)(hF: ∀a∈F,YEs X a=true){h1:HF}(hl: ∀p x,plF pl F p=some x-> ∃o,h1 x=some (some o)){tv:TV}{av:AV}(h:TR X pl tv av):
  ∃av',Cz id (fun x=> ∃p:Pos,p.of∈F/\pl p=some x) (hf H) h1 av av'/\TR (frzX X F) (plF pl F) (frzA X F tv) av':=by
 have hseq: ∀{a:Nat} {o:VObj},a∈F->vget X a=some o->(∃c l,o= .sq c l)\/(∃c v l,o= .fm c v none l)\/ ∃s,o= .sb s:=by
  intro a o h1 h2
  have:=hF a h1
  unfold YEs at this
  grind
 have keep: ∀{a:Nat} {o:VObj},a∉F->vget X a=some o-> ∃o',vget (frzX X F) a=some o'/\lenO o'=lenO o/\elN o'=elN o:=by
  intro a o h1 h2
  rw[Ya9,if_neg h1,h2]
  cases o with
  |sq c l=>exact⟨_,rfl,rfl,rfl⟩
  |fm c v hole l=>exact⟨_,rfl,rfl,rfl⟩
  |st cs=>exact⟨_,rfl,rfl,rfl⟩
  |sb s=>exact⟨_,rfl,rfl,rfl⟩
 have dead: ∀{a:Nat},a∈F->vget (frzX X F) a=none:=fun h=>by rw[Ya9,if_pos h]
 have plk: ∀{p:Pos},p.of∉F->plF pl F p=pl p:=fun h=>by unfold plF;simp_all
 induction h with
 |i k n=>exact⟨_,.v _,.i k n⟩
 |b x=>exact⟨_,.v _,.b x⟩
 |s x=>exact⟨_,.v _,.s x⟩
 |l c v a h=>exact⟨.rd c.width (v.map c.enc),Ybx h (Ycv (.l c) v),.l c v _ (.refl _)⟩
 |e c=>exact⟨_,.emp,.e c⟩
 |u a=>exact⟨.u,.u _,.u _⟩
 |v x=>exact⟨_,.v _,.v x⟩
 |nl=>exact⟨_,.v _,.nl⟩
 |ref a x o n h hn hp=>
  by_cases ha:a∈F
  ·have hm:F.any (YIq a)=true:=any_mem.2 ha
   rcases hseq ha h with⟨c,l,rfl⟩| ⟨c,v,l,rfl⟩| ⟨s,rfl⟩
   ·simp only[lenO]at hn;injection hn with hn;subst hn
    refine⟨_,YdS hr h hp ⟨.m a,ha,hp⟩ (YIr _),?_⟩
    simp only[frzA,frzT,hm,cond_true,h,YH8]
    exact .l c l _ (.refl _)
   ·simp only[lenO]at hn;injection hn with hn;subst hn
    refine⟨_,Yj2 hr h hp (fun p y e e2=>⟨p,by simp_all,e2⟩),?_⟩
    simp only[frzA,frzT,hm,cond_true,h]
    exact .l (.cons (.l c) .nil) l _ (.refl _)
   ·simp only[lenO]at hn;injection hn with hn;subst hn
    refine⟨_,Yj1 hr h hp ⟨.m a,ha,hp⟩,?_⟩
    simp only[frzA,frzT,hm,cond_true,h]
    exact .l U8 _ _ (.refl _)
  ·have hm:F.any (YIq a)=false:=by
    cases hq:F.any (YIq a)with
    |false=>rfl
    |true=>simp_all
   obtain⟨o',k1,k2,k3⟩:=keep ha h
   have hp':plF pl F (.m a)=some x:=(plk (p:=.m a) ha).trans hp
   obtain⟨q,hq⟩:=hl _ _ hp'
   refine⟨_,.ref x 0 n q hq,?_⟩
   simp only[frzA,frzT,hm,cond_false]
   exact .ref a x o' n k1 (k2.trans hn) hp'
 |refD a av h ha=>
  refine⟨.u,.u _,?_⟩
  have hnF:a∉F:=fun hm=>by have:=hF a hm;unfold YEs at this;simp_all
  have hm:F.any (YIq a)=false:=by
   cases hq:F.any (YIq a)with
   |false=>rfl
   |true=>simp_all
  simp only[frzA,frzT,hm,cond_false]
  exact .refD a _ (by rw[Ya9,if_neg hnF,h];rfl) (by rw[Yba];exact ha)
 |pre a x m o n h hn hp h0 hm'=>
  by_cases ha:a∈F
  ·have hm:F.any (YIq a)=true:=any_mem.2 ha
   rcases hseq ha h with⟨c,l,rfl⟩| ⟨c,v,l,rfl⟩| ⟨s,rfl⟩
   ·simp only[lenO]at hn;injection hn with hn;subst hn
    refine⟨_,YdS hr h hp ⟨.m a,ha,hp⟩ hm',?_⟩
    simp only[frzA,frzT,hm,cond_true,h]
    exact .l c _ _ (.refl _)
   ·refine⟨.u,.u _,?_⟩
    simp only[frzA,frzT,hm,cond_true,h]
    exact .preD a _ _ (dead ha) (by rw[Yba];exact Yae h)
   ·refine⟨.u,.u _,?_⟩
    simp only[frzA,frzT,hm,cond_true,h]
    exact .preD a _ _ (dead ha) (by rw[Yba];exact Yae h)
  ·have hm:F.any (YIq a)=false:=by
    cases hq:F.any (YIq a)with
    |false=>rfl
    |true=>simp_all
   obtain⟨o',k1,k2,k3⟩:=keep ha h
   have hp':plF pl F (.m a)=some x:=(plk (p:=.m a) ha).trans hp
   obtain⟨q,hq⟩:=hl _ _ hp'
   refine⟨_,.ref x 0 m.toNat q hq,?_⟩
   simp only[frzA,frzT,hm,cond_false]
   exact .pre a x m o' n k1 (k2.trans hn) hp' h0 hm'
 |preD a m av h ha=>
  refine⟨.u,.u _,?_⟩
  have hnF:a∉F:=fun hm=>by have:=hF a hm;unfold YEs at this;simp_all
  have hm:F.any (YIq a)=false:=by
   cases hq:F.any (YIq a)with
   |false=>rfl
   |true=>simp_all
  simp only[frzA,frzT,hm,cond_false]
  exact .preD a _ _ (by rw[Ya9,if_neg hnF,h];rfl) (by rw[Yba];exact ha)
 |ptr a i j x o h hi hp=>
  by_cases ha:a∈F
  ·exact⟨.u,.u _,.ptrD a i j _ (dead ha) (by rw[Yba];exact Yae h)⟩
  ·obtain⟨o',k1,k2,k3⟩:=keep ha h
   have hp':plF pl F (.m a)=some x:=(plk (p:=.m a) ha).trans hp
   obtain⟨q,hq⟩:=hl _ _ hp'
   exact⟨_,.ptr x i j q hq,.ptr a i j x o' k1 (by omega) hp'⟩
 |ptrD a i j av h ha=>
  refine⟨.u,.u _,.ptrD a i j _ ?_ (by rw[Yba];exact ha)⟩
  rw[Ya9,h];split<;>rfl
 |np a x o h hp=>
  by_cases ha:a∈F
  ·exact⟨.u,.u _,.npD a _ (dead ha) (by rw[Yba];exact Yae h)⟩
  ·obtain⟨o',k1,k2,k3⟩:=keep ha h
   have hp':plF pl F (.m a)=some x:=(plk (p:=.m a) ha).trans hp
   obtain⟨q,hq⟩:=hl _ _ hp'
   exact⟨_,.np x q hq,.np a x o' k1 hp'⟩
 |npD a av h ha=>
  refine⟨.u,.u _,.npD a _ ?_ (by rw[Yba];exact ha)⟩
  rw[Ya9,h];split<;>rfl
 |sub=>exact⟨.u,.u _,.u _⟩
 |sube=>exact⟨.u,.u _,.u _⟩
 |subD=>exact⟨.u,.u _,.u _⟩
 |pti=>exact⟨.u,.u _,.u _⟩
 |ptiD=>exact⟨.u,.u _,.u _⟩
 |rp=>exact⟨.u,.u _,.u _⟩
 |lt=>exact⟨.u,.u _,.u _⟩
 |ag cs as hl' h ih=>
  obtain⟨as',k1,k2⟩:=YcI cs as hl' ih
  refine⟨.agg as',.agg _ _ k1.symm (fun j x x' h1 h2=> ?_),?_⟩
  ·obtain⟨c,hc⟩:=Yah hl' h1
   grind
  ·simp only[frzA,Ybk]
   refine .ag _ _ (by simp_all) (fun j c a h1 h2=> ?_)
   grind
 |tp cs as hl' h ih=>
  obtain⟨as',k1,k2⟩:=YcI cs as hl' ih
  refine⟨.tup as',.tup _ _ k1.symm (fun j x x' h1 h2=> ?_),?_⟩
  ·obtain⟨c,hc⟩:=Yah hl' h1
   grind
  ·simp only[frzA,Ybk]
   refine .tp _ _ (by simp_all) (fun j c a h1 h2=> ?_)
   grind
 |clo g cs as hl' h ih=>
  obtain⟨as',k1,k2⟩:=YcI cs as hl' ih
  refine⟨.clo g as',.clo _ _ _ k1.symm (fun j x x' h1 h2=> ?_),?_⟩
  ·obtain⟨c,hc⟩:=Yah hl' h1
   grind
  ·simp only[frzA,Ybk]
   refine .clo g _ _ (by simp_all) (fun j c a h1 h2=> ?_)
   grind
def FrzS(X:YCX)(pl:Pl)(H:Heap)(F:List Nat)(h1:HF)(x:Nat)(o':AObj):Prop:=
 (∃a cs e e',a∉F/\vget X a=some (.st cs)/\pl (.m a)=some x/\H[x]?=some (some ⟨cs.length,[e]⟩)/\0<cs.length/\cs.length=e.length/\o'=⟨cs.length,[e']⟩/\e'.length=e.length/\
  ∀(j:Nat) (c:TV) (a1 a2:AV),cs[j]?=some c->e[j]?=some a1->e'[j]?=some a2->Cz id (fun x=> ∃p:Pos,p.of∈F/\pl p=some x) (hf H) h1 a1 a2/\TR (frzX X F) (plF pl F) (frzA X F c) a2)\/
 (∃p:Pos,p.of∉F/\pl p=some x/\ (∀a cs,p= .m a->vget X a≠some (.st cs))/\H[x]?=some (some o'))
theorem Yr5{env:VEnv}{ae:Env}{b:Nat}(hFr:FrOK Fr H0)(he:ERel X pl env ae)(hr:HRel Fr H0 X pl H)(hF: ∀a∈F,YEs X a=true)(hnh: ∀{a c v h l},vget X a=some (.fm c v h l)->h=none):
  ∃ae' H',Wk ⟨ae,H,b⟩ ⟨ae',H',b⟩/\ERel (frzX X F) (plF pl F) (env.map fun p=>(p.1,frzA X F p.2)) ae'/\HRel Fr H0 (frzX X F) (plF pl F) H':=by
 classical
 let h1:HF:=fun x=>if∃p,plF pl F p=some x then some (some ⟨1,[]⟩)else none
 have hl: ∀p x,plF pl F p=some x-> ∃o,h1 x=some (some o):=fun p x h=>⟨_,if_pos ⟨p,h⟩⟩
 have ex: ∀x,(∃p,plF pl F p=some x)-> ∃o',FrzS X pl H F h1 x o':=by
  rintro x ⟨p,hp⟩
  have hpF:p.of∉F/\pl p=some x:=by
   unfold plF at hp
   split at hp
   ·cases hp
   ·exact⟨by assumption,hp⟩
  obtain⟨o,ho⟩:=hr.lt hpF.2
  by_cases hs: ∃a cs,p= .m a/\vget X a=some (.st cs)
  ·obtain⟨a,cs,rfl,hX⟩:=hs
   obtain⟨x',e,e1,e2,e3,e4⟩:=hr.obj a _ hX
   rw[hpF.2]at e1;injection e1 with e1;subst e1
   obtain⟨e',k1,k2⟩:=YcI (P:=fun c a1 a2=>Cz id (fun x=> ∃p:Pos,p.of∈F/\pl p=some x) (hf H) h1 a1 a2/\TR (frzX X F) (plF pl F) (frzA X F c) a2) cs e e4.1 (fun j c a g1 g2=>Yj3 hr hF hl (e4.2 j c a g1 g2))
   exact⟨_,.inl ⟨a,cs,e,e',hpF.1,hX,hpF.2,e2,e3,e4.1,rfl,k1,k2⟩⟩
  ·exact⟨o,.inr ⟨p,hpF.1,hpF.2,fun a cs e1 e2=>hs ⟨a,cs,e1,e2⟩,ho⟩⟩
 let obj:Nat->Option AObj:=fun x=>if Fr x then(H[x]?).join else if h: ∃p,plF pl F p=some x then some (Classical.choose (ex x h))else none
 let H':Heap:=(List.range H.length).map obj
 have hget: ∀{p x},plF pl F p=some x-> ∃o',H'[x]?=some (some o')/\FrzS X pl H F h1 x o':=by
  intro p x hp
  have hx: ∃p,plF pl F p=some x:=⟨p,hp⟩
  have hlt:x<H.length:=by
   unfold plF at hp
   split at hp
   ·cases hp
   ·exact hr.bd hp
  refine⟨Classical.choose (ex x hx),?_,Classical.choose_spec (ex x hx)⟩
  show((List.range H.length).map obj)[x]?=_
  rw[YHW,YIo hlt]
  have hnf: ¬Fr x:=by
   unfold plF at hp
   split at hp
   ·cases hp
   ·exact hr.nfr _ _ hp
  simp only[YIE,obj,if_neg hnf,dif_pos hx]
 have hfrH: ∀{x},Fr x->H'[x]?=H[x]?:=by
  intro x hx
  have h1:=hr.fr x hx
  have hlt:x<H.length:=YIx h1.1 hr.le
  obtain⟨⟨o,ho⟩,_⟩:=hFr x hx
  show((List.range H.length).map obj)[x]?=_
  rw[YHW,YIo hlt]
  simp only[YIE,obj,if_pos hx,h1.2,ho,Option.join_some]
 have hinv: ∀{x o'},H'[x]?=some (some o')-> ¬Fr x->(∃p,plF pl F p=some x)/\FrzS X pl H F h1 x o':=by
  intro x o' h hnf
  have hlt:x<H.length:=by have:=(YHT.1 h).1;simpa[H']using this
  have h':obj x=some o':=by
   have:((List.range H.length).map obj)[x]?=some (some o'):=h
   rw[YHW,YIo hlt]at this
   simpa using this
  simp only[obj,if_neg hnf]at h'
  split at h'
  ·rename_i hx;injection h' with h';subst h';exact⟨hx,Classical.choose_spec (ex x hx)⟩
  ·cases h'
 have hlen:H'.length=H.length:=by simp[H']
 have hlive: ∀a o,h1 a=some (some o)-> ∃o',hf H' a=some (some o'):=by
  intro a o h
  simp only[h1]at h
  split at h
  ·rename_i hp;obtain⟨p,hp⟩:=hp;obtain⟨o',h2,_⟩:=hget hp;exact⟨o',h2⟩
  ·cases h
 have hp2: ∀{p:Pos} {x},plF pl F p=some x->p.of∉F/\pl p=some x:=by
  intro p x hp
  unfold plF at hp
  split at hp
  ·cases hp
  ·exact⟨by assumption,hp⟩
 have hsame: ∀{p:Pos} {x},plF pl F p=some x->(∀a cs,p= .m a->vget X a≠some (.st cs))->H'[x]?=H[x]?:=by
  intro p x hp hns
  obtain⟨o',k1,k2⟩:=hget hp
  rcases k2 with⟨a,cs,e,e',_,hX,hpa,_⟩| ⟨q,_,_,_,hH⟩
  ·have:=hr.inj _ _ _ (hp2 hp).2 hpa
   exact absurd hX (hns a cs this)
  ·rw[k1,hH]
 have hcell: ∀{a:Nat} {o:VObj},(∀cs,o≠ .st cs)->vget X a=some o-> ∀{x:Nat} {ob:AObj},(∃p:Pos,p.of=a/\pl p=some x)->H[x]?=some (some ob)->a∉F->
   ∀e∈ob.el,∀z∈e,Cz id (fun x=> ∃p:Pos,p.of∈F/\pl p=some x) (hf H) (hf H') z z:=by
  rintro a o hns hX x ob ⟨p,hpa,hp⟩ hH haF e he z hz
  obtain⟨i,hi⟩:=YH4.1 he
  have hil:=(YHT.1 hi).1
  have hrow: ∀{el:List (List AV)} {c:Cs} {l:List c.den},Rows el c l->el[i]?=some e->Cz id (fun x=> ∃p:Pos,p.of∈F/\pl p=some x) (hf H) (hf H') z z:=by
   intro el c l hrw h1
   have hil:=(YHT.1 h1).1
   have hil2:i<l.length:=by rw[<-hrw.1];exact hil
   have hcc:=hrw.2 i e l[i] h1 (YHV hil2)
   obtain⟨j,hj⟩:=YH4.1 hz
   obtain⟨z',hz'⟩:=Yah hcc.1.symm hj
   exact Yjk (Ydp (hcc.2 j z z' hj hz') (YbA c _ z' (YHU hz')))
  cases o with
  |st cs=>exact absurd rfl (hns cs)
  |sb s=>
   have:=Yr4 hr hX hp hpa;subst this
   obtain⟨x',e1,e2⟩:=hr.obj a _ hX
   rw[hp]at e1;injection e1 with e1;subst e1
   rw[hH]at e2;injection e2 with e2;injection e2 with e2;subst e2
   exact hrow (YaX s).rows hi
  |sq c l=>
   have:=Yjz hr hX hp hpa;subst this
   obtain⟨x',el,e1,e2,e3,e4⟩:=hr.obj a _ hX
   rw[hp]at e1;injection e1 with e1;subst e1
   rw[hH]at e2;injection e2 with e2;injection e2 with e2;subst e2
   exact hrow e4 hi
  |fm c ver hole l=>
   obtain⟨x',el,e1,e2,e3,e4,e5,e6⟩:=hr.obj a _ hX
   rcases Ycz hr hX hp hpa with rfl| ⟨k,rfl,hk,hkh⟩
   ·rw[hp]at e1;injection e1 with e1;subst e1
    rw[hH]at e2;injection e2 with e2;injection e2 with e2;subst e2
    have hil2:i<l.length:=by rw[<-e4];exact hil
    have hh:hole≠some i:=by rw[hnh hX];simp
    rcases e6 i e l[i] hi (YHV hil2) hh with⟨y,el',g1,g2,g3,g4⟩| ⟨g1,g2,g3⟩
    ·subst g2;simp at hz;subst hz
     obtain⟨q,hq,_⟩:=hget (p:=.n a i) (x:=y) ((if_neg haF).trans g1)
     exact .ref y 0 _ q hq
    ·subst g3;simp at hz;subst hz;exact .emp
   ·have hkl:k<el.length:=by omega
    rcases e6 k el[k] l[k] (YHV hkl) (YHV hk) hkh with⟨y,el',g1,g2,g3,g4⟩| ⟨g1,_⟩
    ·rw[hp]at g1;injection g1 with g1;subst g1
     rw[hH]at g3;injection g3 with g3;injection g3 with g3;subst g3
     exact hrow g4 hi
    ·rw[hp]at g1;cases g1
 have hczl: ∀{a b},Cz id (fun x=> ∃p:Pos,p.of∈F/\pl p=some x) (hf H) h1 a b->Cz id (fun x=> ∃p:Pos,p.of∈F/\pl p=some x) (hf H) (hf H') a b:=fun h=>Yr2 hlive h
 have hHR:HRel (fun _=>False) [] (frzX X F) (plF pl F) H':=by
  refine⟨fun a o h2=> ?_,fun p q x k1 k2=>hr.inj _ _ _ (hp2 k1).2 (hp2 k2).2,fun p x k1=> ?_,fun x h=>h.elim,fun _ _ _ h=>h,YIz _⟩
  ·rw[Ya9]at h2
   split at h2
   ·cases h2
   ·rename_i haF
    cases hX:vget X a with
    |none=>rw[hX]at h2;cases h2
    |some o0=>
     rw[hX]at h2
     have hpl: ∀p:Pos,p.of=a->plF pl F p=pl p:=fun p e=>by unfold plF;rw[if_neg (by rw[e];exact haF)]
     have hob:=hr.obj a o0 hX
     cases o0 with
     |sb s=>
      simp only[frzO]at h2;injection h2 with h2;subst h2
      obtain⟨x,e1,e2⟩:=hob
      exact⟨x,(hpl _ rfl).trans e1,(hsame ((hpl _ rfl).trans e1) (fun a' cs e=>by injection e with e;subst e;rw[hX];simp)).trans e2⟩
     |sq c l=>
      simp only[frzO]at h2;injection h2 with h2;subst h2
      obtain⟨x,el,e1,e2,e3,e4⟩:=hob
      exact⟨x,el,(hpl _ rfl).trans e1,(hsame ((hpl _ rfl).trans e1) (fun a' cs e=>by injection e with e;subst e;rw[hX];simp)).trans e2,e3,e4⟩
     |fm c v hole l=>
      simp only[frzO]at h2;injection h2 with h2;subst h2
      obtain⟨x,el,e1,e2,e3,e4,e5,e6⟩:=hob
      refine⟨x,el,(hpl _ rfl).trans e1,(hsame ((hpl _ rfl).trans e1) (fun a' cs e=>by injection e with e;subst e;rw[hX];simp)).trans e2,e3,e4,e5,fun i e v' k1 k2 k3=> ?_⟩
      rcases e6 i e v' k1 k2 k3 with⟨y,el',g1,g2,g3,g4⟩| ⟨g1,g2,g3⟩
      ·exact .inl ⟨y,el',(hpl _ rfl).trans g1,g2,(hsame ((hpl _ rfl).trans g1) (fun a' cs e=>by cases e)).trans g3,g4⟩
      ·exact .inr ⟨(hpl _ rfl).trans g1,g2,g3⟩
     |st cs=>
      simp only[frzO]at h2;injection h2 with h2;subst h2
      obtain⟨x,e,e1,e2,e3,e4⟩:=hob
      obtain⟨o',k1,k2⟩:=hget ((hpl (.m a) rfl).trans e1)
      rcases k2 with⟨a',cs',e0,e',q1,q2,q3,q4,q5,q6,q7,q8,q9⟩| ⟨p,q1,q2,q3,_⟩
      ·have:=hr.inj _ _ _ e1 q3;injection this with this;subst this
       rw[hX]at q2;injection q2 with q2;injection q2 with q2;subst q2
       refine⟨x,e',(hpl _ rfl).trans e1,by rw[k1,q7];simp[Ybk],by simpa[Ybk]using e3,by simp[Ybk,q8,q6],fun j c a2 g1 g2=> ?_⟩
       rw[Ybk,YHW,YID]at g1
       obtain⟨y,g1,rfl⟩:=g1
       obtain⟨z,hz⟩:=Yah (l:=e0) q8.symm g2
       exact(q9 j y z a2 g1 hz g2).2
      ·have:=hr.inj _ _ _ e1 q2;subst this;exact absurd hX (q3 a cs rfl)
  ·obtain⟨k2,k3⟩:=hp2 k1
   have:=hr.own p x k3
   cases p with
   |m a=>
    obtain⟨o,ho⟩:=this
    have:frzO X F (some o)=some (match frzO X F (some o)with|some o'=>o'|none=>o):=by cases o<;>rfl
    exact⟨_,by rw[Ya9,if_neg (show¬a∈F from k2),ho];exact this⟩
   |n a i=>
    obtain⟨c,v,h,l,ho,k⟩:=this
    exact⟨c,v,h,l,by rw[Ya9,if_neg (show¬a∈F from k2),ho];rfl,k⟩
 have henv: ∀env':VEnv,(∃ae',∀t,(∃a,YDa env' t=a)->Cz id (fun x=> ∃p:Pos,p.of∈F/\pl p=some x) (hf H) (hf H') (YC1 ae t) (YC1 ae' t)/\TR (frzX X F) (plF pl F) (YDa (env'.map fun p=>(p.1,frzA X F p.2)) t) (YC1 ae' t))\/ ¬ERel X pl env' ae:=by
  intro env'
  by_cases hE:ERel X pl env' ae
  ·refine .inl ?_
   have hch: ∀t,∃av',Cz id (fun x=> ∃p:Pos,p.of∈F/\pl p=some x) (hf H) h1 (YC1 ae t) av'/\TR (frzX X F) (plF pl F) (frzA X F (YDa env' t)) av':=fun t=>Yj3 hr hF hl (hE t)
   refine⟨(env'.map (·.1)).map fun t=>(t,Classical.choose (hch t)),fun t _=> ?_⟩
   have hl1: ∀ts:List Nat,YC1 (ts.map fun t=>(t,Classical.choose (hch t))) t=if t∈ts then Classical.choose (hch t)else .u:=by
    intro ts
    induction ts with
    |nil=>rfl
    |cons s ts ih=>
     simp only[YHX,YC1]
     by_cases e:s=t
     ·subst e;simp
     ·have:(s==t)=false:=by simp[e]
      rw[this,cond_false,ih];simp[Ne.symm e]
   have hl2: ∀en:VEnv,YDa (en.map fun p=>(p.1,frzA X F p.2)) t=if t∈en.map (·.1)then frzA X F (YDa en t)else .u:=by
    intro en
    induction en with
    |nil=>rfl
    |cons s en ih=>
     obtain⟨s,v⟩:=s
     simp only[YHX,YDa]
     cases hb:YIq s t with
     |true=>have:=YIu hb;subst this;simp
     |false=>
      have hne:t≠s:=fun e=>by subst e;rw[Nat.beq_refl]at hb;cases hb
      rw[cond_false,cond_false,ih];simp[hne]
   rw[hl1,hl2]
   split
   ·exact⟨hczl (Classical.choose_spec (hch t)).1,(Classical.choose_spec (hch t)).2⟩
   ·exact⟨.u _,.u _⟩
  ·exact .inr hE
 obtain⟨ae',hae⟩:=(henv env).resolve_right (fun h=>h he)
 refine⟨ae',H',?_,fun t=>(hae t ⟨_,rfl⟩).2,⟨hHR.obj,hHR.inj,hHR.own,fun x h=>⟨(hr.fr x h).1,(hfrH h).trans (hr.fr x h).2⟩,fun p x h=>hr.nfr p x (hp2 h).2,by rw[hlen];exact hr.le⟩⟩
 refine YqX id (fun x=> ∃p:Pos,p.of∈F/\pl p=some x) ⟨fun a b _ _ _ _ h=>h,fun a _=>⟨rfl,fun h=> ?_⟩,fun x o' hx=> ?_⟩ rfl (fun t=>(hae t ⟨_,rfl⟩).1)
 ·simp only[hf]at h⊢
  intro hn
  rw[List.getElem?_eq_none_iff,hlen]at hn
  exact h (YIl hn)
 ·by_cases hfx:Fr x
  ·have hx':H'[x]?=some (some o'):=hx
   rw[hfrH hfx]at hx'
   refine⟨fun⟨q,q1,q2⟩=>hr.nfr q x q2 hfx,o',hx',rfl,rfl,fun i e e' k1 k2=> ?_⟩
   rw[k1]at k2;injection k2 with k2;subst k2
   refine⟨rfl,fun j z z' h3 h4=> ?_⟩
   rw[h3]at h4;injection h4 with h4;subst h4
   refine YjY (A:=Fr) (fun y hy=> ?_) ((hFr x hfx).2 o' ((hr.fr x hfx).2.symm.trans hx') e (YHU k1) z (YHU h3))
   obtain⟨⟨o,ho⟩,_⟩:=hFr y hy
   exact⟨rfl,o,(hfrH hy).trans ((hr.fr y hy).2.trans ho)⟩
  obtain⟨⟨p,hp⟩,hS⟩:=hinv hx hfx
  obtain⟨g1,g2⟩:=hp2 hp
  refine⟨fun⟨q,q1,q2⟩=>by have:=hr.inj _ _ _ g2 q2;subst this;exact g1 q1,?_⟩
  rcases hS with⟨a,cs,e,e',q1,q2,q3,q4,q5,q6,q7,q8,q9⟩| ⟨q,q1,q2,q3,q4⟩
  ·refine⟨_,q4,by rw[q7],by rw[q7];rfl,fun i e1 e2 k1 k2=> ?_⟩
   rw[q7]at k2
   cases i with
   |succ i=>simp at k1
   |zero=>
    simp at k1 k2;subst k1;subst k2
    refine⟨q8.symm,fun j z z' h3 h4=> ?_⟩
    obtain⟨c,hc⟩:=Yah (l:=cs) q6 h3
    exact hczl (q9 j c z z' hc h3 h4).1
  ·refine⟨o',q4,rfl,rfl,fun i e1 e2 k1 k2=> ?_⟩
   rw[k1]at k2;injection k2 with k2;subst k2
   refine⟨rfl,fun j z z' h3 h4=> ?_⟩
   rw[h3]at h4;injection h4 with h4;subst h4
   have hlv:=hr.own q x q2
   have: ∃o,vget X q.of=some o/\ ∀cs,o≠ .st cs:=by
    cases q with
    |m a=>obtain⟨o,ho⟩:=hlv;exact⟨o,ho,fun cs e=>q3 a cs rfl (by rw[ho,e])⟩
    |n a i=>obtain⟨c,v,h,l,ho,_⟩:=hlv;exact⟨_,ho,fun cs e=>by cases e⟩
   obtain⟨o,ho,hns⟩:=this
   exact hcell hns ho ⟨q,rfl,q2⟩ q4 q1 e1 (YHU k1) z (YHU h3)
end
end Go.Abs
namespace Go.Abs
open Go Go.RowKit
mutual
def avT:TV->AV
 | .i k n=>.v (.int k n)
 | .b x=>.v (.bool x)
 | .s x=>.v (.string x)
 | .l c v=>.rd c.width (v.map c.enc)
 | .ag x=>.agg (avTs x)
 | .tp x=>.tup (avTs x)
 | .clo g x=>.clo g (avTs x)
 |_=>.u
def avTs:List TV->List AV
 | []=>[]
 |a::r=>avT a::avTs r
end
theorem YbH: ∀l:List TV,avTs l=l.map avT
 | []=>rfl
 |a::r=>by simp[avTs,YbH r]
mutual
theorem Yf1: ∀v:TV,NR (avT v)
 | .i _ _| .b _| .s _=>.v _
 | .l c v=>Ycv (.l c) v
 | .ag x=>.agg _ (fun a h=>Yb0 x a h)
 | .tp x=>.tup _ (fun a h=>Yb0 x a h)
 | .clo g x=>.clo g _ (fun a h=>Yb0 x a h)
 | .e _| .u| .v _| .nl| .ref _| .pre _ _| .sub _ _ _| .ptr _ _ _| .np _| .pti _ _ _ _ _| .rp _| .lt _=>.u
theorem Yb0: ∀(l:List TV) (a:AV),a∈avTs l->NR a
 | [],a,h=>by simp[avTs]at h
 |v::r,a,h=>by
  simp only[avTs,YH1]at h
  rcases h with rfl|h
  ·exact Yf1 v
  ·exact Yb0 r a h
end
section
variable{Fr:Nat->Prop}{H0:Heap}{X:YCX}{pl:Pl}{H:Heap}
theorem Yf2{P:AV->AV->Prop}{cs:List TV}{as:List AV}(hl:cs.length=as.length)(h: ∀(j:Nat) (c:TV) (a:AV),cs[j]?=some c->as[j]?=some a->P a (avT c)):
  as.length=(avTs cs).length/\ ∀(j:Nat) (x x':AV),as[j]?=some x->(avTs cs)[j]?=some x'->P x x':=by
 refine⟨by simp[YbH,hl],fun j x x' h1 h2=> ?_⟩
 rw[YbH,YHW,YID]at h2
 grind
theorem YdT{l:List TV}(h:YDg l=true): ∀(j:Nat) (c:TV),l[j]?=some c->YD0 c=true:=by
 induction l with
 |nil=>simp
 |cons a r ih=>
  simp only[YDg,YIK]at h
  grind
theorem Yj4{v:TV}{a:AV}(h:TR X pl v a):YD0 v=true->Coe a (avT v):=by
 induction h with
 |i k n=>exact fun _=>.refl _
 |b x=>exact fun _=>.refl _
 |s x=>exact fun _=>.refl _
 |l c v a h=>exact fun _=>h
 |ag cs as hl h ih=>
  intro hd
  have:=Yf2 (P:=Coe) hl (fun j c a h1 h2=>ih j c a h1 h2 (YdT hd j c h1))
  exact .agg _ _ this.1 this.2
 |tp cs as hl h ih=>
  intro hd
  have:=Yf2 (P:=Coe) hl (fun j c a h1 h2=>ih j c a h1 h2 (YdT hd j c h1))
  exact .tup _ _ this.1 this.2
 |clo g cs as hl h ih=>
  intro hd
  have:=Yf2 (P:=Coe) hl (fun j c a h1 h2=>ih j c a h1 h2 (YdT hd j c h1))
  exact .clo g _ _ this.1 this.2
 |_=>intro hd;cases hd
mutual
theorem Yf3: ∀v:TV,YD0 v=true->TR X pl v (avT v)
 | .i _ _,_=>.i _ _
 | .b _,_=>.b _
 | .s _,_=>.s _
 | .l c v,_=>.l c v _ (.refl _)
 | .ag x,h=>by have:=YcJ x h;exact .ag _ _ this.1 this.2
 | .tp x,h=>by have:=YcJ x h;exact .tp _ _ this.1 this.2
 | .clo g x,h=>by have:=YcJ x h;exact .clo g _ _ this.1 this.2
 | .e _,h| .u,h| .v _,h| .nl,h| .ref _,h| .pre _ _,h| .sub _ _ _,h| .ptr _ _ _,h| .np _,h| .pti _ _ _ _ _,h| .rp _,h| .lt _,h=>by cases h
theorem YcJ: ∀l:List TV,YDg l=true->CT X pl l (avTs l)
 | [],_=>.nil
 |a::r,h=>by
  simp only[YDg,YIK]at h
  exact .cons (Yf3 a h.1) (YcJ r h.2)
end
def FnE.R(e:FnE)(args:List AV)(r:AV):Prop:=
 ∃x y vs v,e.F x=some y/\e.args.read vs []=some x/\YDg vs=true/\args=avTs vs/\YC4 e.res (unp e.co y)=some (v,[])/\YD0 v=true/\r=avT v
structure TOKP(T:Tabs)(C:Ctx):Prop where
 pf:C.pf=T.pf
 fn: ∀e∈T.fs,T.pf e.g=true-> ∀args r,e.R args r->C.C e.g args [] r []
def YGs:SV->Bool
 | .i _| .b| .s=>true
 |_=>false
theorem YGM{sv:SV}{l r:List Lf}{v:TV}(hs:YGs sv=true)(h:YC4 sv l=some (v,r)): ∃x,avT v= .v x:=by
 cases sv with
 |i k=>
  cases l with
  |nil=>trivial
  |cons f fs=>
   obtain⟨t,z⟩:=f
   cases t with
   |i k'=>
    obtain⟨_,h3⟩:=Yab h
    injection h3 with h3;injection h3 with h3 _;subst h3;exact⟨_,rfl⟩
   |_=>trivial
 |b=>
  cases l with
  |nil=>trivial
  |cons f fs=>
   obtain⟨t,z⟩:=f
   cases t with
   |b=>
    have h3:some (TV.b z,fs)=some (v,r):=by trivial
    injection h3 with h3;injection h3 with h3 _;subst h3;exact⟨_,rfl⟩
   |_=>trivial
 |s=>
  cases l with
  |nil=>trivial
  |cons f fs=>
   obtain⟨t,z⟩:=f
   cases t with
   |s=>
    have h3:some (TV.s z,fs)=some (v,r):=by trivial
    injection h3 with h3;injection h3 with h3 _;subst h3;exact⟨_,rfl⟩
   |_=>trivial
 |_=>cases hs
theorem Yr6{sv:SV}{l r:List Lf}{v:TV}(hs:YGJ sv=true)(h:YC4 sv l=some (v,r)):Scal (avT v):=by
 have one:YGs sv=true->Scal (avT v):=fun h1=>by
  obtain⟨x,hx⟩:=YGM h1 h
  rw[hx];exact .v x
 cases sv with
 |i k=>exact one rfl
 |b=>exact one rfl
 |s=>exact one rfl
 |tp l'=>
  have key: ∀(ss:List SV) (l r:List Lf) (vs:List TV),(∀y∈ss,YGs y=true)->YDi ss l=some (vs,r)-> ∀a∈avTs vs,∃x,a= .v x:=by
   intro ss
   induction ss with
   |nil=>intro l r vs _ h;injection h with h;injection h with h _;subst h;intro a ha;trivial
   |cons y ss ih=>
    intro l r vs hs h
    simp only[YDi]at h
    split at h
    ·rename_i x r1 h1
     split at h
     ·rename_i xs r2 h2
      injection h with h;injection h with h _;subst h
      intro a ha
      simp only[avTs,YH1]at ha
      rcases ha with rfl|ha
      ·exact YGM (hs y (YH5 ..)) h1
      grind
     trivial
    trivial
  simp only[YC4]at h
  split at h
  ·rename_i vs r1 h1
   injection h with h;injection h with h _;subst h
   exact .tup _ (key l' l r1 vs (fun y hs'=>YIb.1 (show l'.all _=true from hs) y hs') h1)
  trivial
 |_=>cases hs
theorem Yj5(hr:HRel Fr H0 X pl H){v w:TV}{a:AV}(h:ldT X v=some w)(ht:TR X pl v a): ∃b,Bor1 (hf H) a b/\TR X pl w b:=by
 cases v<;>try trivial
 case ref x=>
  simp only[ldT]at h
  split at h
  ·rename_i c l ho
   injection h with h;subst h
   obtain⟨y,n,rfl,hp,hn⟩:=Yao ho ht
   injection hn with hn;subst hn
   obtain⟨y',el,e1,e2,e3,e4⟩:=hr.obj x _ ho
   rw[hp]at e1;injection e1 with e1;subst e1
   refine⟨_,.inr ⟨y,0,l.length,⟨c.width,el⟩,rfl,e2,by simp[e4.1],rfl⟩,.l c l _ ?_⟩
   simp only[YH6,YaF e3]
   rw[<-e4.1,YH8];exact YdL e4
  ·rename_i s ho
   injection h with h;subst h
   obtain⟨y,n,rfl,hp,hn⟩:=Yao ho ht
   injection hn with hn;subst hn
   obtain⟨y',e1,e2⟩:=hr.obj x _ ho
   rw[hp]at e1;injection e1 with e1;subst e1
   refine⟨_,.inr ⟨y,0,s.size,⟨0,strA s⟩,rfl,e2,by simp[strA_len'],rfl⟩,.l U8 (strL s) _ ?_⟩
   simp
   rw[<-strA_len',YH8];exact rows_coe' (YaX s).rows
  trivial
 case pre x n=>
  simp only[ldT]at h
  split at h
  ·rename_i c l ho
   injection h with h;subst h
   obtain⟨y,k,rfl,hp,hn,h0,hm⟩:=YbV ho ht
   injection hn with hn;subst hn
   obtain⟨y',el,e1,e2,e3,e4⟩:=hr.obj x _ ho
   rw[hp]at e1;injection e1 with e1;subst e1
   refine⟨_,.inr ⟨y,0,n.toNat,⟨c.width,el⟩,rfl,e2,by rw[e4.1,YIw];exact hm,rfl⟩,.l c _ _ ?_⟩
   simp only[YH6,YaF e3]
   refine YdL ⟨by simp[e4.1],fun i e v h1 h2=> ?_⟩
   rw[YIe]at h1 h2
   split at h1
   ·rename_i hi;rw[if_pos hi]at h2;exact e4.2 i e v h1 h2
   trivial
  trivial
theorem Yj6(hr:HRel Fr H0 X pl H): ∀{cs ds:List TV} {t:Bool} {as:List AV},ldC X cs=(ds,t)->CT X pl cs as-> ∃bs,All2 (Bor1 (hf H)) as bs/\CT X pl ds bs/\ (t=false->bs=as)
 | [],ds,t,as,h,hc=>by
   injection h with h1 h2;subst h1;subst h2
   have:=hc.1
   cases as with
   |nil=>exact⟨[],trivial,.nil,fun _=>rfl⟩
   |cons _ _=>trivial
 |a::r,ds,t,as,h,hc=>by
  obtain⟨b,bs,rfl,h1,h2⟩:=hc.inv
  cases hq:ldC X r with
  |mk xs t'=>
   obtain⟨cs',k1,k2,k3⟩:=Yj6 hr hq h2
   simp only[ldC,hq]at h
   split at h
   ·rename_i x hx
    injection h with e1 e2;subst e1;subst e2
    obtain⟨b',g1,g2⟩:=Yj5 hr hx h1
    exact⟨b'::cs',⟨g1,k1⟩,.cons g2 k2,fun h=>by cases h⟩
   ·split at h
    ·injection h with e1 e2;subst e1;subst e2
     cases h1
     exact⟨.emp::cs',⟨.inl rfl,k1⟩,.cons (.l _ _ _ (by exact .empRd _)) k2,fun h=>by grind⟩
    ·injection h with e1 e2;subst e1;subst e2
     exact⟨b::cs',⟨.inl rfl,k1⟩,.cons h1 k2,fun h=>by grind⟩
theorem Yf4(hr:HRel Fr H0 X pl H): ∀{cs ds:List TV} {t:Bool} {as:List AV},ldL X cs=(ds,t)->CT X pl cs as-> ∃bs,All2 (Bor (hf H)) as bs/\CT X pl ds bs/\ (t=false->bs=as)
 | [],ds,t,as,h,hc=>by
   injection h with h1 h2;subst h1;subst h2
   have:=hc.1
   cases as with
   |nil=>exact⟨[],trivial,.nil,fun _=>rfl⟩
   |cons _ _=>trivial
 |a::r,ds,t,as,h,hc=>by
  obtain⟨b,bs,rfl,h1,h2⟩:=hc.inv
  cases hq:ldL X r with
  |mk xs t'=>
   obtain⟨cs',k1,k2,k3⟩:=Yf4 hr hq h2
   simp only[ldL,hq]at h
   split at h
   ·rename_i x hx
    injection h with e1 e2;subst e1;subst e2
    obtain⟨b',g1,g2⟩:=Yj5 hr hx h1
    exact⟨b'::cs',⟨.inl g1,k1⟩,.cons g2 k2,fun h=>by cases h⟩
   ·split at h
    ·rename_i ys hys
     injection h with e1 e2;subst e1;subst e2
     cases h1 with
     |ag _ zs hl hz=>
      cases hc2:ldC X ys with
      |mk ws t2=>
       obtain⟨us,g1,g2,g3⟩:=Yj6 hr hc2 ⟨hl,hz⟩
       refine⟨.agg us::cs',⟨.inr ⟨zs,us,rfl,rfl,g1⟩,k1⟩,.cons (.ag _ _ g2.1 g2.2) k2,fun h=> ?_⟩
       simp_all
    ·injection h with e1 e2;subst e1;subst e2
     cases h1
     exact⟨.emp::cs',⟨.inl (.inl rfl),k1⟩,.cons (.l _ _ _ (by exact .empRd _)) k2,fun h=>by grind⟩
    ·injection h with e1 e2;subst e1;subst e2
     exact⟨b::cs',⟨.inl (.inl rfl),k1⟩,.cons h1 k2,fun h=>by grind⟩
theorem Yj7{vs:List TV}: ∀{as:List AV},CT X pl vs as->YDg vs=true->All2 Coe as (avTs vs):=by
 induction vs with
 |nil=>intro as h _;have:=h.1;cases as with
  |nil=>trivial
  |cons _ _=>trivial
 |cons v vs ih=>
  intro as h hd
  obtain⟨a,r,rfl,h1,h2⟩:=h.inv
  simp only[YDg,YIK]at hd
  exact⟨Yj4 h1 hd.1,ih h2 hd.2⟩
theorem Yj8{g:Nat}{svs:List SV}: ∀{l:List FnE} {e:FnE},YFI g svs l=some e->e∈l/\e.g=g/\svs=e.args.vs
 | [],e,h=>by cases h
 |a::l,e,h=>by
  simp only[YFI]at h
  cases hc:(YIq a.g g&&SV.eqbs svs a.args.vs)with
  |true=>
   rw[hc,cond_true]at h;injection h with h;subst h
   simp only[YIK]at hc
   exact⟨YH5 ..,YIu hc.1,SV.eqs_of hc.2⟩
  |false=>
   rw[hc,cond_false]at h
   obtain⟨h1,h2⟩:=Yj8 h
   simp_all
variable{β:Type}{r:β}
theorem Yr7{T:Tabs}{C:Ctx}(hT:TOKP T C){g:Nat}{args:List TV}{as:List AV}{K:TV->YCX->Option β}(hp:T.pf g=true)(h:YFa T g args X K=some r)(hc:CT X pl args as)(hr:HRel Fr H0 X pl H){KA:AV->Heap->Prop}
  (hk: ∀v va,K v X=some r->TR X pl v va->KA va H):YEF C g as H KA:=by
 unfold YFa at h
 cases hl:ldL X args with
 |mk ds lent=>
  rw[hl]at h
  simp only at h
  split at h
  ·rename_i svs hs
   split at h
   ·rename_i e hf
    obtain⟨e1,e2⟩:=Yab h
    simp at e1
    obtain⟨hm,hg,hsv⟩:=Yj8 hf
    split at e2
    ·rename_i x hx
     cases hy:e.F x with
     |none=>simp_all
     |some y=>
      rw[hy]at e2
      simp at e2
      split at e2
      ·rename_i v hv
       obtain⟨hd,e3⟩:=Yab e2
       obtain⟨bs,g1,g2,g3⟩:=Yf4 hr hl hc
       refine .inl ⟨by rw[hT.pf];exact hp,bs,avTs ds,avT v,g1,?_,Yj7 g2 e1.1,?_,hk _ _ e3 (Yf3 v hd)⟩
       ·cases lent with
        |false=>simp_all
        |true=>exact .inr (Yr6 (by simp_all) hv)
       ·rw[<-hg]
        exact hT.fn e hm (by simp_all) _ _ ⟨x,y,ds,v,hy,hx,e1.1,rfl,hv,hd,rfl⟩
      trivial
    trivial
   trivial
  trivial
end
end Go.Abs
namespace Go.Abs
open Go Go.RowKit
def seqN(X:YCX)(a:Nat):Nat:=match vget X a with|some o=>(lenO o).getD 0|none=>0
mutual
def encT(X:YCX)(pl:Pl):TV->AV
 | .i k n=>.v (.int k n)
 | .b x=>.v (.bool x)
 | .s x=>.v (.string x)
 | .l c v=>.rd c.width (v.map c.enc)
 | .ref a=>match pl (.m a)with|some x=>.ref x 0 (seqN X a)|none=>.u
 | .ptr a i j=>match pl (.m a)with|some x=>.ptr x i j|none=>.u
 | .np a=>match pl (.m a)with|some x=>.np x|none=>.u
 | .e _=>.emp
 | .nl=>.v (.pointer none)
 | .ag x=>.agg (YD9 X pl x)
 | .tp x=>.tup (YD9 X pl x)
 | .clo g x=>.clo g (YD9 X pl x)
 |_=>.u
def YD9(X:YCX)(pl:Pl):List TV->List AV
 | []=>[]
 |a::r=>encT X pl a::YD9 X pl r
end
theorem Yf5(X:YCX)(pl:Pl): ∀l:List TV,YD9 X pl l=l.map (encT X pl)
 | []=>rfl
 |a::r=>by simp[YD9,Yf5 X pl r]
def encO(X:YCX)(pl:Pl)(a:Nat):AObj:=
 match vget X a with
 |some (.sq c l)=>⟨c.width,l.map c.enc⟩
 |some (.st cs)=>⟨cs.length,[YD9 X pl cs]⟩
 |some (.sb s)=>⟨0,strA s⟩
 |_=>⟨1,[]⟩
def plI(pls:Pl)(k n:Nat)(X:YCX):Pl
 | .m i=>match vget X i with
   |some _=>if i<k then pls (.m i)else some (n+(i-k))
   |none=>none
 | .n _ _=>none
open Classical in
noncomputable def YDt(Kp:Nat->Prop)(H:Heap)(k:Nat)(X:YCX)(pl:Pl):Heap:=
 (List.range (H.length+(X.length-k))).map fun x=>if Kp x then(H[x]?).join else if h: ∃i,pl (.m i)=some x then some (encO X pl (Classical.choose h))else none
def FnE.RI(e:FnE)(args:List AV)(H:Heap)(r:AV)(H':Heap):Prop:=
 ∃(x:e.args.c.den) (y:e.co.den) (vs:List TV) (Xs:YCX) (pls:Pl) (Kp:Nat->Prop) (v:TV) (l:List Lf) (X2:YCX),e.F x=some y/\e.args.read vs Xs=some x/\noFm Xs=true/\CT Xs pls vs args/\HRel Kp H Xs pls H/\FrOK Kp H/\
  (∀i o,vget Xs i=some o-> ∃z,pls (.m i)=some z)/\
  YC4 e.res (unp e.co y)=some (v,l)/\YC9 e.os l=some (X2,[])/\Xs.length<=X2.length/\wfT X2 v=true/\wfX X2 X2=true/\ (∀i,i<Xs.length-> ∀o,vget X2 i=some o-> ∃z,pls (.m i)=some z)/\
  r=encT X2 (plI pls Xs.length H.length X2) v/\H'=YDt Kp H Xs.length X2 (plI pls Xs.length H.length X2)
section
variable{Fr:Nat->Prop}{H0:Heap}
theorem Yf6{Xs:YCX}{pls:Pl}{H:Heap}{Kp:Nat->Prop}(hr:HRel Kp H Xs pls H){X2:YCX}{p q:Pos}{x:Nat}(hp:plI pls Xs.length H.length X2 p=some x)(hq:plI pls Xs.length H.length X2 q=some x):p=q:=by
 cases p with
 |n a i=>cases hp
 |m i=>cases q with
  |n a i=>cases hq
  |m j=>
   simp only[plI]at hp hq
   split at hp
   ·split at hq
    ·split at hp<;>split at hq
     ·exact hr.inj _ _ _ hp hq
     ·injection hq with hq;have:=hr.bd hp;omega
     ·injection hp with hp;have:=hr.bd hq;omega
     grind
    trivial
   trivial
theorem Yj9{Xs:YCX}{pls:Pl}{H:Heap}{Kp:Nat->Prop}(hr:HRel Kp H Xs pls H){X2:YCX}(hlen:Xs.length<=X2.length){i x:Nat}(hp:plI pls Xs.length H.length X2 (.m i)=some x):
  (YDt Kp H Xs.length X2 (plI pls Xs.length H.length X2))[x]?=some (some (encO X2 (plI pls Xs.length H.length X2) i)):=by
 have hx:x<H.length+(X2.length-Xs.length)/\ ¬Kp x:=by
  have hp':=hp
  simp only[plI]at hp'
  split at hp'
  ·rename_i o ho
   have:=Yae ho
   split at hp'
   ·exact⟨by have:=hr.bd hp';omega,hr.nfr _ _ hp'⟩
   ·injection hp' with hp'
    exact⟨by omega,fun hk=>by have:=(hr.fr x hk).1;omega⟩
  trivial
 unfold YDt
 have hex: ∃i,plI pls Xs.length H.length X2 (.m i)=some x:=⟨i,hp⟩
 have:=Yf6 hr (Classical.choose_spec hex) hp
 simp_all
theorem Yf7{Xs:YCX}{pls:Pl}{H:Heap}{Kp:Nat->Prop}(hr:HRel Kp H Xs pls H){X2:YCX}{x:Nat}(hk:Kp x):(YDt Kp H Xs.length X2 (plI pls Xs.length H.length X2))[x]?=H[x]?:=by
 have hx:=(hr.fr x hk).1
 unfold YDt
 grind
theorem Yr8{Xs:YCX}{pls:Pl}{H:Heap}{Kp:Nat->Prop}{X2:YCX}{x:Nat}{o:AObj}(h:(YDt Kp H Xs.length X2 (plI pls Xs.length H.length X2))[x]?=some (some o)):
  (Kp x/\H[x]?=some (some o))\/(∃i,plI pls Xs.length H.length X2 (.m i)=some x/\o=encO X2 (plI pls Xs.length H.length X2) i):=by
 have hx:=(YHT.1 h).1
 unfold YDt at h hx
 simp at hx
 rw[YHW,YIo hx]at h
 simp at h
 split at h
 ·grind
 ·split at h
  ·grind
  trivial
theorem YdU(Kp:Nat->Prop)(H:Heap)(k:Nat)(X:YCX)(pl:Pl):(YDt Kp H k X pl).length=H.length+(X.length-k):=by simp[YDt]
mutual
theorem Yka{X:YCX}{pl:Pl}(hal: ∀i o,vget X i=some o-> ∃z,pl (.m i)=some z): ∀v:TV,wfT X v=true->TR X pl v (encT X pl v)
 | .i k n,_=>.i k n
 | .b x,_=>.b x
 | .s x,_=>.s x
 | .l c w,_=>.l c w _ (.refl _)
 | .u,_=>.u _
 | .nl,_=>.nl
 | .e c,_=>.e c
 | .ref a,h=>by
   simp only[wfT]at h
   split at h
   ·rename_i c l ho
    obtain⟨z,hz⟩:=hal a _ ho
    simp only[encT,hz,seqN,ho,lenO,YIH]
    exact .ref a z _ l.length ho rfl hz
   ·rename_i s ho
    obtain⟨z,hz⟩:=hal a _ ho
    simp only[encT,hz,seqN,ho,lenO,YIH]
    exact .ref a z _ s.size ho rfl hz
   ·cases h
 | .ptr a i j,h=>by
   simp only[wfT,YIK]at h
   have hi:=YIu h.1;subst hi
   have h2:=h.2
   split at h2
   ·rename_i cs ho
    obtain⟨z,hz⟩:=hal a _ ho
    simp only[encT,hz]
    exact .ptr a 0 j z _ ho (by simp[elN]) hz
   ·cases h2
 | .np a,h=>by
   simp only[wfT]at h
   split at h
   ·rename_i cs ho
    obtain⟨z,hz⟩:=hal a _ ho
    simp only[encT,hz]
    exact .np a z _ ho hz
   ·cases h
 | .ag x,h=>by have:=YcK hal x h;exact .ag _ _ this.1 this.2
 | .tp x,h=>by have:=YcK hal x h;exact .tp _ _ this.1 this.2
 | .clo g x,h=>by have:=YcK hal x h;exact .clo g _ _ this.1 this.2
 | .v _,h| .pre _ _,h| .sub _ _ _,h| .pti _ _ _ _ _,h| .rp _,h| .lt _,h=>by cases h
theorem YcK{X:YCX}{pl:Pl}(hal: ∀i o,vget X i=some o-> ∃z,pl (.m i)=some z): ∀l:List TV,wfTs X l=true->CT X pl l (YD9 X pl l)
 | [],_=>.nil
 |a::r,h=>by
  simp only[wfTs,YIK]at h
  exact .cons (Yka hal a h.1) (YcK hal r h.2)
end
theorem YdV{X:YCX}: ∀{Y:YCX} {i:Nat} {o:VObj},wfX X Y=true->vget Y i=some o->(∃c l,o= .sq c l/\0<c.width)\/(∃cs,o= .st cs/\0<cs.length/\wfTs X cs=true)\/ ∃s,o= .sb s
 | [],i,o,_,h=>by cases h
 |p::r,i,o,hw,h=>by
  have hr:wfX X r=true:=by
   cases p with
   |none=>exact hw
   |some q=>cases q with
    |sq c l=>simp only[wfX,YIK]at hw;grind
    |st cs=>simp only[wfX,YIK]at hw;grind
    |sb s=>exact hw
    |fm _ _ _ _=>cases hw
  cases i with
  |succ i=>exact YdV hr h
  |zero=>
   subst h
   cases o with
   |sq c l=>simp only[wfX,YIK]at hw;exact .inl ⟨c,l,rfl,by simp_all⟩
   |st cs=>simp only[wfX,YIK]at hw;simp_all
   |sb s=>simp
   |fm _ _ _ _=>cases hw
end
end Go.Abs
namespace Go.Abs
open Go Go.RowKit
structure TOK(T:Tabs)(C:Ctx):Prop where
 p:TOKP T C
 fnI: ∀e∈T.fs,T.pf e.g=false-> ∀args H r H',e.RI args H r H'->C.C e.g args H r H'
section
variable{Fr:Nat->Prop}{H0:Heap}{X:YCX}{pl:Pl}{H:Heap}{m:List Nat}
theorem Yb1(r:Nat->Option Nat): ∀(X:YCX) (m:List Nat) (Y:YCX),(YEB r X m Y).length=X.length
 |X,[],Y=>by cases Y<;>rfl
 |X,a::m,[]=>rfl
 |X,a::m,o::Y=>by simp only[YEB];rw[Yb1 r _ m Y,Yag]
theorem Yf8(r:Nat->Option Nat){b:Nat}: ∀{X:YCX} {m:List Nat} {Y:YCX},b∉m->vget (YEB r X m Y) b=vget X b
 |X,[],Y,_=>by cases Y<;>rfl
 |X,a::m,[],_=>rfl
 |X,a::m,o::Y,h=>by
  simp at h
  simp only[YEB];rw[Yf8 r h.2,Yal _ (Ne.symm h.1)]
theorem Ykb(r:Nat->Option Nat){b:Nat}: ∀{X:YCX} {m:List Nat} {Y:YCX} {i:Nat},m.Nodup->m[i]?=some b->b<X.length->i<Y.length->vget (YEB r X m Y) b=(vget Y i).map (VObj.ren r)
 |X,[],Y,i,_,h,_,_=>by grind
 |X,a::m,[],i,_,_,_,h=>by grind
 |X,a::m,o::Y,i,hn,h,hb,hi=>by
  obtain⟨h1,h2⟩:=List.nodup_cons.1 hn
  simp only[YEB]
  cases i with
  |zero=>
   simp at h;subst h
   rw[Yf8 r h1,Yar _ hb];rfl
  |succ i=>
   simp at h hi
   rw[Ykb r h2 h (by rw[Yag];exact hb) hi];rfl
theorem Ykc: ∀(Y:YCX) (n i:Nat),vget (Y.drop n) i=vget Y (n+i)
 |Y,0,i=>by simp
 | [],n+1,i=>by rfl
 |o::Y,n+1,i=>by rw[List.drop_succ_cons,Ykc Y n i,show n+1+i=(n+i)+1 by omega];rfl
theorem Yr9{A B:YCX}{b:Nat}(h:A.length<=b):vget (A++B) b=vget B (b-A.length):=by
 induction A generalizing b with
 |nil=>rfl
 |cons o A ih=>
  cases b with
  |zero=>grind
  |succ b=>simp only[YIm,vget];simp_all
theorem Ysa(r:Nat->Option Nat){Y:YCX}{b i:Nat}(hn:m.Nodup)(h:m[i]?=some b)(hb:b<X.length)(hi:i<Y.length):vget (YDk m r X Y) b=(vget Y i).map (VObj.ren r):=by
 unfold YDk
 rw[Yas (by rw[Yb1];exact hb),Ykb r hn h hb hi]
theorem Ykd(r:Nat->Option Nat){Y:YCX}{b:Nat}(hm:b∉m)(hb:b<X.length):vget (YDk m r X Y) b=vget X b:=by
 unfold YDk
 rw[Yas (by rw[Yb1];exact hb),Yf8 r hm]
theorem Ysb(r:Nat->Option Nat){Y:YCX}{b:Nat}(hb:X.length<=b):vget (YDk m r X Y) b=(vget Y (m.length+(b-X.length))).map (VObj.ren r):=by
 unfold YDk
 rw[Yr9 (by rw[Yb1];exact hb),Yb1,YdQ _ rfl,Ykc]
theorem Ysc(r:Nat->Option Nat)(Y:YCX):(YDk m r X Y).length=X.length+(Y.length-m.length):=by
 unfold YDk;simp[Yb1]
mutual
theorem Ysd{A:Nat->Prop}(hA: ∀a x,(vget X a).isSome=true->a∉m->pl (.m a)=some x->A x): ∀(v:TV) {a:AV},clT X m v=true->TR X pl v a->RefIn A a
 | .i _ _,_,_,ht=>by cases ht;exact .v _
 | .b _,_,_,ht=>by cases ht;exact .v _
 | .s _,_,_,ht=>by cases ht;exact .v _
 | .l c w,_,_,ht=>by
   cases ht with
   |l _ _ _ hc=>exact YjX (Ydp hc (Ycv (.l c) w))
 | .e _,_,_,ht=>by cases ht;exact .emp
 | .v _,_,_,ht=>by cases ht;exact .v _
 | .nl,_,_,ht=>by cases ht;exact .v _
 | .ref x,_,h,ht=>by
   simp only[clT,YIK,Bool.not_eq_true']at h
   obtain⟨o,ho⟩:=YIG.1 h.1
   obtain⟨y,n,rfl,hp,_⟩:=Yao ho ht
   exact .ref _ _ _ (hA x y h.1 (fun hm=>by rw[any_mem.2 hm]at h;cases h.2) hp)
 | .pre x n,_,h,ht=>by
   simp only[clT,YIK,Bool.not_eq_true']at h
   obtain⟨o,ho⟩:=YIG.1 h.1
   obtain⟨y,n,rfl,hp,_⟩:=YbV ho ht
   exact .ref _ _ _ (hA x y h.1 (fun hm=>by rw[any_mem.2 hm]at h;cases h.2) hp)
 | .ptr x i j,_,h,ht=>by
   simp only[clT,YIK,Bool.not_eq_true']at h
   obtain⟨o,ho⟩:=YIG.1 h.1
   obtain⟨y,rfl,hp,_⟩:=Ybj ho ht
   exact .ptr _ _ _ (hA x y h.1 (fun hm=>by rw[any_mem.2 hm]at h;cases h.2) hp)
 | .np x,_,h,ht=>by
   simp only[clT,YIK,Bool.not_eq_true']at h
   obtain⟨o,ho⟩:=YIG.1 h.1
   obtain⟨y,rfl,hp⟩:=YaO ho ht
   exact .np _ (hA x y h.1 (fun hm=>by rw[any_mem.2 hm]at h;cases h.2) hp)
 | .ag x,_,h,ht=>by
   cases ht with
   |ag _ as hl hc=>exact .agg _ (YcL hA x h ⟨hl,hc⟩)
 | .tp x,_,h,ht=>by
   cases ht with
   |tp _ as hl hc=>exact .tup _ (YcL hA x h ⟨hl,hc⟩)
 | .clo g x,_,h,ht=>by
   cases ht with
   |clo _ _ as hl hc=>exact .clo _ _ (YcL hA x h ⟨hl,hc⟩)
 | .u,_,h,_| .sub _ _ _,_,h,_| .pti _ _ _ _ _,_,h,_| .rp _,_,h,_| .lt _,_,h,_=>by cases h
theorem YcL{A:Nat->Prop}(hA: ∀a x,(vget X a).isSome=true->a∉m->pl (.m a)=some x->A x): ∀(l:List TV) {as:List AV},clTs X m l=true->CT X pl l as-> ∀a∈as,RefIn A a
 | [],as,_,hc=>by
   have:=hc.1
   cases as with
   |nil=>intro a h;cases h
   |cons _ _=>simp at this
 |v::l,as,h,hc=>by
  obtain⟨a,r,rfl,h1,h2⟩:=hc.inv
  simp only[clTs,YIK]at h
  intro b hb
  rcases YH1.1 hb with rfl|hb
  ·exact Ysd hA v h.1 h1
  ·exact YcL hA l h.2 h2 b hb
end
theorem Yke{Y:YCX}: ∀{Z:YCX} {i b:Nat} {o:VObj},clX Y m Z i=true->vget Z b=some o->i+b∉m->(∀cs,o= .st cs->clTs Y m cs=true)/\ ∀c v h l,o= .fm c v h l->h=none
 | [],i,b,o,_,h,_=>by cases h
 |p::Z,i,b,o,hc,hg,hm=>by
  simp only[clX,YIK]at hc
  cases b with
  |succ b=>exact Yke hc.2 hg (by grind)
  |zero=>
   subst hg
   have h1:=hc.1
   rw[Bool.or_eq_true]at h1
   have h2:=h1.resolve_left (fun h=>hm (any_mem.1 h))
   refine⟨fun cs e=>by simp_all,fun c v h l e=> ?_⟩
   subst e
   cases h with
   |none=>rfl
   |some _=>cases h2
theorem YcM{β:Type}{r:β}: ∀{Y Z:YCX} {x:Option β},YD1 Y Z x=some r->x=some r/\ ∀i o,i<Y.length->vget Z i=some o->(∃c l c' l',o= .sq c l/\vget Y i=some (.sq c' l')/\l.length=l'.length)\/(∃cs cs',o= .st cs/\vget Y i=some (.st cs'))\/ ∃s s',o= .sb s/\vget Y i=some (.sb s')/\s.size=s'.size
 | [],Z,x,h=>by
   have h:x=some r:=by trivial
   simp_all
 |p::Y,[],x,h=>by cases p with
  |none=>trivial
  |some q=>cases q<;>simp[YD1]at h
 |p::Y,none::Z,x,h=>by
  have h:YD1 Y Z x=some r:=by cases p with
   |none=>trivial
   |some q=>cases q<;>simpa[YD1]using h
  obtain⟨h1,h2⟩:=YcM h
  refine⟨h1,fun i o hi hg=> ?_⟩
  cases i with
  |zero=>cases hg
  |succ i=>exact h2 i o (by simp_all) hg
 |p::Y,some o2::Z,x,h=>by
  cases p with
  |none=>trivial
  |some q=>
   cases q with
   |fm _ _ _ _=>trivial
   |sq c l=>
    cases o2 with
    |sq c2 l2=>
     simp only[YD1]at h
     obtain⟨e1,e2⟩:=Yai h
     obtain⟨h1,h2⟩:=YcM e2
     refine⟨h1,fun i o hi hg=> ?_⟩
     cases i with
     |zero=>simp only[vget]at hg;injection hg with hg;subst hg;exact .inl ⟨_,_,_,_,rfl,rfl,e1⟩
     |succ i=>exact h2 i o (by simp_all) hg
    |_=>trivial
   |st cs=>
    cases o2 with
    |st cs2=>
     simp only[YD1]at h
     obtain⟨h1,h2⟩:=YcM h
     refine⟨h1,fun i o hi hg=> ?_⟩
     cases i with
     |zero=>simp only[vget]at hg;injection hg with hg;subst hg;exact .inr (.inl ⟨_,_,rfl,rfl⟩)
     |succ i=>exact h2 i o (by simp_all) hg
    |_=>trivial
   |sb s=>
    cases o2 with
    |sb s2=>
     simp only[YD1]at h
     obtain⟨e1,e2⟩:=Yai h
     obtain⟨h1,h2⟩:=YcM e2
     refine⟨h1,fun i o hi hg=> ?_⟩
     cases i with
     |zero=>simp only[vget]at hg;injection hg with hg;subst hg;exact .inr (.inr ⟨_,_,rfl,rfl,e1⟩)
     |succ i=>exact h2 i o (by simp_all) hg
    |_=>trivial
theorem Ykf{g:Nat}{svs:List SV}{sos:List SO}: ∀{l:List FnE} {e:FnE},YES g svs sos l=some e->e∈l/\e.g=g
 | [],e,h=>by cases h
 |a::l,e,h=>by
  simp only[YES]at h
  cases hc:(YIq a.g g&& (SV.eqbs svs a.args.vs&&SO.eqbs sos a.args.os))with
  |true=>
   simp_all
  |false=>
   rw[hc,cond_false]at h
   obtain⟨h1,h2⟩:=Ykf h
   simp_all
theorem Yf9{g:Nat}{svs:List SV}{sos:List SO}: ∀{l:List FnE} {e:FnE},e∈YD8 g svs sos l->e∈l/\e.g=g
 | [],e,h=>by cases h
 |a::l,e,h=>by
  simp only[YD8]at h
  cases hc:(YIq a.g g&& (SV.eqbs svs a.args.vs&&SO.eqbs sos a.args.os))with
  |true=>
   rw[hc,cond_true]at h
   rcases YH1.1 h with rfl|h
   ·simp_all
   ·obtain⟨h1,h2⟩:=Yf9 (List.mem_filter.1 h).1;simp_all
  |false=>
   rw[hc,cond_false]at h
   obtain⟨h1,h2⟩:=Yf9 h
   simp_all
theorem Ykg{β:Type}{as:List TV}{Xs:YCX}{k:(e:FnE)->e.co.den->Option β}{r:β}: ∀{l:List FnE},tryF as Xs k l=some r-> ∃e∈l,∃x y,e.args.read as Xs=some x/\e.F x=some y/\k e y=some r
 | [],h=>by cases h
 | [e],h=>by
   simp only[tryF]at h
   split at h
   ·rename_i x hx
    cases hy:e.F x with
    |none=>simp_all
    |some y=>simp_all
   trivial
 |e::e2::l,h=>by
  have rest:tryF as Xs k (e2::l)=some r-> ∃e'∈e::e2::l,∃x y,e'.args.read as Xs=some x/\e'.F x=some y/\k e' y=some r:=fun h=>by
   obtain⟨e',h1,h2⟩:=Ykg h
   grind
  simp only[tryF]at h
  split at h
  ·rename_i x hx
   cases hy:e.F x with
   |none=>rw[hy]at h;exact rest h
   |some y=>rw[hy]at h;exact⟨e,YH5 ..,x,y,hx,hy,h⟩
  simp_all
theorem YGc(hr:HRel Fr H0 X pl H){a:Nat}{o:VObj}(ho:vget X a=some o): ∃z,pl (.m a)=some z:=by
 have:=hr.obj a o ho
 cases o with
 |sq c l=>obtain⟨x,_,h,_⟩:=this;simp_all
 |fm c v h l=>obtain⟨x,_,h,_⟩:=this;simp_all
 |st cs=>obtain⟨x,_,h,_⟩:=this;simp_all
 |sb s=>obtain⟨x,h,_⟩:=this;simp_all
def plB(pl:Pl)(m:List Nat)(n:Nat)(q:Pl):Pl
 | .m b=>match idxV m b 0 with
   |some i=>q (.m i)
   |none=>if b<n then pl (.m b)else q (.m (m.length+(b-n)))
 | .n b i=>if b∈m\/n<=b then none else pl (.n b i)
theorem Yga{i a:Nat}(hn:m.Nodup)(h:m[i]?=some a):idxV m a 0=some i:=by
 obtain⟨j,hj⟩:=YjP 0 (YHU h)
 have hs:=(YbY hj).2
 have g1:=YHT.1 h
 have g2:=YHT.1 hs
 have:=(List.getElem_inj (h₀:=g1.1) (h₁:=g2.1) hn).1 (by omega)
 simp_all
abbrev mapR(m:List Nat)(n:Nat):Nat->Option Nat:=fun a=>some (YDq m n a)
theorem back{Kp:Nat->Prop}{X2:YCX}{v:TV}(hr:HRel Fr H0 X pl H)(hrK:HRel Kp H (renX X m) (plR pl m) H)(hKf: ∀x,Fr x->Kp x)(hKp: ∀(p:Pos) x,p.of∉m->pl p=some x->Kp x)(hnd:m.Nodup)
  (hlv: ∀a∈m,∃o,vget X a=some o)
  (hkd: ∀i o,i< (renX X m).length->vget X2 i=some o->(∃c l c' l',o= .sq c l/\vget (renX X m) i=some (.sq c' l')/\l.length=l'.length)\/(∃cs cs',o= .st cs/\vget (renX X m) i=some (.st cs'))\/ ∃s s',o= .sb s/\vget (renX X m) i=some (.sb s')/\s.size=s'.size)
  (hal2: ∀i o,vget X2 i=some o-> ∃z,plI (plR pl m) (renX X m).length H.length X2 (.m i)=some z)
  (hlen:(renX X m).length<=X2.length) (hv:wfT X2 v=true) (hX:wfX X2 X2=true):
  TR (YDk m (mapR m X.length) X X2) (plB pl m X.length (plI (plR pl m) (renX X m).length H.length X2)) (v.ren (mapR m X.length)) (encT X2 (plI (plR pl m) (renX X m).length H.length X2) v)/\
  HRel Fr H0 (YDk m (mapR m X.length) X X2) (plB pl m X.length (plI (plR pl m) (renX X m).length H.length X2)) (YDt Kp H (renX X m).length X2 (plI (plR pl m) (renX X m).length H.length X2))/\
  Ext X pl (YDk m (mapR m X.length) X X2) (plB pl m X.length (plI (plR pl m) (renX X m).length H.length X2))/\
  (∀a x,X.length<=a->plB pl m X.length (plI (plR pl m) (renX X m).length H.length X2) (.m a)=some x->H.length<=x):=by
 have hXs:(renX X m).length=m.length:=by simp[renX]
 have hml:m.length<=X2.length:=by rw[<-hXs];exact hlen
 have hat:=fun{i x:Nat}=>Yj9 (Xs:=renX X m) hrK hlen (i:=i) (x:=x)
 have hkp:=fun{x:Nat}=>Yf7 (Xs:=renX X m) hrK (X2:=X2) (x:=x)
 have hqi:=fun{p q:Pos} {x:Nat}=>Yf6 (Xs:=renX X m) hrK (X2:=X2) (p:=p) (q:=q) (x:=x)
 have hql: ∀{i x},plI (plR pl m) (renX X m).length H.length X2 (.m i)=some x-> ∃o,vget X2 i=some o:=by
  intro i x h
  simp only[plI]at h
  split at h
  ·exact⟨_,by assumption⟩
  ·cases h
 have hqs: ∀{i x},plI (plR pl m) (renX X m).length H.length X2 (.m i)=some x->(∃a,m[i]?=some a/\pl (.m a)=some x)\/(m.length<=i/\H.length<=x):=by
  intro i x h
  simp only[plI]at h
  split at h
  ·split at h
   ·simp only[plR]at h
    split at h
    ·exact .inl ⟨_,by assumption,h⟩
    ·cases h
   ·injection h with h;exact .inr ⟨by omega,by omega⟩
  ·cases h
 have hqk: ∀{i o},i<m.length->vget X2 i=some o->plI (plR pl m) (renX X m).length H.length X2 (.m i)=plR pl m (.m i):=by
  intro i o hi ho
  simp only[plI,ho,hXs,if_pos hi]
 have hHl:=YdU Kp H (renX X m).length X2 (plI (plR pl m) (renX X m).length H.length X2)
 generalize hH':YDt Kp H (renX X m).length X2 (plI (plR pl m) (renX X m).length H.length X2)=H' at hat hkp hHl⊢
 generalize hq:plI (plR pl m) (renX X m).length H.length X2=q at hat hqi hql hqs hqk hal2⊢
 have hbm: ∀b∈m,b<X.length:=fun b hb=>by obtain⟨o,ho⟩:=hlv b hb;exact Yae ho
 have hml':=Ysc (X:=X) (m:=m) (mapR m X.length) X2
 have hf: ∀i,(∃a,m[i]?=some a/\YDq m X.length i=a)\/(m.length<=i/\YDq m X.length i=X.length+(i-m.length)):=by
  intro i
  unfold YDq
  by_cases hi:i<m.length
  ·exact .inl ⟨m[i],YHV hi,by rw[show YIt i m.length=true by simpa[Nat.blt_eq]using hi,cond_true];simp[List.getD,hi]⟩
  ·exact .inr ⟨by omega,by rw[show YIt i m.length=false by(cases h:YIt i m.length with|true=>exact absurd (by simpa[Nat.blt_eq]using h) hi|false=>rfl),cond_false]⟩
 have P1: ∀i,plB pl m X.length q (.m (YDq m X.length i))=q (.m i):=by
  intro i
  rcases hf i with⟨a,h1,h2⟩| ⟨h1,h2⟩
  ·rw[h2];simp only[plB,Yga hnd h1]
  ·rw[h2]
   have:X.length+(i-m.length)∉m:=fun h=>by have:=hbm _ h;omega
   simp only[plB,YdO this]
   rw[if_neg (by omega),show m.length+(X.length+(i-m.length)-X.length)=i by omega]
 have V1: ∀i,i<X2.length->vget (YDk m (mapR m X.length) X X2) (YDq m X.length i)=(vget X2 i).map (VObj.ren (mapR m X.length)):=by
  intro i hi
  rcases hf i with⟨a,h1,h2⟩| ⟨h1,h2⟩
  ·rw[h2];exact Ysa _ hnd h1 (hbm a (YHU h1)) hi
  ·rw[h2,Ysb _ (by omega),show m.length+(X.length+(i-m.length)-X.length)=i by omega]
 have L1: ∀i,i<X2.length->YDq m X.length i< (YDk m (mapR m X.length) X X2).length:=by
  intro i hi
  rw[hml']
  rcases hf i with⟨a,h1,h2⟩| ⟨h1,h2⟩
  ·have:=hbm a (YHU h1);omega
  ·omega
 have look: ∀{a b:Nat},a<X2.length->mapR m X.length a=some b->b< (YDk m (mapR m X.length) X X2).length/\vget (YDk m (mapR m X.length) X X2) b=(vget X2 a).map (VObj.ren (mapR m X.length))/\plB pl m X.length q (.m b)=q (.m a):=by
  intro a b ha hb
  injection hb with hb;subst hb
  exact⟨L1 a ha,V1 a ha,P1 a⟩
 have surj: ∀b,(b∈m\/X.length<=b)-> ∃i,YDq m X.length i=b/\ (b< (YDk m (mapR m X.length) X X2).length->i<X2.length):=by
  intro b hb
  by_cases hbm':b∈m
  ·obtain⟨i,hi⟩:=YH4.1 hbm'
   refine⟨i,?_,fun _=> ?_⟩
   ·rcases hf i with⟨a,h1,h2⟩| ⟨h1,h2⟩
    ·rw[hi]at h1;injection h1 with h1;rw[h2,h1]
    ·have:=(YHT.1 hi).1;omega
   ·have:=(YHT.1 hi).1;omega
  ·have hb:=hb.resolve_left hbm'
   refine⟨m.length+(b-X.length),?_,fun h=>by rw[hml']at h;omega⟩
   rcases hf (m.length+(b-X.length))with⟨a,h1,h2⟩| ⟨h1,h2⟩
   ·have:=(YHT.1 h1).1;omega
   ·omega
 have hx:Ext X pl (YDk m (mapR m X.length) X X2) (plB pl m X.length q):=by
  refine⟨by rw[hml'];omega,fun a ha=> ?_⟩
  by_cases hm:a∈m
  ·obtain⟨i,hi⟩:=YH4.1 hm
   have hil:=(YHT.1 hi).1
   have hb:YDq m X.length i=a:=by
    rcases hf i with⟨a',h1,h2⟩| ⟨h1,h2⟩
    ·rw[hi]at h1;injection h1 with h1;rw[h2,h1]
    ·omega
   have hv1:=V1 i (by omega)
   have hp1:=P1 i
   rw[hb]at hv1 hp1
   cases ho:vget X2 i with
   |none=>rw[ho]at hv1;exact .inl hv1
   |some o2=>
    rw[ho]at hv1
    obtain⟨o,hoa⟩:=hlv a hm
    have hre:=YbZ (X:=X) hi
    rw[hoa]at hre
    have hpl:plB pl m X.length q (.m a)=pl (.m a):=by
     rw[hp1,hqk hil ho];simp only[plR,hi]
    rcases hkd i o2 (by omega) ho with⟨c,l,c',l',e1,e2,e3⟩| ⟨cs,cs',e1,e2⟩| ⟨s,s',e1,e2,e3⟩
    ·subst e1
     rw[e2]at hre
     cases o with
     |sq c0 l0=>
      simp only[YIE,VObj.ren,Option.some.injEq]at hre
      injection hre with hre1 hre2
      subst hre1;have hre2:=eq_of_heq hre2;subst hre2
      refine .inr ⟨_,_,hoa,hv1,?_,?_,hpl,rfl,fun _ _ _ _ e=>by cases e⟩<;>simp[VObj.ren,elN,lenO,e3]
     |st cs=>simp[VObj.ren]at hre
     |sb _=>simp[VObj.ren]at hre
     |fm _ _ _ _=>simp[VObj.ren]at hre
    ·subst e1
     rw[e2]at hre
     cases o with
     |sq c0 l0=>simp[VObj.ren]at hre
     |st cs=>exact .inr ⟨_,_,hoa,hv1,rfl,rfl,hpl,rfl,fun _ _ _ _ e=>by cases e⟩
     |sb _=>simp[VObj.ren]at hre
     |fm _ _ _ _=>simp[VObj.ren]at hre
    ·subst e1
     rw[e2]at hre
     cases o with
     |sq c0 l0=>simp[VObj.ren]at hre
     |st cs=>simp[VObj.ren]at hre
     |sb s0=>
      simp only[YIE,VObj.ren,Option.some.injEq]at hre
      injection hre with hre1
      subst hre1
      refine .inr ⟨_,_,hoa,hv1,?_,?_,hpl,rfl,fun _ _ _ _ e=>by cases e⟩<;>simp[VObj.ren,elN,lenO,e3]
     |fm _ _ _ _=>simp[VObj.ren]at hre
  ·have hg:=Ykd (X:=X) (mapR m X.length) (Y:=X2) hm ha
   cases ho:vget X a with
   |none=>exact .inl (hg.trans ho)
   |some o=>
    refine .inr ⟨o,o,rfl,hg.trans ho,rfl,rfl,?_,rfl,fun c ver hole l e=>⟨ver,hole,l,e,rfl,.inr ⟨rfl,fun h=>⟨h,fun i=>⟨rfl,?_⟩⟩⟩⟩⟩
    ·simp only[plB,YdO hm,if_pos ha]
    ·simp only[plB];rw[if_neg (by rintro(h|h);exact hm h;omega)]
 have hpm: ∀{p:Pos} {x},(p.of∈m\/X.length<=p.of)->plB pl m X.length q p=some x-> ∃i,p= .m (YDq m X.length i)/\q (.m i)=some x:=by
  intro p x hA hp
  cases p with
  |n b i=>
   simp only[plB]at hp
   split at hp
   ·cases hp
   ·rename_i h;exact absurd hA h
  |m b=>
   obtain⟨i,hi,_⟩:=surj b hA
   exact⟨i,by rw[hi],by rw[<-P1 i,hi];exact hp⟩
 refine⟨(Yka hal2 v hv).renG look,?_,hx,fun a x ha hp=> ?_⟩
 ·refine hr.build (fun b=>b∈m\/X.length<=b) hx (fun b hb=> ?_) (fun p hb=> ?_) (fun p x hb hp=> ?_) (fun b o hA ho=> ?_) (fun p x hA hp=> ?_) (fun p x hA hp=> ?_) (fun p q x hA hB hp hq=> ?_) (fun x hx=>hkp (hKf x hx)) (by omega)
  ·rw[not_or]at hb
   exact Ykd _ hb.1 (by omega)
  ·rw[not_or]at hb
   cases p with
   |m b=>simp only[Pos.of]at hb;simp only[plB,YdO hb.1];rw[if_pos (by omega)]
   |n b i=>simp only[Pos.of]at hb;simp only[plB];rw[if_neg (by rintro(h|h);exact hb.1 h;exact hb.2 h)]
  ·rw[not_or]at hb
   exact hkp (hKp p x hb.1 hp)
  ·obtain⟨i,hi,hl⟩:=surj b hA
   have hil:=hl (Yae ho)
   rw[<-hi,V1 i hil,YID]at ho
   obtain⟨o2,ho2,rfl⟩:=ho
   obtain⟨z,hz⟩:=hal2 i o2 ho2
   have hp:plB pl m X.length q (.m b)=some z:=by rw[<-hi,P1 i];exact hz
   have hH:=hat hz
   rcases YdV hX ho2 with⟨c,l,rfl,h0⟩| ⟨cs,rfl,h0,hw⟩| ⟨s,rfl⟩
   ·refine⟨z,l.map c.enc,hp,by rw[hH];simp only[encO,ho2],h0,by simp,fun j e v' h1 h2=> ?_⟩
    rw[YHW,h2,YIE]at h1;injection h1 with h1;subst h1
    exact⟨rfl,fun j x x' h1 h2=>by rw[h1]at h2;injection h2 with h2;subst h2;exact .refl _⟩
   ·have hw':=YcK hal2 cs hw
    refine⟨z,YD9 X2 q cs,hp,by rw[hH];simp only[encO,ho2,Yaq,YIa],by simpa[Yaq]using h0,?_⟩
    refine⟨by rw[Yaq];simpa using hw'.1,fun j c a h1 h2=> ?_⟩
    rw[Yaq,YHW,YID]at h1
    obtain⟨y,h1,rfl⟩:=h1
    exact(hw'.2 j y a h1 h2).renG look
   ·exact⟨z,hp,by rw[hH];simp only[encO,ho2]⟩
  ·obtain⟨i,rfl,h2⟩:=hpm hA hp
   obtain⟨o,ho⟩:=hql h2
   exact⟨o.ren (mapR m X.length),by rw[V1 i (Yae ho),ho];rfl⟩
  ·obtain⟨i,rfl,h2⟩:=hpm hA hp
   rcases hqs h2 with⟨a,h3,h4⟩| ⟨_,h4⟩
   ·exact .inl ⟨.m a,h4,.inl (YHU h3)⟩
   ·exact .inr h4
  ·obtain⟨i,rfl,h2⟩:=hpm hA hp
   obtain⟨j,rfl,h4⟩:=hpm hB hq
   have:=hqi h2 h4
   injection this with this;rw[this]
 ·have hna:a∉m:=fun h=>by have:=hbm a h;omega
  simp only[plB,YdO hna]at hp
  rw[if_neg (by omega)]at hp
  rcases hqs hp with⟨a',h3,h4⟩| ⟨_,h4⟩
  ·have:=(YHT.1 h3).1;omega
  ·exact h4
variable{β:Type}{r:β}
theorem Ykh: ∀{d:Nat} {m:List Nat},m.Nodup->(YDz X d m).Nodup
 |0,m,h=>h
 |d+1,m,h=>by
  simp only[YDz]
  cases YIq (YC5 X m (YFb m X 0)).length m.length with
  |true=>exact h
  |false=>exact Ykh (YcE (YbG h))
theorem Yki: ∀{d:Nat} {m:List Nat},(∀a∈m,∃o,vget X a=some o)-> ∀a∈YDz X d m,∃o,vget X a=some o
 |0,m,h=>h
 |d+1,m,h=>by
  simp only[YDz]
  cases YIq (YC5 X m (YFb m X 0)).length m.length with
  |true=>exact h
  |false=>exact Yki (YfV (YcF h))
theorem Yse{T:Tabs}{C:Ctx}(hT:TOK T C){g:Nat}{args:List TV}{as:List AV}{K:TV->YCX->Option β}(hp:T.pf g=false)(h:YFc T g args X K=some r)(hc:CT X pl args as)(hr:HRel Fr H0 X pl H)(hfr:FrOK Fr H0){KA:AV->Heap->Prop}
  (hk: ∀v X' va H' pl',K v X'=some r->TR X' pl' v va->HRel Fr H0 X' pl' H'->Ext X pl X' pl'->H.length<=H'.length->(∀a x,X.length<=a->pl' (.m a)=some x->H.length<=x)->
   (∀b x,b∉YDz X 4 (YDc X 5 (YC5 X [] (TV.idss args)))->pl (.m b)=some x->hf H' x=hf H x)->KA va H'):YEF C g as H KA:=by
 unfold YFc at h
 have hnd:(YDz X 4 (YDc X 5 (YC5 X [] (TV.idss args)))).Nodup:=Ykh (YcE (YbG List.nodup_nil))
 have hlv: ∀a∈YDz X 4 (YDc X 5 (YC5 X [] (TV.idss args))),∃o,vget X a=some o:=Yki (YfV (YcF (fun a h=>by cases h)))
 generalize YDz X 4 (YDc X 5 (YC5 X [] (TV.idss args)))=m at h hnd hlv hk
 obtain⟨e1,h⟩:=Yab h
 simp at e1
 split at h
 ·rename_i svs sos hs1 hs2
  obtain⟨e,he,x,y,hx,hy,h⟩:=Ykg h
  split at h
  ·rename_i v l hv
   split at h
   ·rename_i X2 hX2
    obtain⟨e2,h⟩:=Yab h
    simp at e2
    obtain⟨hK,hkd⟩:=YcM h
    obtain⟨hmem,hg⟩:=Yf9 he
    have hlen:(renX X m).length<=X2.length:=by simpa[renX]using e2.1
    let Kp:Nat->Prop:=fun x=>Fr x\/ ∃p:Pos,p.of∉m/\pl p=some x
    have hrs:=YfX hr hnd
    have hup: ∀{p:Pos} {x},plR pl m p=some x-> ∃q:Pos,q.of∈m/\pl q=some x:=by
     intro p x h
     cases p with
     |m b=>simp only[plR]at h;split at h
           ·rename_i a ha;exact⟨.m a,YHU ha,h⟩
           ·cases h
     |n b i=>simp only[plR]at h;split at h
             ·rename_i a ha;exact⟨.n a i,YHU ha,h⟩
             ·cases h
    have hrK:HRel Kp H (renX X m) (plR pl m) H:=by
     refine⟨hrs.obj,hrs.inj,hrs.own,fun x hx=>⟨?_,rfl⟩,fun p x hp hx=> ?_,YIr _⟩
     ·rcases hx with hx| ⟨p,_,hp⟩
      ·have:=(hr.fr x hx).1;have:=hr.le;omega
      ·exact hr.bd hp
     ·obtain⟨q,h1,h2⟩:=hup hp
      rcases hx with hx| ⟨p',h3,h4⟩
      ·exact hr.nfr _ _ h2 hx
      ·have:=hr.inj _ _ _ h2 h4;subst this;exact h3 h1
    have hA: ∀a x,(vget X a).isSome=true->a∉m->pl (.m a)=some x->Kp x:=fun a x _ h1 h2=>.inr ⟨.m a,h1,h2⟩
    have hfK:FrOK Kp H:=by
     intro x hx
     rcases hx with hx| ⟨p,hpm,hp⟩
     ·obtain⟨⟨o,ho⟩,h2⟩:=hfr x hx
      have h3:=(hr.fr x hx).2
      exact⟨⟨o,h3.trans ho⟩,fun o' ho' e' he' c hc'=>Yr1 (fun z hz=>.inl hz) (h2 o' (h3.symm.trans ho') e' he' c hc')⟩
     ·refine⟨hr.lt hp,fun ob hob e' he' c hc'=> ?_⟩
      have hlive:=hr.own p x hp
      have hrow: ∀{el:List (List AV)} {cc:Cs} {l:List cc.den},Rows el cc l->e'∈el->RefIn Kp c:=by
       intro el cc l hrw h1
       obtain⟨i,hi⟩:=YH4.1 h1
       have hil:i<l.length:=by rw[<-hrw.1];exact(YHT.1 hi).1
       have hcc:=hrw.2 i e' l[i] hi (YHV hil)
       obtain⟨j,hj⟩:=YH4.1 hc'
       obtain⟨z',hz'⟩:=Yah hcc.1.symm hj
       exact YjX (Ydp (hcc.2 j c z' hj hz') (YbA cc _ z' (YHU hz')))
      have ob0: ∃o,vget X p.of=some o:=by
       cases p with
       |m a=>exact hlive
       |n a i=>obtain⟨c,v,h,l,ho,_⟩:=hlive;exact⟨_,ho⟩
      obtain⟨o,ho⟩:=ob0
      have hcl:=Yke e1.1 ho (by rw[YIw];exact hpm)
      cases o with
      |sq c0 l0=>
       have hpe:p= .m p.of:=by
        cases p with
        |m a=>rfl
        |n a i=>obtain⟨c,v,h,l,ho',_⟩:=hlive;simp only[Pos.of]at ho;rw[ho']at ho;cases ho
       obtain⟨x',el,q1,q2,q3,q4⟩:=hr.obj _ _ ho
       rw[hpe]at hp;rw[hp]at q1;injection q1 with q1;subst q1
       rw[hob]at q2;injection q2 with q2;injection q2 with q2;subst q2
       exact hrow q4 he'
      |sb s0=>
       have hpe:p= .m p.of:=by
        cases p with
        |m a=>rfl
        |n a i=>obtain⟨c,v,h,l,ho',_⟩:=hlive;simp only[Pos.of]at ho;rw[ho']at ho;cases ho
       obtain⟨x',q1,q2⟩:=hr.obj _ _ ho
       rw[hpe]at hp;rw[hp]at q1;injection q1 with q1;subst q1
       rw[hob]at q2;injection q2 with q2;injection q2 with q2;subst q2
       exact hrow (YaX s0).rows he'
      |st cs=>
       have hpe:p= .m p.of:=by
        cases p with
        |m a=>rfl
        |n a i=>obtain⟨c,v,h,l,ho',_⟩:=hlive;simp only[Pos.of]at ho;rw[ho']at ho;cases ho
       obtain⟨x',f,q1,q2,q3,q4⟩:=hr.obj _ _ ho
       rw[hpe]at hp;rw[hp]at q1;injection q1 with q1;subst q1
       rw[hob]at q2;injection q2 with q2;injection q2 with q2;subst q2
       simp at he';subst he'
       exact YcL hA cs (hcl.1 cs rfl) q4 c hc'
      |fm c0 v0 h0 l0=>
       have hn0:=hcl.2 _ _ _ _ rfl
       obtain⟨x',el,q1,q2,q3,q4,q5,q6⟩:=hr.obj _ _ ho
       rcases Ycz hr ho hp rfl with hpe| ⟨i,hpe,hi,_⟩
       ·rw[hpe]at hp;rw[hp]at q1;injection q1 with q1;subst q1
        rw[hob]at q2;injection q2 with q2;injection q2 with q2;subst q2
        obtain⟨i,hi⟩:=YH4.1 he'
        have hil:i<l0.length:=by rw[<-q4];exact(YHT.1 hi).1
        rcases q6 i e' l0[i] hi (YHV hil) (by rw[hn0];simp)with⟨y',el',g1,g2,g3,g4⟩| ⟨g1,g2,g3⟩
        ·subst g2;simp at hc';subst hc'
         exact .ref _ _ _ (.inr ⟨.n p.of i,hpm,g1⟩)
        ·subst g3;simp at hc';subst hc';exact .emp
       ·have hil:i<el.length:=by omega
        rcases q6 i _ l0[i] (YHV hil) (YHV hi) (by rw[hn0];simp)with⟨y',el',g1,g2,g3,g4⟩| ⟨g1,_⟩
        ·rw[hpe]at hp;rw[hp]at g1;injection g1 with g1;subst g1
         rw[hob]at g3;injection g3 with g3;injection g3 with g3;subst g3
         exact hrow g4 he'
        ·rw[hpe]at hp;rw[hp]at g1;cases g1
    have hcs:CT (renX X m) (plR pl m) (TV.rens (fun a=>idxV m a 0) args) as:=by
     refine⟨by rw[Yaq];simpa using hc.1,fun j c a h1 h2=> ?_⟩
     rw[Yaq,YHW,YID]at h1
     obtain⟨z,h1,rfl⟩:=h1
     exact(hc.2 j z a h1 h2).ren
    have hpl0: ∀i o,vget (renX X m) i=some o-> ∃z,plR pl m (.m i)=some z:=fun i o ho=>YGc hrs ho
    have hpl1: ∀i,i< (renX X m).length-> ∀o,vget X2 i=some o-> ∃z,plR pl m (.m i)=some z:=by
     intro i hi o ho
     rcases hkd i o hi ho with⟨c,l,c',l',_,h2,_⟩| ⟨cs,cs',_,h2⟩| ⟨s,s',_,h2,_⟩
     ·exact hpl0 i _ h2
     ·exact hpl0 i _ h2
     ·exact hpl0 i _ h2
    have hRI:e.RI as H (encT X2 (plI (plR pl m) (renX X m).length H.length X2) v) (YDt Kp H (renX X m).length X2 (plI (plR pl m) (renX X m).length H.length X2)):=
     ⟨x,y,_,renX X m,plR pl m,Kp,v,l,X2,hy,hx,e1.2,hcs,hrK,hfK,hpl0,hv,hX2,hlen,e2.2.1,e2.2.2,hpl1,rfl,rfl⟩
    refine .inr ⟨by rw[hT.p.pf];exact hp,as,_,_,Yjm as,by rw[<-hg];exact hT.fnI e hmem (by rw[hg];exact hp) _ _ _ _ hRI,by rw[YdU];omega,?_⟩
    have hal2: ∀i o,vget X2 i=some o-> ∃z,plI (plR pl m) (renX X m).length H.length X2 (.m i)=some z:=by
     intro i o ho
     simp only[plI,ho]
     split
     ·rename_i hi;exact hpl1 i hi o ho
     ·exact⟨_,rfl⟩
    have hme:(renX X m).length<=X2.length:=hlen
    obtain⟨b1,b2,b3,b4⟩:=back hr hrK (fun x h=>.inl h) (fun p x h1 h2=>.inr ⟨p,h1,h2⟩) hnd hlv hkd hal2 hme e2.2.1 e2.2.2
    exact hk _ _ _ _ _ hK b1 b2 b3 (by rw[YdU];omega) b4 (fun b x hb hp=>Yf7 (Xs:=renX X m) hrK (X2:=X2) (.inr ⟨.m b,hb,hp⟩))
   ·cases h
  ·cases h
 ·cases h
end
end Go.Abs
namespace Go.Abs
open Go Go.RowKit
def VI.ai(i:VI):AI:=⟨i.dst,i.op.aop,i.guard,i.old,i.nw⟩
def VCode.er:VCode->ACode
 | .bad=>.bad
 | .skip=>.skip
 | .reg ops=>.reg (ops.map VI.ai)
 | .seq a b=>.seq a.er b.er
 | .cond c a b=>.cond c.er a.er b.er
 | .blk id b=>.blk id b.er
 | .loop _ b=>.loop b.er
 | .jn _ b=>b.er
 | .exit id=>.exit id
 | .ret=>.ret
 | .fz _ b=>b.er
 | .ow _ b=>b.er
 | .regN _ ops=>.reg (ops.map VI.ai)
section
variable{Fr:Nat->Prop}{H0:Heap}{β:Type}{r:β}{T:Tabs}{C:Ctx}
def MK(n0:Nw)(m0:Nat->Prop)(X:YCX)(pl:Pl)(H:Heap):Prop:=
 n0.1<=X.length/\ (∀x,H.length<=x->m0 x)/\ (∀a x,pl (.m a)=some x->(YDS n0 a=false-> ¬m0 x)/\ (YDS n0 a=true->m0 x))/\ ∀x,¬m0 x-> ∃a,a<n0.1/\YDS n0 a=false/\ (pl (.m a)=some x\/vget X a=none)
theorem Ykj{X:YCX}{pl:Pl}{n0:Nw}{X':YCX}{pl':Pl}(h0:n0.1<=X.length)(hx:Ext X pl X' pl'){x:Nat}(h: ∃a,a<n0.1/\YDS n0 a=false/\ (pl (.m a)=some x\/vget X a=none)): ∃a,a<n0.1/\YDS n0 a=false/\ (pl' (.m a)=some x\/vget X' a=none):=by
 obtain⟨a,h1,h2,h3⟩:=h
 refine⟨a,h1,h2,?_⟩
 rcases hx.keep a (by omega)with h'| ⟨o1,o',g1,g2,g3,g4,g5,_⟩
 ·simp_all
 simp_all
theorem Ykk{n:Nw}{a:Nat}(h:n.1<=a):YDS n a=true:=by unfold YDS;simp_all
structure RS(Fr:Nat->Prop)(H0:Heap)(n0:Nw)(m0:Nat->Prop)(p0:Nat× (Nat->Option Nat))(b:Nat)(s:VSt)(st:ASt):Prop where
 base:st.base=b
 kb:p0.1<=s.heap.length
 ex: ∃pl,ERel s.heap pl s.env st.env/\HRel Fr H0 s.heap pl st.heap/\ (∀i,i<p0.1-> ∀x,pl (.m i)=some x->p0.2 i=some x)/\MK n0 m0 s.heap pl st.heap
theorem Ysf{X:YCX}{pl:Pl}{X':YCX}{pl':Pl}{H':Heap}(hx:Ext X pl X' pl')(hr':HRel Fr H0 X' pl' H'){p0:Nat× (Nat->Option Nat)}(hk:p0.1<=X.length)(h: ∀i,i<p0.1-> ∀x,pl (.m i)=some x->p0.2 i=some x):
  ∀i,i<p0.1-> ∀x,pl' (.m i)=some x->p0.2 i=some x:=by
 intro i hi x hp
 obtain⟨o,ho⟩:=hr'.own _ x hp
 rcases hx.keep i (by omega)with h'| ⟨o1,o',h1,h2,h3,h4,h5,_⟩
 ·simp_all
 simp_all
theorem Ykl{X:YCX}{pl:Pl}{H:Heap}{n0:Nw}{m0:Nat->Prop}(hm:MK n0 m0 X pl H){X':YCX}{pl':Pl}{H':Heap}(hr':HRel Fr H0 X' pl' H')(hx:Ext X pl X' pl')(hl:H.length<=H'.length)
  (hn: ∀a x,X.length<=a->pl' (.m a)=some x->H.length<=x):MK n0 m0 X' pl' H':=by
 refine⟨YIv hm.1 hx.le,fun x h=>hm.2.1 x (YIv hl h),fun a x ha=> ?_,fun x hx'=>Ykj hm.1 hx (hm.2.2.2 x hx')⟩
 obtain⟨o,ho⟩:=hr'.own _ x ha
 by_cases h:a<X.length
 ·rcases hx.keep a h with h'| ⟨o1,o',h1,h2,h3,h4,h5,_⟩
  ·simp_all
  ·rw[h5]at ha;exact hm.2.2.1 a x ha
 ·have h1:=hn a x (by omega) ha
  have hn':=Ykk (YIv hm.1 (Nat.le_of_not_lt h))
  exact⟨fun h=>(by simp_all),fun _=>hm.2.1 x h1⟩
theorem Ysg{X:YCX}{pl:Pl}{H:Heap}{n0:Nw}{m0:Nat->Prop}(hm:MK n0 m0 X pl H){X':YCX}{pl':Pl}{H':Heap}(hr':HRel Fr H0 X' pl' H')(hx:Ext X pl X' pl')(hl:H.length<=H'.length)
  (hn:X'.length=X.length\/(X'.length=X.length+1/\pl' (.m X.length)=some H.length)):MK n0 m0 X' pl' H':=by
 refine⟨YIv hm.1 hx.le,fun x h=>hm.2.1 x (YIv hl h),fun a x ha=> ?_,fun x hx'=>Ykj hm.1 hx (hm.2.2.2 x hx')⟩
 obtain⟨o,ho⟩:=hr'.own _ x ha
 have hal:=Yae ho
 by_cases h:a<X.length
 ·rcases hx.keep a h with h'| ⟨o1,o',h1,h2,h3,h4,h5,_⟩
  ·simp_all
  ·rw[h5]at ha;exact hm.2.2.1 a x ha
 ·rcases hn with hn| ⟨hn,hp⟩
  ·omega
  ·have:a=X.length:=by omega
   subst this
   rw[hp]at ha;injection ha with ha
   have hn':=Ykk hm.1
   exact⟨fun h=>(by simp_all),fun _=>hm.2.1 x (by omega)⟩
theorem Ykm(H:Heap): ∀us:List Upd,H.length<=(YDb H us).length
 | []=>YIr _
 |u::us=>by
  refine YIv ?_ (Ykm _ us)
  cases u<;>simp[YEm]
theorem Ybl{X:YCX}{pl:Pl}{env:VEnv}{ae:Env}(h:ERel X pl env ae){d:Option Nat}{v:TV}{a:AV}(hv:TR X pl v a):ERel X pl (vput env d v) (put ae d a):=by
 cases d with
 |none=>exact h
 |some d=>
  intro t
  simp only[vput,put,YDa,YC1]
  have e0:(d==t)=YIq d t:=by rw[YIN,beq_iff_eq,Nat.beq_eq]
  rw[e0]
  cases YIq d t with
  |true=>exact hv
  |false=>exact h t
theorem Ykn{X:YCX}{pl:Pl}{H:Heap}{n0:Nw}{m0:Nat->Prop}(hm:MK n0 m0 X pl H){v:TV}{a:AV}(h:oldC X n0 v=true)(ht:TR X pl v a):(∀i off len,a= .ref i off len-> ¬m0 i)/\ (∀i j k,a= .ptr i j k-> ¬m0 i)/\ (∀cs,a≠ .agg cs)/\ (∀f cs,a≠ .clo f cs\/ ∃g ds,v= .clo g ds)/\ (∀i,a= .np i-> ¬m0 i):=by
 cases v with
 |ref x=>
  simp only[oldC,YIK]at h
  obtain⟨o,ho⟩:=YIG.1 h.1
  obtain⟨y,n,rfl,hp,_⟩:=Yao ho ht
  have:=(hm.2.2.1 x y hp).1 (by simp_all)
  simp_all
 |pre x n=>
  simp only[oldC,YIK]at h
  obtain⟨o,ho⟩:=YIG.1 h.1
  obtain⟨y,n,rfl,hp,_⟩:=YbV ho ht
  have:=(hm.2.2.1 x y hp).1 (by simp_all)
  simp_all
 |ptr x i j=>
  simp only[oldC,YIK]at h
  obtain⟨o,ho⟩:=YIG.1 h.1
  obtain⟨y,rfl,hp,_⟩:=Ybj ho ht
  have:=(hm.2.2.1 x y hp).1 (by simp_all)
  simp_all
 |np x=>
  simp only[oldC,YIK]at h
  obtain⟨o,ho⟩:=YIG.1 h.1
  obtain⟨y,rfl,hp⟩:=YaO ho ht
  have:=(hm.2.2.1 x y hp).1 (by simp_all)
  simp_all
 |u=>cases h
 |sub _ _ _=>cases h
 |pti _ _ _ _ _=>cases h
 |v _=>cases h
 |ag _=>cases h
 |clo g ds=>cases ht with
  |clo _ _ as=>simp
 |l c v=>
  cases ht with
  |l _ _ _ hc=>rcases YaV hc with⟨rfl,_⟩| ⟨l0,rfl,_⟩<;>exact⟨fun i off len e=>(by cases e),fun i j k e=>(by cases e),fun cs e=>(by cases e),fun f cs=>.inl (fun e=>by cases e),fun i e=>(by cases e)⟩
 |_=>cases ht;exact⟨fun i off len e=>(by cases e),fun i j k e=>(by cases e),fun cs e=>(by cases e),fun f cs=>.inl (fun e=>by cases e),fun i e=>(by cases e)⟩
theorem Yko{X:YCX}{pl:Pl}{H:Heap}{n0:Nw}{m0:Nat->Prop}(hm:MK n0 m0 X pl H){v:TV}{a:AV}(h:oldB X n0 v=true)(ht:TR X pl v a):(∀i,nm1 i a-> ¬m0 i)/\ (∀i j k,a= .ptr i j k-> ¬m0 i)/\ (∀cs,a= .agg cs-> ∀i off len,AV.ref i off len∈cs-> ¬m0 i)/\ (∀f cs,a≠ .clo f cs\/ ∃g ds,v= .clo g ds)/\ (∀i,a= .np i-> ¬m0 i):=by
 have gen:oldC X n0 v=true->(∀i,nm1 i a-> ¬m0 i)/\ (∀i j k,a= .ptr i j k-> ¬m0 i)/\ (∀cs,a= .agg cs-> ∀i off len,AV.ref i off len∈cs-> ¬m0 i)/\ (∀f cs,a≠ .clo f cs\/ ∃g ds,v= .clo g ds)/\ (∀i,a= .np i-> ¬m0 i):=by
  intro h
  obtain⟨h1,h2,h3,h4,h5⟩:=Ykn hm h ht
  refine⟨fun i hn=> ?_,h2,fun cs e=>absurd e (h3 cs),h4,h5⟩
  cases a with
  |ref x off len=>have hn:i=x:=hn;simp_all
  |agg cs=>simp_all
  |_=>trivial
 cases v with
 |ag cs=>
  cases ht with
  |ag _ as hl hc=>
   have key: ∀i off len,AV.ref i off len∈as-> ¬m0 i:=by
    intro i off len hmem
    obtain⟨j,hj⟩:=YH4.1 hmem
    obtain⟨c,hcj⟩:=Yah hl hj
    have:=YIb.1 (show cs.all (oldC X n0)=true from h) c (YHU hcj)
    exact(Ykn hm this (hc j c _ hcj hj)).1 i off len rfl
   exact⟨fun i ⟨off,len,hn⟩=>key i off len hn,fun i j k e=>(by cases e),fun cs' e i off len hn=>(by grind),fun f cs=>.inl (fun e=>by cases e),fun i e=>(by cases e)⟩
 |_=>exact gen h
theorem Ysh{X:YCX}{pl:Pl}{H:Heap}{n0:Nw}{m0:Nat->Prop}(hm:MK n0 m0 X pl H){v:TV}{a:AV}(h:oldT X n0 v=true)(ht:TR X pl v a):YFF m0 a:=by
 have gen:oldB X n0 v=true->(∀g ds,v≠ .clo g ds)->YFF m0 a:=by
  intro h hn
  obtain⟨h1,h2,h3,h4,h5⟩:=Yko hm h ht
  cases a with
  |ref x off len=>exact h1 x rfl
  |ptr x i j=>exact h2 x i j rfl
  |np x=>exact h5 x rfl
  |agg cs=>exact h3 cs rfl
  |clo f cs=>simp_all
  |_=>trivial
 cases v with
 |clo g cs=>
  cases ht with
  |clo _ _ as hl hc=>
   intro i c hmem hn
   obtain⟨j,hj⟩:=YH4.1 hmem
   obtain⟨d,hd⟩:=Yah hl hj
   have:=YIb.1 (show cs.all (oldB X n0)=true from h) d (YHU hd)
   exact(Yko hm this (hc j d c hd hj)).1 i hn
 |_=>exact gen h (fun g ds e=>by cases e)
theorem Ybb{X:YCX}{pl:Pl}{H:Heap}{n0:Nw}{m0:Nat->Prop}(hm:MK n0 m0 X pl H){v:TV}{a:AV}(h:newT X n0 v=true)(ht:TR X pl v a):YE4 m0 a:=by
 cases v with
 |ref x=>
  simp only[newT,YIK]at h
  obtain⟨o,ho⟩:=YIG.1 h.1
  obtain⟨y,n,rfl,hp,_⟩:=Yao ho ht
  exact(hm.2.2.1 x y hp).2 (by simp_all)
 |ptr x i j=>
  simp only[newT,YIK]at h
  obtain⟨o,ho⟩:=YIG.1 h.1
  obtain⟨y,rfl,hp,_⟩:=Ybj ho ht
  exact(hm.2.2.1 x y hp).2 (by simp_all)
 |np x=>
  simp only[newT,YIK]at h
  obtain⟨o,ho⟩:=YIG.1 h.1
  obtain⟨y,rfl,hp⟩:=YaO ho ht
  exact(hm.2.2.1 x y hp).2 (by simp_all)
 |i k n=>cases ht;trivial
 |b x=>cases ht;trivial
 |s x=>cases ht;trivial
 |e c=>cases ht;trivial
 |l c v=>
  cases ht with
  |l _ _ _ hc=>rcases YaV hc with⟨rfl,_⟩| ⟨l0,rfl,_⟩<;>trivial
 |_=>cases h
theorem Ysi(op:VOp):op.aop.touched=op.touched.map VOpd.er:=by
 cases op<;>rfl
theorem Ykp{X:YCX}{pl:Pl}{H:Heap}{n0:Nw}{m0:Nat->Prop}(hm:MK n0 m0 X pl H){env:VEnv}{ae:Env}(he:ERel X pl env ae): ∀l:List VOpd,(l.all fun x=>oldT X n0 (vo env x))=true->YDV m0 ae (l.map VOpd.er)
 | [],_=>trivial
 |x::l,h=>by
  simp only[List.all_cons,YIK]at h
  exact⟨Ysh hm h.1 (Yau he x),Ykp hm he l h.2⟩
theorem Ysj{X:YCX}{pl:Pl}{H:Heap}{n0:Nw}{m0:Nat->Prop}(hm:MK n0 m0 X pl H){env:VEnv}{ae:Env}(he:ERel X pl env ae){op:VOp}(h:nwT X n0 env op=true):nwC m0 ae op.aop:=by
 cases op with
 |app c w s x=>exact Ybb hm h (Yau he s)
 |store n x y=>exact Ybb hm h (Yau he x)
 |appD c s x=>intro y hy;have:y=s.er:=by simpa[XOp.look]using hy
              subst this;exact Ybb hm h (Yau he s)
 |apps s x=>intro y hy;have:y=s.er:=by simpa[XOp.look]using hy
            subst this;exact Ybb hm h (Yau he s)
 |appb s x=>intro y hy;have:y=s.er:=by simpa[XOp.look]using hy
            subst this;exact Ybb hm h (Yau he s)
 |appDb s x=>intro y hy;have:y=s.er:=by simpa[XOp.look]using hy
             subst this;exact Ybb hm h (Yau he s)
 |mput o t V ag m k v=>intro y hy;have:y=m.er:=by simpa[XOp.look]using hy
                       subst this;exact Ybb hm h (Yau he m)
 |mdel o t V m k=>intro y hy;have:y=m.er:=by simpa[XOp.look]using hy
                  subst this;exact Ybb hm h (Yau he m)
 |cpy c d s=>intro y hy;have:y=d.er:=by simpa[XOp.look]using hy
             subst this;exact Ybb hm h (Yau he d)
 |call g args=>trivial
 |_=>cases h
theorem frNo{H0:Heap}:FrOK (fun _=>False) H0:=fun _ h=>h.elim
theorem Ysk(n:Nat):HRel (fun _=>False) (List.replicate n none) [] (fun _=>none) (List.replicate n none):=
 ⟨fun a o h=>(by cases h),fun p q x h=>(by cases h),fun p x h=>(by cases h),fun x h=>h.elim,fun p x h=>(by cases h),YIr _⟩
theorem Ysl(c:Cs)(x:List c.den):Rows (x.map c.enc) c x:=by
 refine⟨by simp,fun i e v' k1 k2=> ?_⟩
 rw[YHW,k2,YIE]at k1
 injection k1 with k1;subst k1
 exact⟨rfl,fun j x x' k1 k2=>by rw[k1]at k2;injection k2 with k2;subst k2;exact .refl _⟩
theorem heapI_one{n:Nat}{c:Cs}{z:List c.den}:
  YDt (fun _=>False) (List.replicate n none) 0 [some (.sq c z)] (plI (fun _=>none) 0 (List.replicate n (none:Option AObj)).length [some (.sq c z)])=List.replicate n none++[some ⟨c.width,z.map c.enc⟩]:=by
 have hl:(List.replicate n (none:Option AObj)).length=n:=by simp
 rw[hl]
 have hpl: ∀i x,plI (fun _=>none) 0 n [some (.sq c z)] (.m i)=some x->i=0/\x=n:=by
  intro i x h
  cases i with
  |zero=>simp[plI,vget]at h;omega
  |succ i=>trivial
 have hp0:plI (fun _=>none) 0 n [some (.sq c z)] (.m 0)=some n:=by rfl
 apply YIj
 intro x
 unfold YDt
 rw[YHW,hl]
 by_cases hx:x<n+1
 ·rw[YIo (by trivial)]
  simp only[YIE,if_neg (id: ¬False)]
  by_cases hn:x=n
  ·subst hn
   have hex: ∃i,plI (fun _=>none) 0 x [some (.sq c z)] (.m i)=some x:=⟨0,hp0⟩
   rw[dif_pos hex]
   have hc:=(hpl _ _ (Classical.choose_spec hex)).1
   rw[YH7 (by simp),hc]
   simp[encO,vget]
  grind
 simp_all
theorem YdW: ∀(c:Cs) (v:c.den),c.plain=true-> ∀x∈c.enc v,∃y,x=AV.v y
 | .nil,_,_,x,hx=>by cases hx
 | .cons (.l _) _,_,h,_,_=>by cases h
 | .cons (.i _) r,v,h,x,hx=>by exact(YH1.1 hx).elim (fun e=>⟨_,e⟩) (YdW r _ h x)
 | .cons .b r,v,h,x,hx=>by exact(YH1.1 hx).elim (fun e=>⟨_,e⟩) (YdW r _ h x)
 | .cons .s r,v,h,x,hx=>by exact(YH1.1 hx).elim (fun e=>⟨_,e⟩) (YdW r _ h x)
theorem Ysm(hT:TOK T C){g:Nat}{args:List TV}{as:List AV}{X:YCX}{pl:Pl}{H:Heap}{K:TV->YCX->Option β}(hp:T.pf g=false){d:Bool}(h:YFe T g args d X K=some r)(hc:CT X pl args as)(hr:HRel Fr H0 X pl H){KA:AV->Heap->Prop}
  (hk: ∀v X' va H' pl',K v X'=some r->TR X' pl' v va->HRel Fr H0 X' pl' H'->Ext X pl X' pl'->H.length<=H'.length->(∀a x,X.length<=a->pl' (.m a)=some x->H.length<=x)->KA va H'):
  ∃args1 args' o len,All2 (Bor (hf H)) as args1/\ (args1=as\/YEo o)/\All2 Coe args1 args'/\MkC C g args' o len/\ (d=true->len=o.el.length)/\KA (mkV d o H.length len) (H++[mkO d o]):=by
 unfold YFe at h
 cases hl:ldL X args with
 |mk ds lent=>
  rw[hl]at h
  simp only at h
  split at h
  ·rename_i svs hs
   split at h
   ·rename_i e hf
    obtain⟨e1,e2⟩:=Yab h
    obtain⟨hm,hg⟩:=Ykf hf
    split at e2
    ·rename_i x hx
     cases hy:e.F x with
     |none=>simp_all
     |some y=>
      rw[hy]at e2
      simp at e2
      split at e2
      ·rename_i l hv
       split at e2
       ·rename_i c z hX2
        obtain⟨hw,e3⟩:=Yab e2
        simp only[YIK]at hw
        obtain⟨hw,hlt⟩:=hw
        have hw':0<c.width:=by simp_all
        obtain⟨bs,g1,g2,g3⟩:=Yf4 hr hl hc
        have hbs:bs=as\/YEo ⟨c.width,z.map c.enc⟩:=by
         cases lent with
         |false=>simp_all
         |true=>
          refine .inr (fun e he x hx=> ?_)
          obtain⟨v,_,rfl⟩:=YH2.1 he
          exact YdW c v (by trivial) x hx
        refine⟨bs,avTs ds,⟨c.width,z.map c.enc⟩,z.length,g1,hbs,Yj7 g2 e1,⟨hw',fun a ha=>Yb0 ds a ha,fun e he x hx=> ?_,fun n=> ?_⟩,fun _=>by simp,?_⟩
        ·obtain⟨v,_,rfl⟩:=YH2.1 he
         exact YbA c v x hx
        ·rw[<-hg]
         refine hT.fnI e hm (by simp_all) _ _ _ _ ⟨x,y,ds,[],fun _=>none,fun _=>False,.ref 0,l,[some (.sq c z)],hy,hx,rfl,?_,Ysk n,frNo,fun i o h=>(by cases h),hv,hX2,YIz _,rfl,by simp[wfX,hw],fun i hi=>by trivial,?_,heapI_one.symm⟩
         ·have:=YcJ (X:=[]) (pl:=fun _=>none) ds e1
          trivial
         ·simp[encT,plI,vget,seqN,lenO]
        ·cases d with
         |true=>
          refine hk _ _ _ _ _ e3 ?_ (YcC hr) (Ext.refl _ _) (by simp) (fun a x ha hx=> ?_)
          ·refine .l c z _ ?_
           show Coe (.rd (wd c.width) _) _
           rw[YaF hw'];exact .refl _
          ·have:=hr.dead (p:=.m a) (Yat ha);simp_all
         |false=>
         obtain⟨k1,k2⟩:=Yap hr (.sq c z) ⟨c.width,z.map c.enc⟩ (fun _=>⟨H.length,z.map c.enc,by unfold plS;simp,by simp,hw',Ysl c z⟩)
         refine hk _ _ _ _ _ e3 (.ref X.length H.length _ _ (Yam _ _) rfl (by unfold plS;simp)) k1 k2 (by simp) (fun a x ha hx=> ?_)
         unfold plS at hx
         split at hx
         ·simp_all
         ·have:=hr.dead (p:=.m a) (Yat ha);simp_all
       trivial
      trivial
    trivial
   trivial
  trivial
def VOp.isCall:VOp->Bool
 | .call _ _=>true
 |_=>false
theorem Ysn(hT:TOK T C)(hfr:FrOK Fr H0){op:VOp}{env:VEnv}{ae:Env}{X:YCX}{pl:Pl}{H:Heap}{n0:Nw}{m0:Nat->Prop}{K:TV->YCX->Option β}(h:vop T op env X K=some r)(he:ERel X pl env ae)(hr:HRel Fr H0 X pl H)(hm:MK n0 m0 X pl H)
  {KA:AV->Heap->Prop} (hk: ∀v X' va H' pl',K v X'=some r->TR X' pl' v va->HRel Fr H0 X' pl' H'->Ext X pl X' pl'->MK n0 m0 X' pl' H'->(op.isCall=true->nwT X n0 env op=true-> ∀x,¬m0 x->hf H' x=hf H x)->KA va H'):evOp C op.aop ae H KA:=by
 have gen:op.isCall=false->vG op env X K=some r->evG op.aop ae (hf H) H.length (fun v us=>KA v (YDb H us)):=fun hic h=>
  YrS h he hr (fun v X' va us h1 ⟨pl',k1,k2,k3⟩=>hk v X' va _ pl' h1 k1 k2.1 k2.2 (Ysg hm k2.1 k2.2 (Ykm H us) k3) (fun e=>by simp_all))
 have call: ∀{g:Nat} {args:List TV} {as:List AV},(op.isCall=true->nwT X n0 env op=true-> ∀x,¬m0 x-> ∃b,b∉YDz X 4 (YDc X 5 (YC5 X [] (TV.idss args)))/\pl (.m b)=some x)->YFd T g args X K=some r->CT X pl args as->YEF C g as H KA:=by
  intro g args as hq h hc
  unfold YFd at h
  cases hp:T.pf g with
  |true=>
   rw[hp,cond_true]at h
   exact Yr7 hT.p hp h hc hr (fun v va h1 h2=>hk v X va H pl h1 h2 hr (Ext.refl _ _) hm (fun _ _ _ _=>rfl))
  |false=>
   rw[hp,cond_false]at h
   exact Yse hT hp h hc hr hfr (fun v X' va H' pl' h1 h2 h3 h4 h5 h6 h7=>hk v X' va H' pl' h1 h2 h3 h4 (Ykl hm h3 h4 h5 h6) (fun e1 e2 x hx=>by grind))
 unfold vop at h
 split at h
 ·rename_i g args
  refine call (fun _ hnw x hx=> ?_) h (YaP he args)
  simp only[nwT,YIK]at hnw
  obtain⟨b,k1,k2,k3⟩:=hm.2.2.2 x hx
  grind
 ·rename_i x args
  have hx:=Yau he x
  split at h
  ·rename_i f cs e1
   rw[e1]at hx
   simp only[VOp.aop,evOp,opK]
   generalize opd ae x.er=ax at hx⊢
   cases hx with
   |clo _ _ as hl hc=>exact⟨f,as,rfl,call (fun e=>by cases e) h ((YaP he args).append ⟨hl,hc⟩)⟩
  trivial
 ·rename_i x args
  have hx:=Yau he x
  split at h
  ·rename_i f cs e1
   obtain⟨hp,h⟩:=Yab h
   rw[e1]at hx
   simp only[VOp.aop,evOp,opK]
   generalize opd ae x.er=ax at hx⊢
   cases hx with
   |clo _ _ as hl hc=>exact⟨f,as,rfl,by rw[hT.p.pf];exact hp,call (fun e=>by cases e) h ((YaP he args).append ⟨hl,hc⟩)⟩
  trivial
 ·rename_i g args d
  cases hp:T.pf g with
  |true=>simp_all
  |false=>
   rw[hp,cond_false]at h
   exact Ysm hT hp h (YaP he args) hr (fun v X' va H' pl' h1 h2 h3 h4 h5 h6=>hk v X' va H' pl' h1 h2 h3 h4 (Ykl hm h3 h4 h5 h6) (fun e=>by cases e))
 ·rename_i h1 h2 h3 h4
  have:=gen (by cases op<;>first|rfl|trivial) h
  cases op<;>first|trivial|trivial|trivial|trivial|trivial
theorem Ygb(hT:TOK T C)(hfr:FrOK Fr H0){n0:Nw}{m0:Nat->Prop}{b:Nat}{p0:Nat× (Nat->Option Nat)}: ∀{ops:List VI} {s:VSt} {K:VSt->Option β} {st:ASt},vops T n0 ops s K=some r->RS Fr H0 n0 m0 p0 b s st-> ∀{KA:ASt->Prop},
  (∀s' st',K s'=some r->RS Fr H0 n0 m0 p0 b s' st'->KA st')->YDC C m0 (ops.map VI.ai) KA st
 | [],s,K,st,h,hs,KA,hk=>hk s st h hs
 |i::ops,⟨env,X⟩,K,⟨ae,H,b0⟩,h,⟨hb,hkb,pl,he,hr,hpk,hm⟩,KA,hk=>by
  have hb:b0=b:=hb
  subst hb
  simp only[vops]at h
  simp only[YHX,YDC]
  have rec': ∀s' st',vops T n0 ops s' K=some r->RS Fr H0 n0 m0 p0 b0 s' st'->YDC C m0 (ops.map VI.ai) KA st':=fun s' st' h1 h2=>Ygb hT hfr h1 h2 hk
  have go: ∀{env:VEnv} {ae:Env},ERel X pl env ae->vgo T n0 i env X (fun s'=>vops T n0 ops s' K)=some r->
    YEr C m0 i.old i.nw i.op.aop ae H (fun v H'=>YDC C m0 (ops.map VI.ai) KA ⟨put ae i.dst v,H',b0⟩):=by
   intro env ae he h
   unfold vgo at h
   obtain⟨hmk,h⟩:=Yab h
   simp only[okM,YIK,Bool.or_eq_true,Bool.not_eq_true']at hmk
   refine⟨fun hold=> ?_,fun hnw=> ?_,Ysn hT hfr h he hr hm (fun v X' va H' pl' h1 h2 h3 h4 h5 h6=>⟨fun hnw hic=>h6 ?_ ?_,rec' _ _ h1 ⟨rfl,YIv hkb h4.le,pl',Ybl (he.ext h4) h2,h3,Ysf h4 h3 hkb hpk,h5⟩⟩)⟩
   rotate_left 2
   ·revert hic;show i.op.aop.isCall=true->_;cases i.op<;>first|exact fun _=>rfl|exact fun h=>by cases h
   ·simp_all
   ·rw[Ysi]
    rcases hmk.1 with h1|h1
    ·simp_all
    ·exact Ykp hm he _ h1
   ·rcases hmk.2 with h1|h1
    ·simp_all
    ·exact Ysj hm he h1
  have skip: ∀{env:VEnv} {ae:Env},ERel X pl env ae->vops T n0 ops ⟨vput env i.dst undV,X⟩ K=some r->YDC C m0 (ops.map VI.ai) KA ⟨put ae i.dst (.v undef),H,b0⟩:=
   fun he h=>rec' _ _ h ⟨rfl,hkb,pl,Ybl he (.v _),hr,hpk,hm⟩
  have her: ∀{g:Nat} {t:Bool},ERel X pl ((g,.b t)::env) ((g,.v (.bool t))::ae):=fun{g t}=>Ybl (d:=some g) he (.b t)
  unfold vai at h
  unfold evAI
  have e1:(VI.ai i).guard=i.guard:=rfl
  rw[e1]
  split at h
  ·rename_i hg
   rw[hg]
   exact go he h
  ·rename_i g w hg
   rw[hg]
   have hgt:=he g
   simp only at h
   split at h
   ·rename_i t hx
    rw[hx]at hgt
    have hv:opd ae (.t g)= .v (.bool t):=by
     show YC1 ae g=_
     generalize YC1 ae g=a at hgt⊢
     cases hgt;rfl
    cases w with
    |true=>
     simp only[opK]
     refine .inl ⟨t,hv,fun ht=> ?_,fun ht=> ?_⟩
     ·subst ht;exact go her h
     ·subst ht;exact skip her h
    |false=>
     simp only[opK]
     refine .inl ⟨t,hv,fun ht=> ?_,fun ht=> ?_⟩
     ·subst ht;exact skip her h
     ·subst ht;exact go her h
   ·rename_i hx
    rw[hx]at hgt
    have hv:opd ae (.t g)= .v undef:=by
     show YC1 ae g=_
     generalize YC1 ae g=a at hgt⊢
     cases hgt;rfl
    have:=skip he h
    cases w<;>exact .inr ⟨hv,this⟩
   trivial
structure VS(Fr:Nat->Prop)(H0:Heap)(p0:Nat× (Nat->Option Nat))(b:Nat)(s:VSt)(st:ASt):Prop where
 base:st.base=b
 kb:p0.1<=s.heap.length
 ex: ∃pl,ERel s.heap pl s.env st.env/\HRel Fr H0 s.heap pl st.heap/\ ∀i,i<p0.1-> ∀x,pl (.m i)=some x->p0.2 i=some x
theorem RS.vs{n0:Nw}{m0:Nat->Prop}{b:Nat}{p0:Nat× (Nat->Option Nat)}{s:VSt}{st:ASt}(h:RS Fr H0 n0 m0 p0 b s st):VS Fr H0 p0 b s st:=⟨h.base,h.kb,by obtain⟨pl,h1,h2,h3,_⟩:=h.ex;grind⟩
theorem VS.rs{b:Nat}{p0:Nat× (Nat->Option Nat)}{s:VSt}{st:ASt}(h:VS Fr H0 p0 b s st)(S:List Nat): ∃m0,(∀x,st.heap.length<=x->m0 x)/\RS Fr H0 (s.heap.length,S) m0 p0 b s st:=by
 obtain⟨pl,h1,h2,h3⟩:=h.ex
 have hnew: ∀a x,pl (.m a)=some x->(YDS (s.heap.length,S) a=true↔a∈S):=fun a x ha=>by
  obtain⟨o,ho⟩:=h2.own _ x ha
  have:=Yae ho
  unfold YDS
  have hb:YIs s.heap.length a=false:=by
   cases hq:YIs s.heap.length a with
   |false=>rfl
   |true=>have:=YIB hq;omega
  simp_all
 have hbd: ∀x,st.heap.length<=x-> ¬ ∃a,a∉S/\pl (.m a)=some x:=fun x hx ⟨a,_,ha⟩=>by have:=h2.bd ha;omega
 refine⟨fun x=> ¬ ∃a,a∉S/\pl (.m a)=some x,hbd,h.base,h.kb,pl,h1,h2,h3,YIr _,hbd,fun a x ha=>⟨fun hn hm=> ?_,fun hn=> ?_⟩,fun x hx=> ?_⟩
 ·grind
 ·rintro⟨b,hb,hbx⟩
  have:=h2.inj _ _ _ ha hbx
  simp_all
 ·obtain⟨a,ha,hax⟩:=Classical.byContradiction hx
  obtain⟨o,ho⟩:=h2.own _ x hax
  refine⟨a,Yae ho,?_,.inl hax⟩
  grind
def YDx(Fr:Nat->Prop)(H0:Heap)(kb:Nat)(C:Ctx)(code:ACode)(e:LpE):Prop:=
 ∀x y,e.F x=some y-> ∀s,e.g.fill x=some s-> ∀q b st,VS Fr H0 (kb,q) b s st->Sat C code (fun ex st'=> ∃s',altK e.outs y (fun o z=>o.ex=ex/\o.g.fill z=some s')/\VS Fr H0 (kb,q) b s' st') st
def LsOK(Fr:Nat->Prop)(H0:Heap)(C:Ctx)(T:Tabs):VCode->Prop
 | .seq a b=>LsOK Fr H0 C T a/\LsOK Fr H0 C T b
 | .cond _ a b=>LsOK Fr H0 C T a/\LsOK Fr H0 C T b
 | .blk _ b=>LsOK Fr H0 C T b
 | .fz _ b=>LsOK Fr H0 C T b
 | .ow _ b=>LsOK Fr H0 C T b
 | .loop lid b=> ∀e,YEK lid T.ls=some e->YDx Fr H0 T.kb C (.loop b.er) e
 | .jn lid b=> ∀e,YEK lid T.ls=some e->YDx Fr H0 T.kb C b.er e
 |_=>True
theorem Ykq: ∀(os:List Out1) (y:Alt os),∃(o:Out1) (z:o.g.c.den),∀{γ:Type} (k:(o:Out1)->o.g.c.den->γ),altK os y k=k o z
 | [o],y=>⟨o,y,fun k=>rfl⟩
 |o::o'::r,.inl x=>⟨o,x,fun k=>rfl⟩
 |o::o'::r,.inr z=>by
  obtain⟨o1,z1,h⟩:=Ykq (o'::r) z
  exact⟨o1,z1,fun k=>h k⟩
 | [],y=>nomatch y
theorem Ykr{lid b:Nat}{s:VSt}{K:Ex->VSt->Option β}{st:ASt}{code:ACode}{q:Nat->Option Nat}(h:vsub T lid s K=some r)(hs:VS Fr H0 (T.kb,q) b s st)(hl: ∀e,YEK lid T.ls=some e->YDx Fr H0 T.kb C code e)
  {Q:Ex->ASt->Prop} (hk: ∀e s' st',K e s'=some r->VS Fr H0 (T.kb,q) b s' st'->Q e st'):Sat C code Q st:=by
 unfold vsub at h
 split at h
 ·rename_i e he
  cases hkp:YDZ T.kb e.g.ts (ownV e.own s)with
  |mk vs X=>
   rw[hkp]at h
   simp only at h
   split at h
   ·rename_i x hx
    cases hy:e.F x with
    |none=>simp_all
    |some y=>
     obtain⟨hb,hkb,pl,h1,h2,hpk⟩:=hs
     obtain⟨st1,pl1,k1,k2,k3,k4,k8,k9⟩:=YaH (ws:=e.own) hb h1 h2
     obtain⟨pl2,k5,k6,k7,k10⟩:=YcH (env:=(ownV e.own s).env) (X:=(ownV e.own s).heap) k3 k4 (YIv hkb k8) hkp
     refine Sat.wk k1 ((hl e he x y hy _ (YaD hx) q b st1 ⟨k2,k7,pl2,k5,k6,fun i hi z hz=>hpk i hi z (k9 i (YIx hi hkb) z (k10 i hi z hz))⟩).mono (fun ex st' hq=> ?_))
     obtain⟨s',g1,g2⟩:=hq
     obtain⟨o,z,hpk⟩:=Ykq e.outs y
     grind
   trivial
 trivial
theorem frzV_ok'{b:Nat}{p0:Nat× (Nat->Option Nat)}{ts:List Nat}{s:VSt}{st:ASt}(hFr:FrOK Fr H0)(hnh:YER s.heap=true)(hs:VS Fr H0 p0 b s st): ∃st',Wk st st'/\VS Fr H0 p0 b (frzV ts s) st':=by
 obtain⟨env,X⟩:=s
 obtain⟨ae,H,b0⟩:=st
 obtain⟨hb,hkb,pl,h1,h2,hpk⟩:=hs
 have hF: ∀a∈ (ts.flatMap (YGr ⟨env,X⟩)),YEs X a=true:=by
  intro a ha
  obtain⟨t,_,ha⟩:=List.mem_flatMap.1 ha
  unfold YGr at ha
  cases hb:YIt t 1000000 with
  |true=>
   unfold YGa at ha
   grind
  |false=>
   grind
 obtain⟨ae',H',k1,k2,k3⟩:=Yr5 (b:=b0) hFr h1 h2 hF (fun{a c v h l} ho=>by
  have: ∀{X:YCX} {a:Nat},YER X=true->vget X a=some (.fm c v h l)->h=none:=by
   intro X
   induction X with
   |nil=>intro a _ h;cases h
   |cons o X ih=>
    intro a hn hg
    simp only[YER,List.all_cons,YIK]at hn
    cases a with
    |zero=>
     subst hg
     cases h with
     |none=>rfl
     |some i=>grind
    |succ a=>exact ih hn.2 hg
  grind)
 refine⟨⟨ae',H',b0⟩,k1,hb,?_,_,k2,k3,fun i hi x hx=>hpk i hi x ?_⟩
 ·show p0.1<=(frzX X _).length
  rw[Yba];omega
 ·unfold plF at hx
  simp_all
theorem YaA(hT:TOK T C)(hfr:FrOK Fr H0){b:Nat}{q:Nat->Option Nat}: ∀{code:VCode} {s:VSt} {K:Ex->VSt->Option β} {st:ASt},ev T code s K=some r->LsOK Fr H0 C T code->VS Fr H0 (T.kb,q) b s st-> ∀{Q:Ex->ASt->Prop},
  (∀e s' st',K e s'=some r->VS Fr H0 (T.kb,q) b s' st'->Q e st')->Sat C code.er Q st
 | .bad,s,K,st,h,_,hs,Q,hk=>by cases h
 | .skip,s,K,st,h,_,hs,Q,hk=>Yi7 (hk _ _ _ h hs)
 | .exit id,s,K,st,h,_,hs,Q,hk=>YqW (hk _ _ _ h hs)
 | .ret,s,K,st,h,_,hs,Q,hk=>Yfz (hk _ _ _ h hs)
 | .reg ops,s,K,st,h,_,hs,Q,hk=>by
   obtain⟨m0,k1,k2⟩:=hs.rs []
   exact Yfy k1 (Ygb hT hfr h k2 (fun s' st' h1 h2=>hk _ _ _ h1 h2.vs))
 | .regN ns ops,s,K,st,h,hl,hs,Q,hk=>by
   obtain⟨m0,k1,k2⟩:=hs.rs (ns.flatMap (YGK s)++YEt s.heap 0)
   exact Yfy k1 (Ygb hT hfr h k2 (fun s' st' h1 h2=>hk _ _ _ h1 h2.vs))
 | .seq x y,s,K,st,h,hl,hs,Q,hk=>by
   simp only[ev]at h
   refine Ya7 (YaA hT hfr h hl.1 hs (fun e s' st' h1 h2=> ?_))
   cases e with
   |nor=>exact YaA hT hfr h1 hl.2 h2 hk
   |exit id=>exact hk _ _ _ h1 h2
   |ret=>exact hk _ _ _ h1 h2
 | .cond c x y,s,K,st,h,hl,hs,Q,hk=>by
   simp only[ev]at h
   obtain⟨hb,hkb,pl,he,hr,hpk⟩:=hs
   have hc:=Yau he c
   split at h
   ·rename_i t ht
    rw[ht]at hc
    have hv:opd st.env c.er= .v (.bool t):=by
     generalize opd st.env c.er=a at hc⊢
     cases hc;rfl
    have hs': ∀t,VS Fr H0 (T.kb,q) b (refV s c t) (YDQ st c.er t)\/vo s.env c≠ .b t:=by
     intro t'
     by_cases e:t'=t
     ·subst e
      left
      cases c with
      |t g=>exact⟨hb,hkb,pl,Ybl (d:=some g) he (.b t'),hr,hpk⟩
      |c k=>exact⟨hb,hkb,pl,he,hr,hpk⟩
     grind
    refine Yi9 (b:=t) hv (fun e=> ?_) (fun e=> ?_)
    ·subst e;exact YaA hT hfr h hl.1 ((hs' true).resolve_right (fun hn=>hn ht)) hk
    ·subst e;exact YaA hT hfr h hl.2 ((hs' false).resolve_right (fun hn=>hn ht)) hk
   trivial
 | .blk id x,s,K,st,h,hl,hs,Q,hk=>by
   simp only[ev]at h
   refine Yja (YaA hT hfr h hl hs (fun e s' st' h1 h2=> ?_))
   cases e with
   |nor=>exact hk _ _ _ h1 h2
   |ret=>exact hk _ _ _ h1 h2
   |exit id'=>
    simp only[Ex.blk]
    have e0:(id'==id)=YIq id' id:=by rw[YIN,beq_iff_eq,Nat.beq_eq]
    grind
 | .loop lid x,s,K,st,h,hl,hs,Q,hk=>by
   exact Ykr h hs hl hk
 | .jn lid x,s,K,st,h,hl,hs,Q,hk=>by
   exact Ykr h hs hl hk
 | .fz ts x,s,K,st,h,hl,hs,Q,hk=>by
   obtain⟨h1,h2⟩:=Yab h
   obtain⟨st',k1,k2⟩:=frzV_ok' (ts:=ts) hfr h1 hs
   exact Sat.wk k1 (YaA hT hfr h2 hl k2 hk)
 | .ow ws x,s,K,st,h,hl,hs,Q,hk=>by
   simp only[ev]at h
   obtain⟨hb,hkb,pl,h1,h2,hpk⟩:=hs
   obtain⟨st1,pl1,k1,k2,k3,k4,k8,k9⟩:=YaH (ws:=ws) hb h1 h2
   exact Sat.wk k1 (YaA hT hfr h hl ⟨k2,YIv hkb k8,pl1,k3,k4,fun i hi z hz=>hpk i hi z (k9 i (YIx hi hkb) z hz)⟩ hk)
theorem Yks{e:Ex}: ∀{os:List Out1} {n m:Nat},YFJ e os n=some m-> ∃k o,m=n+k/\os[k]?=some o/\o.ex=e
 | [],n,m,h=>by cases h
 |o::r,n,m,h=>by
  simp only[YFJ]at h
  cases hq:exEq o.ex e with
  |true=>
   rw[hq,cond_true]at h;injection h with h;subst h
   refine⟨0,o,rfl,rfl,?_⟩
   cases h1:o.ex<;>cases h2:e<;>rw[h1,h2]at hq<;>first|rfl|cases hq|skip
   exact congrArg _ (YIu hq)
  |false=>
   rw[hq,cond_false]at h
   obtain⟨k,o',h1,h2,h3⟩:=Yks h
   exact⟨k+1,o',by omega,h2,h3⟩
theorem Ykt: ∀{os:List Out1} {n:Nat} {f:(o:Out1)->Option o.g.c.den} {y:Alt os} {o:Out1},YE9 os n f=some y->os[n]?=some o-> ∃z,f o=some z/\ ∀{γ:Type} (k:(o:Out1)->o.g.c.den->γ),altK os y k=k o z
 | [],n,f,y,o,h,_=>by cases h
 | [o1],0,f,y,o,h,ho=>by
   injection ho with ho;subst ho
   exact⟨y,h,fun k=>rfl⟩
 |o1::o2::r,0,f,y,o,h,ho=>by
  injection ho with ho;subst ho
  simp only[YE9]at h
  split at h
  ·rename_i x hx;injection h with h;subst h;exact⟨x,hx,fun k=>rfl⟩
  trivial
 | [_],n+1,f,y,o,h,_=>by cases h
 |o1::o2::r,n+1,f,y,o,h,ho=>by
  simp only[YE9]at h
  split at h
  ·rename_i z hz
   injection h with h;subst h
   obtain⟨w,h1,h2⟩:=Ykt hz (by simpa using ho)
   exact⟨w,h1,fun k=>h2 k⟩
  trivial
theorem YdX{kb:Nat}{q:Nat->Option Nat}{outs:List Out1}{e:Ex}{s:VSt}{y:Alt outs}{b:Nat}{st:ASt}(h:outK kb outs e s=some y)(hs:VS Fr H0 (kb,q) b s st): ∃s',altK outs y (fun o z=>o.ex=e/\o.g.fill z=some s')/\VS Fr H0 (kb,q) b s' st:=by
 unfold outK at h
 split at h
 ·rename_i n hn
  obtain⟨k,o,h1,h2,h3⟩:=Yks hn
  rw[YIw]at h1;subst h1
  obtain⟨z,h4,h5⟩:=Ykt h h2
  obtain⟨env,X⟩:=s
  obtain⟨hb,hkb,pl,he,hr,hpk⟩:=hs
  cases hkp:YDZ kb o.g.ts ⟨env,X⟩with
  |mk vs X'=>
   rw[hkp]at h4
   obtain⟨pl',k1,k2,k3,k4⟩:=YcH he hr hkb hkp
   refine⟨⟨zipE o.g.ts vs,X'⟩,?_,hb,k3,pl',k1,k2,fun i hi x hx=>hpk i hi x (k4 i hi x hx)⟩
   rw[h5];exact⟨h3,YaD h4⟩
 trivial
theorem YcN{S R:Type}{step:S->Option (S⊕R)}{s:S}{y:R}(h:YC8 step s=some y): ∃n,YDE step n s=some y:=by
 unfold YC8 at h
 split at h
 ·grind
 trivial
theorem Yso(hT:TOK T C)(hfr:FrOK Fr H0){id:Nat}{own:List (Nat×Option Nat×Bool)}{g:Sg}{outs:List Out1}{body:VCode}(hl:LsOK Fr H0 C T body){F:g.c.den->Option (Alt outs)}(hF: ∀x y,F x=some y->YC8 (YFf T own g outs body) x=some y):
  YDx Fr H0 T.kb C (.loop body.er) ⟨id,own,g,outs,F⟩:=by
 intro x y hx s hfill q b st hs
 obtain⟨n,hn⟩:=YcN (hF x y hx)
 refine Yjb (fun m t=> ∃x s,YDE (YFf T own g outs body) m x=some y/\g.fill x=some s/\VS Fr H0 (T.kb,q) b s t) ⟨n,st,⟨x,s,hn,hfill,hs⟩,.refl _⟩ ?_
 rintro m t ⟨x,s,h1,h2,h3⟩
 cases m with
 |zero=>cases h1
 |succ m=>
  simp only[YDE]at h1
  cases hst:YFf T own g outs body x with
  |none=>simp_all
  |some q=>
   rw[hst]at h1
   unfold YFf at hst
   rw[h2]at hst
   refine YaA hT hfr hst hl h3 (fun e s' st' g1 g2=> ?_)
   cases e with
   |nor=>
    cases hkp:YDZ T.kb g.ts (ownV own s')with
    |mk vs X=>
     rw[hkp]at g1
     simp only at g1
     split at g1
     ·rename_i x' hx'
      injection g1 with g1;subst g1
      obtain⟨hb,hkb,pl,he,hr,hpk⟩:=g2
      obtain⟨st1,pl1,k1,k2,k3,k4,k8,k9⟩:=YaH (ws:=own) hb he hr
      obtain⟨pl2,k5,k6,k7,k10⟩:=YcH (env:=(ownV own s').env) (X:=(ownV own s').heap) k3 k4 (YIv hkb k8) hkp
      exact⟨m,st1,⟨x',_,h1,YaD hx',k2,k7,pl2,k5,k6,fun i hi z hz=>hpk i hi z (k9 i (YIx hi hkb) z (k10 i hi z hz))⟩,by omega,k1⟩
     trivial
   |exit id'=>
    simp only at g1
    split at g1
    ·rename_i y' hy'
     injection g1 with g1;subst g1
     injection h1 with h1;subst h1
     obtain⟨s2,k1,k2⟩:=YdX hy' g2
     exact⟨s2,k1,k2⟩
    trivial
   |ret=>
    simp only at g1
    split at g1
    ·rename_i y' hy'
     injection g1 with g1;subst g1
     injection h1 with h1;subst h1
     obtain⟨s2,k1,k2⟩:=YdX hy' g2
     exact⟨s2,k1,k2⟩
    trivial
theorem Ysp(hT:TOK T C)(hfr:FrOK Fr H0){id:Nat}{own:List (Nat×Option Nat×Bool)}{g:Sg}{outs:List Out1}{body:VCode}(hl:LsOK Fr H0 C T body){F:g.c.den->Option (Alt outs)}(hF: ∀x y,F x=some y->stepJ T g outs body x=some y):
  YDx Fr H0 T.kb C body.er ⟨id,own,g,outs,F⟩:=by
 intro x y hx s hfill q b st hs
 have h1:=hF x y hx
 unfold stepJ at h1
 rw[hfill]at h1
 exact YaA hT hfr h1 hl hs (fun e s' st' g1 g2=>YdX g1 g2)
end
end Go.Abs
namespace Go.Abs
open Go Go.RowKit
section
variable{Fr:Nat->Prop}{H0:Heap}{X:YCX}{pl:Pl}{H:Heap}
theorem YdY(X:YCX): ∀l:List TV,TV.dats X l=l.map (TV.dat X)
 | []=>rfl
 |a::r=>by simp[TV.dats,YdY X r]
theorem Yku(hr:HRel Fr H0 X pl H){v:TV}{a:AV}(h:TR X pl v a):YD0 (v.dat X)=true->Out H a (avT (v.dat X)):=by
 have one: ∀{v:TV} {a:AV},TR X pl v a->v.dat X=v->YD0 (v.dat X)=true->Out H a (avT (v.dat X)):=by
  intro v a ht e hd
  rw[e]at hd⊢
  exact Ybx (Yj4 ht hd) (Yf1 v)
 have list: ∀{cs:List TV} {as:List AV},cs.length=as.length->(∀(j:Nat) (c:TV) (a:AV),cs[j]?=some c->as[j]?=some a->YD0 (c.dat X)=true->Out H a (avT (c.dat X)))->YDg (TV.dats X cs)=true->
   as.length=(avTs (TV.dats X cs)).length/\ ∀(j:Nat) (x x':AV),as[j]?=some x->(avTs (TV.dats X cs))[j]?=some x'->Out H x x':=by
  intro cs as hl h hd
  refine⟨by simp[YbH,YdY,hl],fun j x x' h1 h2=> ?_⟩
  rw[YbH,YdY,YIc,YHW,YID]at h2
  obtain⟨c,h2,rfl⟩:=h2
  refine h j c x h2 h1 (YdT hd j _ ?_)
  rw[YdY,YHW,h2];rfl
 induction h with
 |i k n=>exact one (.i k n) rfl
 |b x=>exact one (.b x) rfl
 |s x=>exact one (.s x) rfl
 |l c v a h=>exact one (.l c v a h) rfl
 |e c=>intro _;exact .empRd _
 |ref a x o n h hn hp=>
  intro hd
  simp only[TV.dat,h]at hd⊢
  cases o with
  |sq c l=>
   injection hn with hn;subst hn
   have:=YdS (Fz:=fun _=>True) (h1:=fun _=>none) hr h hp trivial (YIr _)
   rw[YH8]at this
   trivial
  |fm c ver hole l=>
   cases hole with
   |some i=>cases hd
   |none=>
    injection hn with hn;subst hn
    exact Yj2 (Fz:=fun _=>True) (h1:=fun _=>none) hr h hp (fun _ _ _ _=>trivial)
  |st cs=>cases hd
  |sb s=>
   injection hn with hn;subst hn
   exact Yj1 (Fz:=fun _=>True) (h1:=fun _=>none) hr h hp trivial
 |pre a x m o n h hn hp h0 hm=>
  intro hd
  simp only[TV.dat,h]at hd⊢
  cases o with
  |sq c l=>
   injection hn with hn;subst hn
   exact YdS (Fz:=fun _=>True) (h1:=fun _=>none) hr h hp trivial hm
  |fm c ver hole l=>cases hd
  |st cs=>cases hd
  |sb s=>cases hd
 |refD a av h ha=>intro hd;simp only[TV.dat,h]at hd;cases hd
 |preD a m av h ha=>intro hd;simp only[TV.dat,h]at hd;cases hd
 |ag cs as hl h ih=>
  intro hd
  have:=list hl ih hd
  exact .agg _ _ this.1 this.2
 |tp cs as hl h ih=>
  intro hd
  have:=list hl ih hd
  exact .tup _ _ this.1 this.2
 |clo g cs as hl h ih=>
  intro hd
  have:=list hl ih hd
  exact .clo g _ _ this.1 this.2
 |_=>intro hd;cases hd
theorem Ygc{s:VSt}{st:ASt}(he:ERel s.heap pl s.env st.env)(hr:HRel Fr H0 s.heap pl st.heap): ∀{rs:List RV} {vs:List TV},YEL s rs=some vs-> ∃as,YDY st rs as/\CT s.heap pl vs as
 | [],vs,h=>by injection h with h;subst h;exact⟨[],trivial,.nil⟩
 |r::rs,vs,h=>by
  simp only[YEL]at h
  split at h
  ·rename_i v vs' h1 h2
   injection h with h;subst h
   obtain⟨as,k1,k2⟩:=Ygc he hr h2
   cases r with
   |t n=>
    injection h1 with h1;subst h1
    exact⟨_::as,⟨rfl,k1⟩,.cons (he n) k2⟩
   |c n g sz=>
    simp only[YGL]at h1
    have hx:TR s.heap pl (YDa s.env n) (opd st.env (.t n)):=he n
    have key: ∃va,evG (.load g sz (.t n)) st.env (hf st.heap) 0 (fun v' _=>v'=va)/\TR s.heap pl v va:=by
     have:=YjB (KA:=fun va=>TR s.heap pl v va) h1 hx hr (fun w wa e1 e2=>by simp_all)
     have hev:evG (.load g sz (.t n)) st.env (hf st.heap) 0 (fun va _=>TR s.heap pl v va):=this
     obtain⟨va,us,g1,g2⟩:=YiK _ _ _ _ _ hev
     refine⟨va,?_,g1⟩
     simp only[evG,opK]at g2⊢
     revert g2
     generalize opd st.env (.t n)=p
     intro g2
     have lm: ∀{cs:List AV},YDD g sz cs (fun a=>a=va/\ ([]:List Upd)=us)->YDD g sz cs (fun a=>a=va):=fun h=>by
      cases g with
      |true=>exact⟨h.1,h.2.1⟩
      |false=>obtain⟨c,h1,h2,_⟩:=h;exact⟨c,h1,h2⟩
     split at g2<;>first|exact lm g2|skip
     ·obtain⟨o,ho,e,he',hl⟩:=g2;exact⟨o,ho,e,he',lm hl⟩
     trivial
    obtain⟨va,g1,g2⟩:=key
    exact⟨va::as,⟨g1,k1⟩,.cons g2 k2⟩
  trivial
theorem Ykv{vs:List TV}{as:List AV}(h:CT X pl vs as):TR X pl (tupV vs) (tupR as):=by
 match vs,as,h with
 | [],as,h=>
   have:=h.1
   cases as with
   |nil=>exact .tp _ _ rfl (fun j c a h=>by simp)
   |cons _ _=>trivial
 | [v],as,h=>
   obtain⟨a,r,rfl,h1,h2⟩:=h.inv
   have:=h2.1
   cases r with
   |nil=>exact h1
   |cons _ _=>trivial
 |v::w::r,as,h=>
  have hl:=h.1
  match as,hl with
  |a::b::r',_=>exact .tp _ _ h.1 h.2
theorem Ykw: ∀(i:Nat) (vs:List TV),YDg vs=true->ERel X pl (zipE (List.range' i vs.length) vs) (YDm i (avTs vs))
 |i,[],_=>fun t=>.u _
 |i,v::vs,h=>by
  simp only[YDg,YIK]at h
  intro t
  simp only[YId,List.range'_succ,zipE,avTs,YDm,YDa,YC1]
  have e0:(i==t)=YIq i t:=by rw[YIN,beq_iff_eq,Nat.beq_eq]
  rw[e0]
  cases YIq i t with
  |true=>exact Yf3 v h.1
  |false=>exact Ykw (i+1) vs h.2 t
theorem Ykx(k:Nat):HRel (fun _=>False) [] [] (fun _=>none) (Z k []):=
 ⟨fun a o h=>(by cases h),fun p q x h=>(by cases h),fun p x h=>(by cases h),fun x h=>h.elim,fun p x h=>(by cases h),YIz _⟩
theorem YbI: ∀{vs:List TV} {svs:List SV},TV.shs vs=some svs->svs.length=vs.length
 | [],svs,h=>by simp only[TV.shs]at h;simp_all
 |a::vs,svs,h=>by
  simp only[TV.shs]at h
  split at h
  ·rename_i x xs h1 h2;injection h with h;subst h;simp[YbI h2]
  trivial
theorem Ysq(vs:List TV):(avTs vs).length=vs.length:=by simp[YbH]
theorem Ysr{sv:SV}{c:Cs}{v:TV}{y:c.den}(h:YFK sv c v=some y):YC4 sv (unp c y)=some (v,[]):=by
 unfold YFK at h
 split at h
 ·rename_i sv' hs
  obtain⟨h1,h2⟩:=Yab h
  have e1:=SV.eq_of h1
  have hu:=YdN v.lv
  generalize YDL v.lv=p at h2 hu
  obtain⟨c',z⟩:=p
  obtain⟨e,he⟩:=Cs.cast_some h2
  have hx:unp c y=v.lv:=by
   grind
  have:=YfU [] hs
  simp_all
 trivial
def YDe(P:Program)(fm:FM)(T:Tabs):Prop:= ∃C:Ctx,CtxOK P fm C/\TOK T C
theorem Yss(P:Program)(fm:FM)(pf:Nat->Bool)(ls:List LpE):YDe P fm ⟨pf,[],ls,0⟩:=
 ⟨YGH pf [],Yq4 P fm pf,⟨rfl,fun e h=>by cases h⟩,fun e h=>by cases h⟩
def YDv(C:Ctx)(g:Nat)(R:YDh):Ctx:=⟨fun h args H r H'=>C.C h args H r H'\/(h=g/\R args H r H'),C.pf⟩
theorem YaI{P:Program}{fm:FM}{C:Ctx}{g:Nat}{R:YDh}(h:CtxOK P fm C)(hp:C.pf g=true->Pure R)(hf: ∀f,fm f=g->FOK P fm f R):CtxOK P fm (YDv C g R):=by
 refine⟨fun f args H r H' hc=> ?_,fun f args H r H' hp' hc=> ?_,fun f args r n hp' hc=> ?_⟩
 ·rcases hc with hc| ⟨e,hc⟩
  ·exact h.ok f args H r H' hc
  ·exact hf f e args H r H' hc
 ·rcases hc with hc| ⟨e,hc⟩
  ·exact h.nr f args H r H' hp' hc
  ·exact(hp (e▸hp')).nr _ _ _ _ hc
 ·rcases hc with hc| ⟨e,hc⟩
  ·exact .inl (h.any f args r n hp' hc)
  ·exact .inr ⟨e,(hp (e▸hp')).any _ _ _ hc⟩
theorem Ybc{T:Tabs}{C:Ctx}(h:TOK T C){e:FnE}{R:YDh}(hR:T.pf e.g=true-> ∀args r,e.R args r->R args [] r [])(hI:T.pf e.g=false-> ∀args H r H',e.RI args H r H'->R args H r H'):TOK ⟨T.pf,e::T.fs,T.ls,0⟩ (YDv C e.g R):=by
 refine⟨⟨h.p.pf,fun e' he' hp args r hr=> ?_⟩,fun e' he' hp args H r H' hr=> ?_⟩
 ·rcases YH1.1 he' with rfl|he'
  ·exact .inr ⟨rfl,hR hp _ _ hr⟩
  ·exact .inl (h.p.fn e' he' hp args r hr)
 ·rcases YH1.1 he' with rfl|he'
  ·exact .inr ⟨rfl,hI hp _ _ _ _ hr⟩
  ·exact .inl (h.fnI e' he' hp args H r H' hr)
theorem Yst{e:FnE}{args:List AV}{r:AV}(hr:e.R args r):YDR e.R args [] r []:=by
 refine⟨0,rfl,rfl,?_,?_,hr⟩
 ·obtain⟨x,y,vs,v,h1,h2,h3,rfl,h5,h6,rfl⟩:=hr
  exact fun a ha=>Yb0 vs a ha
 ·obtain⟨x,y,vs,v,h1,h2,h3,rfl,h5,h6,rfl⟩:=hr
  exact Yf1 v
theorem YcO{T:Tabs}{C:Ctx}(h:TOK T C){e:FnE}(hp:T.pf e.g=true):TOK ⟨T.pf,e::T.fs,T.ls,0⟩ (YDv C e.g (YDR e.R)):=
 Ybc h (fun _ _ _ hr=>Yst hr) (fun hq=>by simp_all)
theorem Yky{P:Program}{fm:FM}{T:Tabs}{C:Ctx}(hC:CtxOK P fm C)(hT:TOK T C)(hm:P.follows .mixedOrders=true){e:FnE}{F:VFn}{f:FuncId}
  (htie:fnTr P fm T.pf f=some (F.slots,F.res,F.code.er)) (h4:F.res.length<=4) (hts:e.args.ts=List.range' 0 e.args.vs.length) (hsl:e.args.vs.length<=F.slots)
  (hkb:T.kb=0) (hl:LsOK (fun _=>False) [] C T F.code) (hF: ∀x y,e.F x=some y->evP T F e.args e.res e.co x=some y):FOK P fm f (YDR e.R):=by
 refine Yjj hC hm (by rw[hT.p.pf];exact htie) h4 ?_
 rintro args r ⟨x,y,vs,v,h1,h2,h3,rfl,h5,h6,rfl⟩
 have hlen:e.args.vs.length=vs.length:=by
  unfold Sg.read at h2
  split at h2
  ·rename_i svs sos k1 k2
   obtain⟨e1,_⟩:=Yab h2
   simp at e1
   rw[<-SV.eqs_of e1.1,YbI k1]
  trivial
 refine⟨by rw[Ysq,<-hlen];omega,fun k=> ?_⟩
 have hev:=hF x y h1
 unfold evP at hev
 rw[YaD h2]at hev
 have hvs:VS (fun _=>False) [] (T.kb,fun _=>none) k ⟨zipE e.args.ts vs,[]⟩ ⟨YDm 0 (avTs vs),Z k [],k⟩:=by
  refine⟨rfl,by omega,fun _=>none,?_,Ykx k,fun i hi x hx=>by cases hx⟩
  rw[hts,hlen];exact Ykw 0 vs h3
 refine YaA hT frNo hev hl hvs (fun ex s' st' g1 g2=> ?_)
 have post:(match YEL s' F.res with|some vs=>YFK e.res e.co ((tupV vs).dat s'.heap)|none=>none)=some y->st'.base=k/\ ∃vs,YDY st' F.res vs/\Out st'.heap (tupR vs) (avT v):=by
  intro g1
  split at g1
  ·rename_i ws hws
   obtain⟨hb,_,pl,he,hr,_⟩:=g2
   obtain⟨as,k1,k2⟩:=Ygc he hr hws
   have hfill:=Ysr g1
   rw[h5]at hfill
   injection hfill with hfill;injection hfill with hfill _
   refine⟨hb,as,k1,?_⟩
   rw[hfill]
   exact Yku hr (Ykv k2) (by simp_all)
  trivial
 cases ex with
 |exit id=>cases g1
 |nor=>exact post g1
 |ret=>exact post g1
theorem Ysu{P:Program}{fm:FM}{T:Tabs}(hS:YDe P fm T)(hm:P.follows .mixedOrders=true)(L:List LpE)(e:FnE)(hp:T.pf e.g=true)(F:VFn)
  (htie: ∀f,fm f=e.g->fnTr P fm T.pf f=some (F.slots,F.res,F.code.er)) (h4:F.res.length<=4) (hts:e.args.ts=List.range' 0 e.args.vs.length) (hsl:e.args.vs.length<=F.slots)
  (hl: ∀C,TOK ⟨T.pf,T.fs,L,0⟩ C->LsOK (fun _=>False) [] C ⟨T.pf,T.fs,L,0⟩ F.code) (hF: ∀x y,e.F x=some y->evP ⟨T.pf,T.fs,L,0⟩ F e.args e.res e.co x=some y):YDe P fm ⟨T.pf,e::T.fs,T.ls,0⟩:=by
 obtain⟨C,hC,hT⟩:=hS
 have hT':TOK ⟨T.pf,T.fs,L,0⟩ C:=⟨⟨hT.p.pf,hT.p.fn⟩,hT.fnI⟩
 exact⟨YDv C e.g (YDR e.R),YaI hC (fun _=>Yct _) (fun f hf=>Yky hC hT' hm (htie f hf) h4 hts hsl rfl (hl C hT') hF),YcO hT hp⟩
theorem Ysv{P:Program}{fm:FM}{T:Tabs}(hS:YDe P fm T)(hm:P.follows .mixedOrders=true)(e:FnE)(hp:T.pf e.g=true)(Fn:Nat->e.args.c.den->Option e.co.den)(L:Nat->List LpE)(F:VFn)
  (htie: ∀f,fm f=e.g->fnTr P fm T.pf f=some (F.slots,F.res,F.code.er)) (h4:F.res.length<=4) (hts:e.args.ts=List.range' 0 e.args.vs.length) (hsl:e.args.vs.length<=F.slots)
  (h0: ∀x,Fn 0 x=none) (hlim: ∀x y,e.F x=some y-> ∃n,Fn n x=some y)
  (hl: ∀n C,TOK ⟨T.pf,⟨e.g,e.pf,e.args,e.res,e.os,e.co,Fn n⟩::T.fs,L n,0⟩ C->LsOK (fun _=>False) [] C ⟨T.pf,⟨e.g,e.pf,e.args,e.res,e.os,e.co,Fn n⟩::T.fs,L n,0⟩ F.code)
  (hF: ∀n x y,Fn (n+1) x=some y->evP ⟨T.pf,⟨e.g,e.pf,e.args,e.res,e.os,e.co,Fn n⟩::T.fs,L n,0⟩ F e.args e.res e.co x=some y):YDe P fm ⟨T.pf,e::T.fs,T.ls,0⟩:=by
 obtain⟨C,hC,hT⟩:=hS
 have step: ∀n f,fm f=e.g->FOK P fm f (YDR (FnE.R ⟨e.g,e.pf,e.args,e.res,e.os,e.co,Fn n⟩)):=by
  intro n
  induction n with
  |zero=>
   intro f _ args H r H' hc
   obtain⟨_,_,_,_,_,x,y,vs,v,h1,_⟩:=hc
   simp_all
  |succ n ih=>
   intro f hf
   have hC':=YaI hC (fun _=>Yct _) ih
   have hT':=YcO hT (e:=⟨e.g,e.pf,e.args,e.res,e.os,e.co,Fn n⟩) hp
   have hT2:TOK ⟨T.pf,⟨e.g,e.pf,e.args,e.res,e.os,e.co,Fn n⟩::T.fs,L n,0⟩ _:=⟨⟨hT'.p.pf,hT'.p.fn⟩,hT'.fnI⟩
   exact Yky (e:=⟨e.g,e.pf,e.args,e.res,e.os,e.co,Fn (n+1)⟩) hC' hT2 hm (htie f hf) h4 hts hsl rfl (hl n _ hT2) (hF n)
 refine⟨YDv C e.g (YDR e.R),YaI hC (fun _=>Yct _) (fun f hf args H r H' hc=> ?_),YcO hT hp⟩
 obtain⟨k,k1,k2,k3,k4,x,y,vs,v,h1,h2⟩:=hc
 obtain⟨n,hn⟩:=hlim x y h1
 exact step n f hf args H r H' ⟨k,k1,k2,k3,k4,x,y,vs,v,hn,h2⟩
theorem Ysw{P:Program}{fm:FM}{T:Tabs}(hS:YDe P fm T){e:FnE}(he:e∈T.fs)(hp:T.pf e.g=true){f:FuncId}(hf:fm f=e.g){args:List AV}{r:AV}(h:e.R args r){W:World}{vals:Array Value}(hsz:vals.size=args.length)
  (hv: ∀j a,args[j]?=some a->VR fm W YDy (vals.getD j undef) a):Calls P f vals W fun ex W'=> ∃v,ex= .returned v/\Keep YDy W W'/\ ∃L',VR fm W' L' v r:=by
 obtain⟨C,hC,hT⟩:=hS
 have h1:=hT.p.fn e he hp args r h
 rw[<-hf]at h1
 obtain⟨_,h2⟩:=hC.ok f args [] r [] h1
 refine(h2 W YDy vals (Yq6 fm W) hsz hv).mono ?_
 grind
end
end Go.Abs
namespace Go.Abs
open Go Go.RowKit
theorem Ysx{sv:SV}{os:List SO}{c:Cs}{v:TV}{X:YCX}{y:c.den}(h:YFL sv os c v X=some y):YC4 sv (unp c y)=some (v,lvOs X)/\YC9 os (lvOs X)=some (X,[]):=by
 unfold YFL at h
 split at h
 ·rename_i sv' os' h1 h2
  obtain⟨e1,e2⟩:=Yab h
  simp at e1
  have q1:=SV.eq_of e1.1;have q2:=SO.eqs_of e1.2
  have hu:=YdN (v.lv++lvOs X)
  generalize YDL (v.lv++lvOs X)=p at e2 hu
  obtain⟨c',z⟩:=p
  obtain⟨e,he⟩:=Cs.cast_some e2
  have hx:unp c y=v.lv++lvOs X:=by
   grind
  subst q1;subst q2
  refine⟨by rw[hx];exact YfU _ h1,?_⟩
  have:=YdM [] h2
  simp_all
 trivial
section
variable{Fr:Nat->Prop}{H0:Heap}{X:YCX}{pl:Pl}{H:Heap}
theorem Ykz: ∀(i:Nat) (vs:List TV) (as:List AV),CT X pl vs as->ERel X pl (zipE (List.range' i vs.length) vs) (YDm i as)
 |i,[],as,_=>fun t=>.u _
 |i,v::vs,as,h=>by
  obtain⟨a,r,rfl,h1,h2⟩:=h.inv
  intro t
  simp only[YId,List.range'_succ,zipE,YDm,YDa,YC1]
  have e0:(i==t)=YIq i t:=by rw[YIN,beq_iff_eq,Nat.beq_eq]
  rw[e0]
  cases YIq i t with
  |true=>exact h1
  |false=>exact Ykz (i+1) vs r h2 t
theorem YkA{m:List Nat}{q:Pl}{ρ:Nat->Nat}{H':HF}{X2:YCX}
  (look: ∀{b i o},idxV m b 0=some i->vget X b=some o-> ∀{x},pl (.m b)=some x->vget X2 i=some (o.ren fun a=>idxV m a 0)/\ ∃z,q (.m i)=some z/\ρ z=x/\ ∃o',H' z=some (some o'))
  (dead: ∀{b i},idxV m b 0=some i->vget X b=none->vget X2 i=none) {tv:TV} {av:AV} (h:TR X pl tv av):
  wfT X2 (tv.ren fun a=>idxV m a 0)=true->Cz ρ (fun _=>False) (hf H) H' av (encT X2 q (tv.ren fun a=>idxV m a 0)):=by
 have hn: ∀(o:VObj),lenO (o.ren fun a=>idxV m a 0)=lenO o/\elN (o.ren fun a=>idxV m a 0)=elN o:=fun o=>by cases o<;>exact⟨rfl,rfl⟩
 have list: ∀{cs:List TV} {as:List AV},cs.length=as.length->(∀(j:Nat) (c:TV) (a:AV),cs[j]?=some c->as[j]?=some a->wfT X2 (c.ren fun a=>idxV m a 0)=true->Cz ρ (fun _=>False) (hf H) H' a (encT X2 q (c.ren fun a=>idxV m a 0)))->wfTs X2 (TV.rens (fun a=>idxV m a 0) cs)=true->
   as.length=(YD9 X2 q (TV.rens (fun a=>idxV m a 0) cs)).length/\ ∀(j:Nat) (x x':AV),as[j]?=some x->(YD9 X2 q (TV.rens (fun a=>idxV m a 0) cs))[j]?=some x'->Cz ρ (fun _=>False) (hf H) H' x x':=by
  intro cs as hl h hd
  refine⟨by simp[Yf5,Yaq,hl],fun j x x' h1 h2=> ?_⟩
  rw[Yf5,Yaq,YIc,YHW,YID]at h2
  obtain⟨c,h2,rfl⟩:=h2
  refine h j c x h2 h1 ?_
  have wf: ∀{l:List TV} {j:Nat} {c:TV},wfTs X2 l=true->l[j]?=some c->wfT X2 c=true:=by
   intro l
   induction l with
   |nil=>simp
   |cons a l ih=>
    intro j c hw hj
    simp only[wfTs,YIK]at hw
    grind
  refine wf hd (j:=j) ?_
  rw[Yaq,YHW,h2];rfl
 induction h with
 |i k n=>intro _;exact .v _
 |b x=>intro _;exact .v _
 |s x=>intro _;exact .v _
 |l c v a h=>intro _;exact Ybx h (Ycv (.l c) v)
 |e c=>intro hw;exact .emp
 |u a=>intro _;exact .u _
 |v x=>intro _;exact .u _
 |nl=>intro _;exact .v _
 |ref a x o n h hl hp=>
  intro hw
  simp only[TV.ren]at hw⊢
  split
  ·rename_i i hi
   obtain⟨h1,z,h2,rfl,o',h3⟩:=look hi h hp
   have hs:seqN X2 i=n:=by simp only[seqN,h1,(hn o).1,hl,YIH]
   simp only[encT,h2,hs]
   exact .ref z 0 n o' h3
  ·exact .u _
 |refD a av h ha=>
  intro hw
  simp only[TV.ren]at hw⊢
  split
  ·rename_i i hi
   simp only[hi,wfT,dead hi h]at hw;cases hw
  ·exact .u _
 |pre a x k o n h hl hp h0 hm=>
  intro hw
  simp only[TV.ren]at hw⊢
  split
  ·rename_i i hi;simp only[hi,wfT]at hw;cases hw
  ·exact .u _
 |preD a k av h ha=>
  intro hw
  simp only[TV.ren]at hw⊢
  split
  ·rename_i i hi;simp only[hi,wfT]at hw;cases hw
  ·exact .u _
 |ptr a i j x o h hi hp=>
  intro hw
  simp only[TV.ren]at hw⊢
  split
  ·rename_i b hb
   obtain⟨h1,z,h2,rfl,o',h3⟩:=look hb h hp
   simp only[encT,h2]
   exact .ptr z i j o' h3
  ·exact .u _
 |ptrD a i j av h ha=>
  intro hw
  simp only[TV.ren]at hw⊢
  split
  ·rename_i b hb
   simp only[hb,wfT,dead hb h,Bool.and_false]at hw;cases hw
  ·exact .u _
 |np a x o h hp=>
  intro hw
  simp only[TV.ren]at hw⊢
  split
  ·rename_i b hb
   obtain⟨h1,z,h2,rfl,o',h3⟩:=look hb h hp
   simp only[encT,h2]
   exact .np z o' h3
  ·exact .u _
 |npD a av h ha=>
  intro hw
  simp only[TV.ren]at hw⊢
  split
  ·rename_i b hb
   simp only[hb,wfT,dead hb h]at hw;cases hw
  ·exact .u _
 |ag cs as hl h ih=>
  intro hw
  have:=list hl ih hw
  exact .agg _ _ this.1 this.2
 |tp cs as hl h ih=>
  intro hw
  have:=list hl ih hw
  exact .tup _ _ this.1 this.2
 |clo g cs as hl h ih=>
  intro hw
  have:=list hl ih hw
  exact .clo g _ _ this.1 this.2
 |_=>intro _;exact .u _
theorem Ygd: ∀{X:YCX} {so:List SO},shOs X=some so->so.length=X.length
 | [],so,h=>by simp only[shOs]at h;simp_all
 |none::X,so,h=>by
  simp only[shOs]at h
  split at h
  ·rename_i xs h2;injection h with h;subst h;simp[Ygd h2]
  trivial
 |some o::X,so,h=>by
  simp only[shOs]at h
  split at h
  ·rename_i x xs h1 h2;injection h with h;subst h;simp[Ygd h2]
  trivial
theorem getElem?_pre{l m:List Nat}(h:l<+:m){i:Nat}(hi:i<l.length):m[i]?=l[i]?:=by
 obtain⟨r,rfl⟩:=h
 grind
theorem Yb2{Kp:Nat->Prop}{Xs:YCX}{pls:Pl}{Xh:YCX}{ph:Pl}{s:ASt}{v:TV}{a:AV}{m:List Nat}(hrs:HRel Kp H Xs pls H)(hfr:FrOK Kp H)(hr:HRel Kp H Xh ph s.heap)(hb:s.base=H.length)(hk:Xs.length<=Xh.length)
  (hpk: ∀i,i<Xs.length-> ∀x,ph (.m i)=some x->pls (.m i)=some x) (hnd:m.Nodup) (hpre:List.range Xs.length<+:m) (ht:TR Xh ph v a)
  (hw:wfT (renX Xh m) (v.ren fun a=>idxV m a 0)=true) (hX:wfX (renX Xh m) (renX Xh m)=true):
  Fin s a (encT (renX Xh m) (plI pls Xs.length H.length (renX Xh m)) (v.ren fun a=>idxV m a 0)) (YDt Kp H Xs.length (renX Xh m) (plI pls Xs.length H.length (renX Xh m))):=by
 have hlm:Xs.length<=m.length:=by simpa using hpre.length_le
 have hlX:(renX Xh m).length=m.length:=by simp[renX]
 have hlen:Xs.length<=(renX Xh m).length:=by omega
 let ρ:Nat->Nat:=fun z=>if z<H.length then z else match m[Xs.length+(z-H.length)]? with|some b=>(ph (.m b)).getD z|none=>z
 have hlow: ∀z,z<H.length->ρ z=z:=fun z hz=>by simp only[ρ,if_pos hz]
 have hm1: ∀{i},i<Xs.length->m[i]?=some i:=fun{i} hi=>by
  rw[getElem?_pre hpre (by simpa using hi),YIo hi]
 have src: ∀{i o},vget (renX Xh m) i=some o-> ∃b ob x,m[i]?=some b/\vget Xh b=some ob/\o=ob.ren (fun a=>idxV m a 0)/\ph (.m b)=some x/\ ∃z,plI pls Xs.length H.length (renX Xh m) (.m i)=some z/\ρ z=x:=by
  intro i o ho
  have ho':=ho
  rw[YdP]at ho'
  cases hb:m[i]? with
  |none=>rw[hb]at ho';cases ho'
  |some b=>
   rw[hb]at ho'
   simp at ho'
   obtain⟨ob,hob,rfl⟩:=ho'
   obtain⟨x,hx⟩:=YGc hr hob
   refine⟨b,ob,x,rfl,hob,rfl,hx,?_⟩
   by_cases hi:i<Xs.length
   ·have:=hm1 hi;rw[hb]at this;injection this with this;subst this
    have hz:=hpk b hi x hx
    exact⟨x,by simp only[plI,ho,if_pos hi];exact hz,hlow x (hrs.bd hz)⟩
   ·refine⟨H.length+(i-Xs.length),by simp only[plI,ho,if_neg hi],?_⟩
    simp only[ρ]
    rw[if_neg (by omega),show Xs.length+(H.length+(i-Xs.length)-H.length)=i by omega,hb]
    simp only[hx,YIH]
 have hat:=fun{i x:Nat}=>Yj9 (Xs:=Xs) hrs hlen (i:=i) (x:=x)
 have hkp:=fun{x:Nat}=>Yf7 (Xs:=Xs) hrs (X2:=renX Xh m) (x:=x)
 have hqi:=fun{p q:Pos} {x:Nat}=>Yf6 (Xs:=Xs) hrs (X2:=renX Xh m) (p:=p) (q:=q) (x:=x)
 have hqv: ∀{i x},plI pls Xs.length H.length (renX Xh m) (.m i)=some x-> ∃o,vget (renX Xh m) i=some o:=by
  intro i x h
  simp only[plI]at h
  split at h
  ·exact⟨_,by assumption⟩
  ·cases h
 have hHl:=YdU Kp H Xs.length (renX Xh m) (plI pls Xs.length H.length (renX Xh m))
 have hinv:=fun{x:Nat} {o:AObj}=>Yr8 (Kp:=Kp) (H:=H) (Xs:=Xs) (pls:=pls) (X2:=renX Xh m) (x:=x) (o:=o)
 generalize hH':YDt Kp H Xs.length (renX Xh m) (plI pls Xs.length H.length (renX Xh m))=H' at hat hkp hHl hinv⊢
 generalize hq:plI pls Xs.length H.length (renX Xh m)=q at hat hqi hqv hinv src⊢
 have look: ∀{b i o},idxV m b 0=some i->vget Xh b=some o-> ∀{x},ph (.m b)=some x->vget (renX Xh m) i=some (o.ren fun a=>idxV m a 0)/\ ∃z,q (.m i)=some z/\ρ z=x/\ ∃o',hf H' z=some (some o'):=by
  intro b i o hi ho x hx
  have hmi:=(YbY hi).2
  simp only[Nat.sub_zero]at hmi
  have hv:vget (renX Xh m) i=some (o.ren fun a=>idxV m a 0):=by rw[YbZ hmi,ho];rfl
  obtain⟨b',ob,x',h1,h2,h3,h4,z,h5,h6⟩:=src hv
  rw[hmi]at h1;injection h1 with h1;subst h1
  rw[hx]at h4;injection h4 with h4;subst h4
  exact⟨hv,z,h5,h6,_,hat h5⟩
 have dead: ∀{b i},idxV m b 0=some i->vget Xh b=none->vget (renX Xh m) i=none:=by
  intro b i hi ho
  have hmi:=(YbY hi).2
  simp only[Nat.sub_zero]at hmi
  rw[YbZ hmi,ho];rfl
 have keepA: ∀x,Kp x->ρ x=x/\ ∃o,hf H' x=some (some o):=fun x hx=>by
  obtain⟨⟨o,ho⟩,_⟩:=hfr x hx
  exact⟨hlow x (hrs.fr x hx).1,o,(hkp hx).trans ho⟩
 refine Yjf ρ (fun _=>False) ⟨fun a b o o' h1 h2 he=> ?_,fun a ha=>⟨hlow a (by omega),fun _=> ?_⟩,fun a o' ho=>⟨fun h=>h,?_⟩⟩ (YkA look dead ht hw)
 ·rcases hinv h1 with⟨k1,_⟩| ⟨i,k1,_⟩<;>rcases hinv h2 with⟨k2,_⟩| ⟨j,k2,_⟩
  ·rw[(keepA a k1).1,(keepA b k2).1]at he;exact he
  ·obtain⟨o2,ho2⟩:=hqv k2
   obtain⟨b',ob,x,g1,g2,g3,g4,z,g5,g6⟩:=src ho2
   rw[k2]at g5;injection g5 with g5;subst g5
   rw[(keepA a k1).1,g6]at he
   exact absurd (he▸k1) (hr.nfr _ _ g4)
  ·obtain⟨o2,ho2⟩:=hqv k1
   obtain⟨b',ob,x,g1,g2,g3,g4,z,g5,g6⟩:=src ho2
   rw[k1]at g5;injection g5 with g5;subst g5
   rw[(keepA b k2).1,g6]at he
   exact absurd (he▸k2) (hr.nfr _ _ g4)
  ·obtain⟨o1,ho1⟩:=hqv k1
   obtain⟨o2,ho2⟩:=hqv k2
   obtain⟨b1,ob1,x1,g1,g2,g3,g4,z1,g5,g6⟩:=src ho1
   obtain⟨b2,ob2,x2,f1,f2,f3,f4,z2,f5,f6⟩:=src ho2
   rw[k1]at g5;injection g5 with g5;subst g5
   rw[k2]at f5;injection f5 with f5;subst f5
   rw[g6,f6]at he
   rw[he]at g4
   have:=hr.inj _ _ _ g4 f4
   injection this with this;subst this
   have i1:=Yga hnd g1
   have i2:=Yga hnd f1
   rw[i1]at i2;injection i2 with i2;subst i2
   rw[k1]at k2;injection k2
 ·show H'[a]?≠none
  rw[YHV (by rw[hHl];omega)];simp
 ·rcases hinv ho with⟨k1,k2⟩| ⟨i,k1,k2⟩
  ·refine⟨o',?_,rfl,rfl,fun j e e' h1 h2=> ?_⟩
   ·show s.heap[ρ a]?=_
    rw[(keepA a k1).1,(hr.fr a k1).2];exact k2
   ·rw[h1]at h2;injection h2 with h2;subst h2
    refine⟨rfl,fun j x x' h3 h4=> ?_⟩
    rw[h3]at h4;injection h4 with h4;subst h4
    exact YjY keepA ((hfr a k1).2 o' k2 e (YHU h1) x (YHU h3))
  ·obtain⟨o2,ho2⟩:=hqv k1
   obtain⟨b,ob,x,g1,g2,g3,g4,z,g5,g6⟩:=src ho2
   rw[k1]at g5;injection g5 with g5;subst g5
   have hob:=hr.obj b ob g2
   cases ob with
   |fm c ver hole l=>rcases YdV hX ho2 with⟨_,_,e,_⟩| ⟨_,e,_⟩| ⟨_,e⟩<;>(rw[g3]at e;cases e)
   |sb s0=>
    obtain⟨x',e1,e2⟩:=hob
    rw[g4]at e1;injection e1 with e1;subst e1
    have g3:o2= .sb s0:=g3
    subst g3
    rw[k2]
    simp only[encO,ho2]
    refine⟨⟨0,strA s0⟩,by show s.heap[ρ a]?=_;rw[g6];exact e2,rfl,rfl,fun j e e' h1 h2=> ?_⟩
    rw[h1]at h2;injection h2 with h2;subst h2
    refine⟨rfl,fun k y y' h3 h4=> ?_⟩
    rw[h3]at h4;injection h4 with h4;subst h4
    obtain⟨n,hn⟩:=Yah (YaX s0).1.symm h1
    have:=(YaX s0).2 j e n h1 hn
    subst this
    cases k with
    |zero=>simp at h3;subst h3;exact .v _
    |succ k=>simp at h3
   |sq c l=>
    obtain⟨x',el,e1,e2,e3,e4⟩:=hob
    rw[g4]at e1;injection e1 with e1;subst e1
    have g3:o2= .sq c l:=g3
    subst g3
    rw[k2]
    simp only[encO,ho2]
    refine⟨⟨c.width,el⟩,by show s.heap[ρ a]?=_;rw[g6];exact e2,rfl,by simp[e4.1],fun j e e' h1 h2=> ?_⟩
    simp at h2
    obtain⟨w,h2,rfl⟩:=h2
    have:=e4.2 j e w h1 h2
    exact⟨this.1,fun k y y' h3 h4=>Ybx (this.2 k y y' h3 h4) (YbA c w y' (YHU h4))⟩
   |st cs=>
    obtain⟨x',e,e1,e2,e3,e4⟩:=hob
    rw[g4]at e1;injection e1 with e1;subst e1
    have g3:o2= .st (TV.rens (fun a=>idxV m a 0) cs):=g3
    subst g3
    rcases YdV hX ho2 with⟨_,_,e,_⟩| ⟨cs',e5,_,hwc⟩| ⟨_,e⟩
    ·cases e
    rotate_left
    ·cases e
    ·injection e5 with e5;subst e5
     rw[k2]
     simp only[encO,ho2]
     refine⟨⟨cs.length,[e]⟩,by show s.heap[ρ a]?=_;rw[g6];exact e2,by simp[Yaq],rfl,fun j f f' h1 h2=> ?_⟩
     cases j with
     |succ j=>simp at h1
     |zero=>
      simp at h1 h2;subst h1;subst h2
      have:=YkA (H:=s.heap) (tv:=.tp cs) look dead (.tp cs e e4.1 e4.2) (by simpa[TV.ren,wfT]using hwc)
      simp only[TV.ren,encT]at this
      cases this with
      |tup _ _ hl hc=>exact⟨hl,hc⟩
theorem YkB{P:Program}{fm:FM}{T:Tabs}{C:Ctx}(hC:CtxOK P fm C)(hT:TOK T C)(hm:P.follows .mixedOrders=true){e:FnE}{F:VFn}{f:FuncId}
  (htie:fnTr P fm T.pf f=some (F.slots,F.res,F.code.er)) (h4:F.res.length<=4) (hts:e.args.ts=List.range' 0 e.args.vs.length) (hsl:e.args.vs.length<=F.slots)
  (hkb:T.kb=e.args.os.length) (hl: ∀Fr H0,FrOK Fr H0->LsOK Fr H0 C T F.code) (hF: ∀x y,e.F x=some y->evI T F e.args e.res e.os e.co x=some y):FOK P fm f e.RI:=by
 refine YfE hC hm (by rw[hT.p.pf];exact htie) h4 ?_
 rintro args H r H' ⟨x,y,vs,Xs,pls,Kp,v,l,X2,h1,h2,h3,hct,hrs,hfr,hall,h5,h6,h7,h8,h9,h10,rfl,rfl⟩
 have hlen:e.args.vs.length=vs.length/\e.args.os.length=Xs.length:=by
  unfold Sg.read at h2
  split at h2
  ·rename_i svs sos k1 k2
   obtain⟨e1,_⟩:=Yab h2
   simp at e1
   exact⟨by rw[<-SV.eqs_of e1.1,YbI k1],by rw[<-SO.eqs_of e1.2,Ygd k2]⟩
  trivial
 refine⟨by rw[<-hct.1,<-hlen.1];omega,?_⟩
 have hev:=hF x y h1
 unfold evI at hev
 rw[YaD h2]at hev
 have hkb':T.kb=Xs.length:=hkb.trans hlen.2
 have hvs:VS Kp H (T.kb,fun i=>pls (.m i)) H.length ⟨zipE e.args.ts vs,Xs⟩ ⟨YDm 0 args,H,H.length⟩:=by
  refine⟨rfl,by simp_all,pls,?_,hrs,fun i hi x hx=>hx⟩
  rw[hts,hlen.1];exact Ykz 0 vs args hct
 refine YaA hT hfr hev (hl Kp H hfr) hvs (fun ex s' st' g1 g2=> ?_)
 have post:(match YEL s' F.res with|some vs=>(match retI T.kb (tupV vs) s'.heap with| (v,X)=>YFL e.res e.os e.co v X)|none=>none)=some y->
   ∃as,YDY st' F.res as/\Fin st' (tupR as) (encT X2 (plI pls Xs.length H.length X2) v) (YDt Kp H Xs.length X2 (plI pls Xs.length H.length X2)):=by
  intro g1
  split at g1
  ·rename_i ws hws
   obtain⟨hb,hkl,ph,he,hr,hpk⟩:=g2
   obtain⟨as,k1,k2⟩:=Ygc he hr hws
   have hr:=YjR hr
   have k3:=TR.nrm _ ((Ykv k2).ext YfZ)
   have hkl':Xs.length<=(nrmX s'.heap).length:=by rw[<-hkb'];simpa[nrmX]using hkl
   unfold retI at g1
   simp only at g1
   have hmin:min T.kb (nrmX s'.heap).length=Xs.length:=by omega
   rw[hmin]at g1
   generalize nrmX s'.heap=Xh at g1 hr k3 hkl' hmin
   generalize(tupV ws).nrm=tw at g1 k3
   have hnd:(YDc Xh 5 (YC5 Xh (List.range Xs.length) tw.ids)).Nodup:=YcE (YbG List.nodup_range)
   have hpre:List.range Xs.length<+:YDc Xh 5 (YC5 Xh (List.range Xs.length) tw.ids):=(YcG _ _ _).trans (YfW _ _ _)
   generalize YDc Xh 5 (YC5 Xh (List.range Xs.length) tw.ids)=m at g1 hnd hpre
   obtain⟨q1,q2⟩:=Ysx g1
   rw[h5]at q1;injection q1 with q1;injection q1 with q1 q3
   rw[<-q3,h6]at q2;injection q2 with q2;injection q2 with q2 _
   subst q1;subst q2
   exact⟨as,k1,Yb2 hrs hfr hr hb hkl' (fun i hi z hz=>hpk i (by omega) z hz) hnd hpre k3 h8 h9⟩
  trivial
 cases ex with
 |exit id=>cases g1
 |nor=>exact post g1
 |ret=>exact post g1
theorem Ysy{P:Program}{fm:FM}{T:Tabs}(hS:YDe P fm T)(hm:P.follows .mixedOrders=true)(L:List LpE)(e:FnE)(hp:T.pf e.g=false)(F:VFn)
  (htie: ∀f,fm f=e.g->fnTr P fm T.pf f=some (F.slots,F.res,F.code.er)) (h4:F.res.length<=4) (hts:e.args.ts=List.range' 0 e.args.vs.length) (hsl:e.args.vs.length<=F.slots)
  (hl: ∀C,TOK ⟨T.pf,T.fs,L,e.args.os.length⟩ C-> ∀Fr H0,FrOK Fr H0->LsOK Fr H0 C ⟨T.pf,T.fs,L,e.args.os.length⟩ F.code) (hF: ∀x y,e.F x=some y->evI ⟨T.pf,T.fs,L,e.args.os.length⟩ F e.args e.res e.os e.co x=some y):YDe P fm ⟨T.pf,e::T.fs,T.ls,0⟩:=by
 obtain⟨C,hC,hT⟩:=hS
 have hT':TOK ⟨T.pf,T.fs,L,e.args.os.length⟩ C:=⟨⟨hT.p.pf,hT.p.fn⟩,hT.fnI⟩
 have hpC:C.pf e.g=true->Pure e.RI:=fun h=>by rw[hT.p.pf,hp]at h;cases h
 exact⟨YDv C e.g e.RI,YaI hC hpC (fun f hf=>YkB hC hT' hm (htie f hf) h4 hts hsl rfl (hl C hT') hF),Ybc hT (fun h=>by simp_all) (fun _ _ _ _ _ h=>h)⟩
theorem Ysz{P:Program}{fm:FM}{T:Tabs}(hS:YDe P fm T)(hm:P.follows .mixedOrders=true)(e:FnE)(hp:T.pf e.g=false)(Fn:Nat->e.args.c.den->Option e.co.den)(L:Nat->List LpE)(F:VFn)
  (htie: ∀f,fm f=e.g->fnTr P fm T.pf f=some (F.slots,F.res,F.code.er)) (h4:F.res.length<=4) (hts:e.args.ts=List.range' 0 e.args.vs.length) (hsl:e.args.vs.length<=F.slots)
  (h0: ∀x,Fn 0 x=none) (hlim: ∀x y,e.F x=some y-> ∃n,Fn n x=some y)
  (hl: ∀n C,TOK ⟨T.pf,⟨e.g,e.pf,e.args,e.res,e.os,e.co,Fn n⟩::T.fs,L n,e.args.os.length⟩ C-> ∀Fr H0,FrOK Fr H0->LsOK Fr H0 C ⟨T.pf,⟨e.g,e.pf,e.args,e.res,e.os,e.co,Fn n⟩::T.fs,L n,e.args.os.length⟩ F.code)
  (hF: ∀n x y,Fn (n+1) x=some y->evI ⟨T.pf,⟨e.g,e.pf,e.args,e.res,e.os,e.co,Fn n⟩::T.fs,L n,e.args.os.length⟩ F e.args e.res e.os e.co x=some y):YDe P fm ⟨T.pf,e::T.fs,T.ls,0⟩:=by
 obtain⟨C,hC,hT⟩:=hS
 have hpC: ∀R:YDh,C.pf e.g=true->Pure R:=fun R h=>by rw[hT.p.pf,hp]at h;cases h
 have step: ∀n f,fm f=e.g->FOK P fm f (FnE.RI ⟨e.g,e.pf,e.args,e.res,e.os,e.co,Fn n⟩):=by
  intro n
  induction n with
  |zero=>
   intro f _ args H r H' hc
   obtain⟨x,y,vs,Xs,pls,Kp,v,l,X2,h1,_⟩:=hc
   simp_all
  |succ n ih=>
   intro f hf
   have hC':=YaI hC (hpC _) ih
   have hT':=Ybc hT (e:=⟨e.g,e.pf,e.args,e.res,e.os,e.co,Fn n⟩) (R:=FnE.RI ⟨e.g,e.pf,e.args,e.res,e.os,e.co,Fn n⟩) (fun h=>by simp_all) (fun _ _ _ _ _ h=>h)
   have hT2:TOK ⟨T.pf,⟨e.g,e.pf,e.args,e.res,e.os,e.co,Fn n⟩::T.fs,L n,e.args.os.length⟩ _:=⟨⟨hT'.p.pf,hT'.p.fn⟩,hT'.fnI⟩
   exact YkB (e:=⟨e.g,e.pf,e.args,e.res,e.os,e.co,Fn (n+1)⟩) hC' hT2 hm (htie f hf) h4 hts hsl rfl (hl n _ hT2) (hF n)
 refine⟨YDv C e.g e.RI,YaI hC (hpC _) (fun f hf args H r H' hc=> ?_),Ybc hT (fun h=>by simp_all) (fun _ _ _ _ _ h=>h)⟩
 obtain⟨x,y,vs,Xs,pls,Kp,v,l,X2,h1,h2⟩:=hc
 obtain⟨n,hn⟩:=hlim x y h1
 exact step n f hf args H r H' ⟨x,y,vs,Xs,pls,Kp,v,l,X2,hn,h2⟩
end
end Go.Abs
namespace Go.Abs
open Go Go.RowKit
theorem YsA{P:Program}{fm:FM}{o:Oper}{xs:List Opd}(h:trOp P fm o=some (.px .mnxt xs)): ∃x,o.op= .next x false/\xs=[YC3 fm x]:=by
 obtain⟨dst,oop,ty,pos,after,guard⟩:=o
 cases oop<;>simp only[trOp]at h
 case next x st=>
  cases st with
  |true=>cases h
  |false=>injection h with h;injection h with _ h;exact⟨x,rfl,h.symm⟩
 all_goals exfalso
 all_goals first
  | (cases h;done)
  |skip
 all_goals(repeat' (first| (cases h;done)|split at h))
 all_goals first
  | (cases h;done)
  | (rename_i hq;cases hq;done)
  | (simp only[YID,YII]at h;grind)
  |skip
section
variable{C:Ctx}{Q:Ex->ASt->Prop}{st:ASt}
theorem YsB{bl:List (List AV)}{sn:List Int}(h:bl=sn.map fun b=>[.v (.int .i64 b)]){fm:FM}{w:World}{L:Nat->Loc}{seen:Array Nat}(hs:YGg fm w L seen bl):seen.toList.map (fun(n:Nat)=>(n:Int))=sn:=by
 refine YIj fun i=> ?_
 cases hi:sn[i]? with
 |none=>
  have:seen.toList.length=sn.length:=by simp[hs.1,h]
  simp_all
 |some b=>
  obtain⟨n,c,h1,h2,h3⟩:=hs.2 i [.v (.int .i64 b)] (by simp_all)
  injection h2 with h2 _;subst h2
  have:=Yad h3;simp_all
theorem YsC{it nx mo i m:Nat}{s:Int}{bl el:List (List AV)}{tags:List AV}{oi o:AObj}{B sn:List Int}{S tg:AV}
  (h1:YC1 st.env it= .np i) (h2:st.heap[i]?=some (some oi)) (h3:oi=⟨5,[[.np m,.v (.int .i64 s),.v (.int .i64 s),S,tg]]⟩) (hS:rowsR S=some bl) (hbl:bl=sn.map fun b=>[.v (.int .i64 b)])
  (h4:st.heap[m]?=some (some o)) (h5:mapO o=some (s,el,tags)) (hel:el.map YEw=B.map some)
  (hdone:(∀b∈B,b∈sn)->Q .nor ⟨(mo,.v (.bool false))::(nx,.u)::st.env,st.heap,st.base⟩)
  (hstep: ∀b∈B,b∉sn->Q .nor ⟨(mo,.v (.bool true))::(nx,.u)::st.env,st.heap.set i (some ⟨5,[[.np m,.v (.int .i64 s),.v (.int .i64 s),.rd 1 (bl++[[.v (.int .i64 b)]]),tg]]⟩),st.base⟩):
  Sat C (.reg [⟨some nx,.px .mnxt [.t it],none,false,false⟩,⟨some mo,.ext (.t nx) 0,none,false,false⟩]) Q st:=by
 intro P fm n code hC hm ht w0 L0 a w hs
 cases code with
 |region id ops draw=>
  obtain⟨is,zs,k1,k2,k3⟩:=Ya6 ht (fun e=>by cases e)
  injection k2 with k2
  rcases k3 with⟨rfl,hE,k3⟩| ⟨rfl,rfl⟩
  ·exfalso
   obtain⟨hok,_,_⟩:=YdA k3
   rw[<-k2]at hok
   unfold YDW at k3
   split at k3
   ·trivial
   ·rename_i hd
    obtain⟨_,_,hv⟩:=YdA (pf:=C.pf) (mk:=mkAt fm ops) (dd:=ddAt fm ops) (an:=ancs ops.toList []) (is:=is) (ys:=zs) (by unfold YDW;simp_all)
    obtain⟨x,hx,_,_,hv⟩:=hv 0 ⟨some nx,.px .mnxt [.t it],none,false,false⟩ (by grind)
    apply hd
    rw[List.any_eq_true]
    refine⟨x,YHU hx,?_⟩
    rcases hv with e| ⟨g,n',z,e1,e2⟩| ⟨z,as,e1,e2⟩| ⟨z,as,_,e1,e2⟩
    ·rw[<-e];rfl
    ·cases e2
    ·cases e2
    trivial
  ·obtain⟨ops⟩:=ops
   refine wp_region_lit ?_
   subst k2
   simp only at k1
   cases ops with
   |nil=>simp[YDu]at k1
   |cons o1 r=>
   obtain⟨y1,z1,g1,g2,e⟩:=Ycq k1
   injection e with e1 e2
   subst e1;subst e2
   cases r with
   |nil=>simp[YDu]at g2
   |cons o2 r2=>
   obtain⟨y2,z2,g3,g4,e⟩:=Ycq g2
   injection e with e1 e2
   subst e1;subst e2
   cases r2 with
   |cons o3 r3=>obtain⟨_,_,_,_,e⟩:=Ycq g4;cases e
   |nil=>
   obtain⟨hop,hdst,hdn,_,_,hg⟩:=Yfk g1
   have hg0:o1.guard=none:=by
    simp_all
   obtain⟨x,hx1,hx2⟩:=YsA hop
   have hx:x= .tmp it:=by
    injection hx2 with hx2 _
    cases x<;>simp[YC3]at hx2
    rw[hx2]
   subst hx
   obtain⟨L1,hk1,hs1,hr1,he1⟩:=hs.rel
   have hiv:=he1 it
   rw[h1]at hiv
   have hio:YEg oi=some (m,s,s,bl):=by rw[h3];unfold YEg;simp_all
   have hoi:hf st.heap i=some (some oi):=h2
   obtain⟨g,g',since,seen,stepped,ex,hL,hgi,hvm,es1,es2,hseen⟩:=Yin hr1 hoi hio hiv
   obtain⟨es,nc,enc,hLm,hgm,hmr,hasc⟩:=Yih hr1 (show hf st.heap m=_ from h4) h5 hvm
   have hsc:since=nc:=by omega
   have hst:since=stepped:=by omega
   subst hsc;subst hst
   have hsn:=YsB hbl hseen
   have hBe:es.toList.map (fun e=>((e.born:Nat):Int))=B:=by
    have:es.toList.map (fun e=>some ((e.born:Nat):Int))=B.map some:=by
     rw[<-hel]
     refine YIj fun j=> ?_
     rw[YHW,YHW]
     have hlen:es.toList.length=el.length:=by simpa using hmr.len
     cases hj:el[j]? with
     |none=>
      simp_all
     |some e=>
      obtain⟨me,b,k,r,q1,rfl,q3,_⟩:=hmr.row j e hj
      have q1':es.toList[j]?=some me:=by simp_all
      rw[q1']
      have hbb: ∃bb:Int,YEw (b::k::r)=some bb:=by
       have:=congrArg (fun l=>l[j]?) hel
       grind
      obtain⟨bb,hbb⟩:=hbb
      have:b= .v (.int .i64 bb):=by
       unfold YEw at hbb
       grind
      subst this
      have:=Yad q3;simp_all
    have h':=congrArg (List.map (fun(o:Option Int)=>o.getD 0)) this
    simpa[YIc,Function.comp_def]using h'
   have hold: ∀x∈es.toList,x.born<since:=fun x hx=>by
    obtain⟨j,hj⟩:=YH4.1 hx
    exact hasc.1 j x (by simp_all)
   have hmemB: ∀b:Nat,((b:Int)∈sn↔seen.contains b=true):=fun b=>by
    grind
   have hexec: ∀y w',(Instr.next (.pointer (some ⟨g,0,none⟩)) false o1.type).run P w= .ok y w'->YE5 P o1 a w y w':=by
    intro y w' hy
    refine .inl ?_
    have hev:a.eval (.tmp it)= .pointer (some ⟨g,0,none⟩):=ex
    obtain⟨d1,op1,t1,p1,a1,gd1⟩:=o1
    simp only at hx1
    subst hx1
    simp[execOp,hev,hy]
   have hnx:nx<a.tmps.size:=by rw[hs.size];simp_all
   have fin: ∀(t:Bool) (y:Value) (w':World) (L':Nat->Loc) (H':Heap),(∃xs,y= .tuple xs/\xs.getD 0 undef= .bool t/\0<xs.size)->Keep L1 w w'->LStep L1 L' w.heap.size->HR fm w' L' (hf H')->
     Q .nor ⟨(mo,.v (.bool t))::(nx,.u)::st.env,H',st.base⟩->wpList P ⟨o1::o2::[]⟩ (PostA fm n w0 L0 Q) [o2] (a.put o1.dst y) w':=by
    rintro t y w' L' H' ⟨xs,rfl,hx0,hxs⟩ hkp hls hhr hq
    have hER:ER fm w' L' (a.put o1.dst (.tuple xs)) ((nx,.tup (.v (.bool t)::List.replicate (xs.size-1) .u))::st.env):=by
     have:=er_put' (d:=o1.dst) (x:=.tuple xs) (v:=.tup (.v (.bool t)::List.replicate (xs.size-1) .u)) (fun t=>(he1 t).mono hkp hls) (fun k hk=>by simp_all)
      (.tup xs _ (by grind) (fun j c hj=>by
       cases j with
       |zero=>simp at hj;subst hj;rw[hx0];exact .v _
       |succ j=>
        rw[List.getElem?_cons_succ,List.getElem?_replicate]at hj
        split at hj
        ·injection hj with hj;subst hj;exact .u _
        trivial))
     have hd1:o1.dst=some nx:=hdst.symm
     rw[hd1]at this⊢
     trivial
    have hs':SR fm n w0 L0 ⟨(nx,.tup (.v (.bool t)::List.replicate (xs.size-1) .u))::st.env,H',st.base⟩ (a.put o1.dst (.tuple xs)) w':=
     hs.step (YbR _ _ _) (YbQ _ _ _) ⟨hk1,hs1⟩ hkp hls hhr hER
    refine Yds hC (n0:=fun _=>True) (K:=fun s'=>s'=⟨(mo,.v (.bool t))::(nx,.tup (.v (.bool t)::List.replicate (xs.size-1) .u))::st.env,H',st.base⟩) (fun s' a' w'' hs'' hsr=> ?_) [o2] [_] _ _ _ g2 ?_ hs'
    ·subst hs''
     obtain⟨L2,m1,m2,m3,m4⟩:=hsr.rel
     refine⟨_,hq,hsr.defers,hsr.size,hsr.base,L2,m1,m2,m3,fun u=> ?_⟩
     have:=m4 u
     simp only[YC1]at this⊢
     cases hmu:(mo==u)with
     |true=>simp_all
     |false=>
      rw[hmu]at this
      simp only[cond_false]at this⊢
      cases hnu:(nx==u)with
      |true=>exact .u _
      |false=>simp_all
    ·show evAI C _ ⟨some mo,.ext (.t nx) 0,none,false,false⟩ _ _
     simp only[Ypr,Ybp]
     show∃l,opd _ (.t nx)=AV.tup l/\ ∃b,l[0]?=some b/\_
     exact⟨.v (.bool t)::List.replicate (xs.size-1) .u,by simp[opd,YC1],_,rfl,rfl⟩
   rcases run_next_at (P:=P) w o1.type g g' since since seen es since hgi hgm hold (YIr _)with⟨hz,hrun⟩| ⟨e,he,w1,hw1,hrun⟩
   ·
    unfold wpList
    rw[show Region.wanted o1 _=true by simp[Region.wanted,hg0],if_pos rfl]
    refine .inl (Ycl (hexec _ _ hrun) (fin false _ w L1 st.heap ⟨_,rfl,rfl,by simp⟩ (Keep.refl _ _) (LStep.refl _ _) hr1 (hdone (fun b hb=> ?_))))
    rw[<-hBe]at hb
    obtain⟨e,he,rfl⟩:=YH2.1 hb
    rw[hmemB]
    apply Classical.byContradiction
    intro hc
    have:e∈ (leftOf es seen).toList:=by
     unfold leftOf
     simp_all
    simp_all
   ·have he':e∈es.toList/\seen.contains e.born=false:=by
     unfold leftOf at he
     simp_all
    have hbB:((e.born:Nat):Int)∈B:=by grind
    have hbn:((e.born:Nat):Int)∉sn:=fun hc=>by
     simp_all
    have hq:=hstep _ hbB hbn
    obtain⟨S0,tag0,hoe,hSS,_⟩:=Yim hio
    have hobj:=hr1.obj i oi hoi
    rw[hL,h3]at hobj
    obtain⟨_,a0,s',t',S',tag',g2',since',seen',stepped',q1,q2,q3,q4,q5,q6,q7⟩:=hobj
    injection q2 with q2 _
    injection q2 with e1 q2;injection q2 with e2 q2;injection q2 with e3 q2;injection q2 with e4 q2;injection q2 with e5 q2
    subst e1;subst e2;subst e3;subst e4;subst e5
    obtain⟨m1,m2⟩:=Yci hr1 hoi hL (ob:=.mapIter (some g') since (seen.push e.born) since) (fun c t f e=>by cases e) (w':=ChangeMaps.setBlock w1 g (.mapIter (some g') since (seen.push e.born) since))
     (by rcases hw1 with rfl|rfl<;>rfl) (by rcases hw1 with rfl|rfl<;>rfl) (by rcases hw1 with rfl|rfl<;>rfl) (by rcases hw1 with rfl|rfl<;>rfl)
     (o':=⟨5,[[.np m,.v (.int .i64 s),.v (.int .i64 s),.rd 1 (bl++[[.v (.int .i64 ((e.born:Nat):Int))]]),tg]]⟩) (fun e=>by cases e)
     (fun hkp hg'=>⟨rfl,_,_,_,_,_,g',since,seen.push e.born,since,hg',rfl,hvm.mono hkp (LStep.refl _ _),by rw[es1];exact .v _,by rw[es1];exact .v _,q6.mono hkp (LStep.refl _ _),.inr ⟨1,_,rfl,by grind,fun j ej hj=>by
      by_cases hjl:j<bl.length
      ·rw[YHY hjl]at hj
       obtain⟨n',b',r1,r2,r3⟩:=hseen.2 j ej hj
       exact⟨n',b',by grind,r2,r3.mono hkp (LStep.refl _ _)⟩
      ·have hje:j=bl.length:=by
        grind
       subst hje
       rw[YH7 (YIr _)]at hj
       simp at hj;subst hj
       exact⟨e.born,_,by grind,rfl,.v _⟩⟩⟩)
    unfold wpList
    rw[show Region.wanted o1 _=true by simp[Region.wanted,hg0],if_pos rfl]
    refine .inl (Ycl (hexec _ _ hrun) (fin true _ _ L1 _ ⟨_,rfl,rfl,by simp⟩ m1 (LStep.refl _ _) ?_ hq))
    have:=Ydr (H:=st.heap) (a:=i) (o:=some ⟨5,[[.np m,.v (.int .i64 s),.v (.int .i64 s),.rd 1 (bl++[[.v (.int .i64 ((e.born:Nat):Int))]]),tg]]⟩) (by simp_all) 0
    rw[<-this]
    exact m2
 |seq x y=>simp only[tr]at ht;grind
 |cond c x y=>simp only[tr]at ht;grind
 |block id b=>simp[tr]at ht
 |loop b=>simp[tr]at ht
 |_=>cases ht
end
end Go.Abs
namespace Go.Abs
open Go
def cs:List Ty->Cs
 | []=>.nil
 |t::r=>.cons t (cs r)
abbrev I:Ty:=.i .i64
abbrev o(d:Nat)(op:VOp):VI:=⟨some d,op,none,false,false⟩
abbrev on(op:VOp):VI:=⟨none,op,none,false,false⟩
abbrev og(d g:Nat)(w:Bool)(op:VOp):VI:=⟨some d,op,some (g,w),false,false⟩
abbrev t(n:Nat):VOpd:=.t n
abbrev k(n:Int):VOpd:=.c (.one (.i .i64 n))
abbrev ki(kd:IntKind)(n:Int):VOpd:=.c (.one (.i kd n))
abbrev kb(x:Bool):VOpd:=.c (.one (.b x))
abbrev ks(x:ByteArray):VOpd:=.c (.one (.s x))
abbrev ke(c:Cs):VOpd:=.c (.one (.e c))
def alt2{A B γ:Type}(y:A⊕B)(f:A->γ)(g:B->γ):γ:=match y with| .inl a=>f a| .inr b=>g b
theorem YsK{S R:Type}{step s:S->Option (S⊕R)}(h: ∀x,step x=s x){x:S}{y:R}(hs:YC8 s x=some y):YC8 step x=some y:=by
 have:step=s:=funext h
 simp_all
theorem YbJ{p:Nat->Bool}{fs:List FnE}{l l':List LpE}{k k':Nat}{C:Ctx}(h:TOK ⟨p,fs,l,k⟩ C):TOK ⟨p,fs,l',k'⟩ C:=⟨⟨h.p.pf,h.p.fn⟩,h.fnI⟩
structure Lo where
 run: ∀{S R:Type},(S->Option (S⊕R))->S->Option R
def LoOK(lo:Lo):Prop:= ∀{S R:Type} (step:S->Option (S⊕R)) (x:S) (y:R),lo.run step x=some y->YC8 step x=some y
theorem Yge{S R:Type}{step:S->Option (S⊕R)}: ∀{n m:Nat} {x:S} {y:R},n<=m->YDE step n x=some y->YDE step m x=some y
 |0,_,_,_,_,h=>by cases h
 |n+1,0,_,_,h,_=>by omega
 |n+1,m+1,x,y,h,hy=>by
  simp only[YDE]at hy⊢
  split at hy
  ·exact Yge (by omega) hy
  ·exact hy
  trivial
theorem Yb3{S R:Type}{step:S->Option (S⊕R)}{n:Nat}{x:S}{y:R}(h:YDE step n x=some y):YC8 step x=some y:=by
 have hx: ∃n r,YDE step n x=some r:=⟨n,y,h⟩
 unfold YC8
 have h2:=Classical.choose_spec (Classical.choose_spec hx)
 have k1:=Yge (Nat.le_max_left n (Classical.choose hx)) h
 have k2:=Yge (Nat.le_max_right n (Classical.choose hx)) h2
 grind
noncomputable def loO:Lo:=⟨fun step x=>YC8 step x⟩
theorem YsL:LoOK loO:=fun _ _ _ h=>h
theorem Yan{S R:Type}(step:S->Option (S⊕R))(x:S):YC8 step x=match step x with|some (.inl s)=>YC8 step s|some (.inr r)=>some r|none=>none:=by
 refine Option.ext (fun y=>⟨fun h=> ?_,fun h=> ?_⟩)
 ·obtain⟨n,hn⟩:=YcN h
  cases n with
  |zero=>cases hn
  |succ n=>
   simp only[YDE]at hn
   split at hn
   ·rename_i hs;rw[hs];exact Yb3 hn
   ·simp_all
   trivial
 ·split at h
  ·rename_i s hs
   obtain⟨n,hn⟩:=YcN h
   exact Yb3 (n:=n+1) (by simp only[YDE,hs];exact hn)
  ·rename_i r hs
   exact Yb3 (n:=1) (by simp only[YDE,hs];exact h)
  trivial
def fixS{A B:Type}(f:Nat->A->Option B):Nat×A->Option ((Nat×A)⊕B):=fun x=>match f x.1 x.2 with
 |some y=>some (.inr y)
 |none=>some (.inl (x.1+1,x.2))
theorem YkD{A B:Type}{f:Nat->A->Option B}{n:Nat}{x:A}{y:B}(h:YC8 (fixS f) (n,x)=some y): ∃m,f m x=some y:=by
 obtain⟨k,hk⟩:=YcN h
 induction k generalizing n with
 |zero=>cases hk
 |succ k ih=>
  simp only[YDE,fixS]at hk
  cases hf:f n x with
  |some z=>grind
  |none=>rw[hf]at hk;exact ih (Yb3 hk) hk
theorem YcP{A B:Type}{f:Nat->A->Option B}(hm: ∀n x y,f n x=some y->f (n+1) x=some y){x:A}{y:B}: ∀{m n:Nat},f (n+m) x=some y->YC8 (fixS f) (n,x)=some y
 |0,n,h=>Yb3 (n:=1) (by simp only[YDE,fixS];simp_all)
 |m+1,n,h=>by
  rw[Yan]
  cases hf:f n x with
  |some z=>
   simp only[fixS,hf]
   have: ∀k,f (n+k) x=some z:=fun k=>by
    induction k with
    |zero=>exact hf
    |succ k ih=>grind
   simp_all
  |none=>
   simp only[fixS,hf]
   exact YcP hm (m:=m) (n:=n+1) (by grind)
end Go.Abs
namespace Go.Abs
open Go Go.RowKit
def YDr(es:Nat)(z:List Value):ACode:=
 .seq (.reg [⟨some 2,.mv (.c .emp),none,false,false⟩])
  (.seq
   (.seq (.reg [⟨some 3,.mv (.t 0),none,false,false⟩,⟨some 4,.pv (.isn false) [(.t 3)],none,false,false⟩])
    (.cond (.t 4) (.seq (.reg [⟨some 2,.mv (.c .emp),none,false,false⟩]) .ret) .skip))
   (.seq (.reg [⟨some 5,.bsl es z 0 [],none,false,false⟩,⟨some 6,.mv (.t 0),none,false,false⟩,⟨some 7,.app es (.t 5) (.t 6),none,false,false⟩,⟨some 2,.mv (.t 7),none,false,false⟩])
    .ret))
def vcloneE(g:Nat)(c:Cs):FnE:=⟨g,false,⟨[0],[.l c],[],.cons (.l c) .nil⟩,.ref 0,[.sq c],.cons (.l c) .nil,
 fun(l:List c.den)=>bif YIs l.length maxEl&&YIs 1 c.width then some l else none⟩
section
variable{C:Ctx}
theorem YsM{code:ACode}{Q:Ex->ASt->Prop}{t es:Nat}{env:Env}{H:Heap}{b:Nat}(hl:YC1 env t= .rd es [])(h: ∀A c,Sat C code Q ⟨(t,.v (.slice A 0 c))::env,H,b⟩):Sat C code Q ⟨env,H,b⟩:=by
 intro P fm n code' hC hm ht w0 L0 a w hs
 obtain⟨h1,h2,h3,L,h4,h5,h6,h7⟩:=hs
 have hv:=h7 t
 rw[hl]at hv
 rcases Ybh hv with⟨_,A,c,e⟩| ⟨_,_,_,_,_,hne,_⟩
 ·refine h A c P fm n code' hC hm ht w0 L0 a w ⟨h1,h2,h3,L,h4,h5,h6,fun s=> ?_⟩
  simp only[YC1]
  cases hst:(t==s)with
  |true=>have:t=s:=by simp_all
         subst this;rw[e];exact .v _
  |false=>exact h7 s
 trivial
theorem YkE{es:Nat}(hes0:0<es){z:List Value}{a0:AV}{l:List (List AV)}{H:Heap}{b:Nat}{t:Bool}(hisn:pvF (.isn false) [a0]=some (.v (.bool t)))(ht:t=true->l=[])
  (hw: ∀(fm:FM) (w:World) (L:Nat->Loc) (x:Value),VR fm w L x a0->VR fm w L x (.rd es l)) (hlen: ∀e∈l,e.length=es) (hmax:l.length<=maxEl) {env:Env} (he:YC1 env 0=a0) {Q:Ex->ASt->Prop}
  (h1:l=[]-> ∀env,YC1 env 2= .emp-> ∃st',Wk ⟨env,H,b⟩ st'/\Q .ret st') (h2: ∀env,YC1 env 2= .ref H.length 0 l.length->Q .ret ⟨env,H++[some ⟨es,l⟩],b⟩):Sat C (YDr es z) Q ⟨env,H,b⟩:=by
 refine Ya7 (YdB ?_)
 simp only[YDC,evAI,Ybp,evOp,evG,opK,opd,put,YDb,Ex.then]
 refine Ya7 (Ya7 (YdB ?_))
 simp only[YDC,evAI,Ybp,evOp,evG,opK,opd,put,YDb,Ex.then,YHX,YHZ,YC1]
 refine⟨.v (.bool t),?_,?_⟩
 ·simp_all
 refine Yi9 (b:=t) (by rfl) (fun e=> ?_) (fun e=> ?_)
 ·subst e
  refine Ya7 (YdB ?_)
  simp only[YDC,evAI,Ybp,evOp,evG,opK,opd,put,YDb,Ex.then,YDQ]
  obtain⟨st',hwk,hq⟩:=h1 (ht rfl) ((2,.emp)::(4,.v (.bool true))::(4,.v (.bool true))::(3,bif(2:Nat)==0 then .emp else YC1 env 0)::(2,.emp)::env) (by rfl)
  exact Sat.wk hwk (Yfz hq)
 ·subst e
  refine Yi7 ?_
  simp only[Ex.then,YDQ]
  refine Sat.wk (s:=⟨[(0,.rd es l)],H,b⟩) ?_ ?_
  ·intro fm n w0 L0 a w hs
   obtain⟨k1,k2,k3,L,k4,k5,k6,k7⟩:=hs
   refine⟨k1,k2,k3,L,k4,k5,k6,fun s=> ?_⟩
   simp only[YC1]
   cases hst:((0:Nat)==s)with
   |true=>
    have:0=s:=by simp_all
    subst this
    have:=k7 0
    simp only[YC1,Nat.reduceBEq,cond_false]at this
    simp_all
   |false=>exact .u _
  ·refine Ya7 (YdB ?_)
   simp only[YDC,evAI,Ybp,evOp,evG,opK,opd,put,YDb,Ex.then,YDG,List.replicate_zero,YC1,Nat.reduceBEq,cond_true,cond_false,appK,true_and]
   refine⟨hmax,hlen,fun h0=>absurd h0 (by omega),?_⟩
   refine Yfz (h2 _ (by rfl))
theorem YkF{es:Nat}(hes0:0<es){z:List Value}{l:List (List AV)}{H:Heap}{b:Nat}(hlen: ∀e∈l,e.length=es)(hmax:l.length<=maxEl){env:Env}(he:YC1 env 0= .rd es l){Q:Ex->ASt->Prop}
  (h1:l=[]-> ∀env,YC1 env 2= .emp-> ∃st',Wk ⟨env,H,b⟩ st'/\Q .ret st') (h2: ∀env,YC1 env 2= .ref H.length 0 l.length->Q .ret ⟨env,H++[some ⟨es,l⟩],b⟩):Sat C (YDr es z) Q ⟨env,H,b⟩:=by
 cases l with
 |nil=>
  refine YsM he (fun A c=> ?_)
  refine YkE hes0 (a0:=.v (.slice A 0 c)) (t:=A.isNone) rfl (fun _=>rfl) (fun fm w L x hx=> ?_) (fun e he=>by cases he) hmax (by rfl) h1 h2
  rw[Yad hx];exact .rd0 A es c
 |cons e0 l0=>
  exact YkE hes0 (a0:=.rd es (e0::l0)) (t:=false) rfl (fun h=>by cases h) (fun _ _ _ _ h=>h) hlen hmax he h1 h2
end
theorem YsN{C:Ctx}{c:Cs}{n:Nat}{z:List Value}{Kp:Nat->Prop}{H:Heap}{pls:Pl}{args:List AV}(x:List c.den)(hn:1<=n)(hmax:x.length<=maxEl)(hw0:0<c.width)(hct:CT [] pls [.l c x] args)(hrs:HRel Kp H [] pls H)(hfr:FrOK Kp H)
  (h9:wfX [some (.sq c x)] [some (.sq c x)]=true):
  args.length<=n/\Sat C (YDr c.width z) (RetQ [.t 2] (encT [some (.sq c x)] (plI pls 0 H.length [some (.sq c x)]) (.ref 0)) (YDt Kp H 0 [some (.sq c x)] (plI pls 0 H.length [some (.sq c x)]))) ⟨YDm 0 args,H,H.length⟩:=by
 obtain⟨a,ra,rfl,ha,hra⟩:=hct.inv
 have hra0:ra=[]:=YH3.1 hra.1.symm
 subst hra0
 refine⟨by trivial,?_⟩
 have hcoe:Coe a (.rd c.width (x.map c.enc)):=by
  cases ha with
  |l _ _ _ hc=>exact hc
 have hw:Wk ⟨YDm 0 [a],H,H.length⟩ ⟨[(0,.rd c.width (x.map c.enc))],H,H.length⟩:=by
  intro fm n w0 L0 aa w hs
  obtain⟨k1,k2,k3,L,k4,k5,k6,k7⟩:=hs
  refine⟨k1,k2,k3,L,k4,k5,k6,fun s=> ?_⟩
  have:=k7 s
  simp only[YDm,YC1]at this⊢
  cases hst:((0:Nat)==s)with
  |true=>rw[hst]at this;exact Yfh hcoe this
  |false=>simp_all
 refine Sat.wk hw ?_
 have fin: ∀env,YC1 env 2= .ref H.length 0 (x.map c.enc).length->
   RetQ [.t 2] (encT [some (.sq c x)] (plI pls 0 H.length [some (.sq c x)]) (.ref 0)) (YDt Kp H 0 [some (.sq c x)] (plI pls 0 H.length [some (.sq c x)])) .ret ⟨env,H++[some ⟨c.width,x.map c.enc⟩],H.length⟩:=by
  intro env he
  refine⟨[YC1 env 2],⟨rfl,trivial⟩,?_⟩
  simp only[tupR,he]
  have hr0:HRel Kp H [] (fun _=>none) H:=⟨fun a o h=>(by cases h),fun p q x h=>(by cases h),fun p x h=>(by cases h),hrs.fr,fun p x h=>(by cases h),YIr _⟩
  have hrow:Rows (x.map c.enc) c x:=by
   refine⟨by simp,fun i e v' k1 k2=> ?_⟩
   rw[YHW,k2,YIE]at k1
   injection k1 with k1;subst k1
   exact⟨rfl,fun j x x' k1 k2=>by rw[k1]at k2;injection k2 with k2;subst k2;exact .refl _⟩
  obtain⟨hr,_⟩:=Yap hr0 (.sq c x) ⟨c.width,x.map c.enc⟩ (fun _=>⟨H.length,x.map c.enc,by rfl,by simp,hw0,hrow⟩)
  have ht:TR ([]++[some (VObj.sq c x)]) (plS (fun _=>none) (.m 0) (some H.length)) (.ref 0) (.ref H.length 0 (x.map c.enc).length):=
   .ref 0 H.length (.sq c x) _ rfl (by simp[lenO]) (by rfl)
  exact Yb2 (Xs:=[]) (pls:=pls) (m:=[0]) (s:=⟨env,H++[some ⟨c.width,x.map c.enc⟩],H.length⟩) hrs hfr hr rfl (YIz _) (fun i hi=>absurd hi (Nat.not_lt_zero _)) (by simp) (List.nil_prefix) ht rfl h9
 refine YkF hw0 (l:=x.map c.enc) (fun e he=> ?_) (by simp_all) (by rfl) (fun h0 env he=> ?_) (fun env he=>fin env he)
 ·obtain⟨w,_,rfl⟩:=YH2.1 he
  exact Ya8 c w
 ·refine⟨_,YfG he hw0,?_⟩
  have:=fin ((2,.ref H.length 0 0)::env) (by rw[h0];rfl)
  simp_all
theorem YsO{P:Program}{fm:FM}{C:Ctx}(hC:CtxOK P fm C)(hm:P.follows .mixedOrders=true){f:FuncId}{g n:Nat}{c:Cs}{z:List Value}(h:fnTr P fm C.pf f=some (n,[.t 2],YDr c.width z))(hn:1<=n):
  FOK P fm f (vcloneE g c).RI:=by
 refine YfE hC hm h (by simp) ?_
 rintro args H r H' ⟨x,y,vs,Xs,pls,Kp,v,l,X2,h1,h2,h3,hct,hrs,hfr,hall,h5,h6,h7,h8,h9,h10,rfl,rfl⟩
 have key: ∀(x y:List c.den),(bif YIs x.length maxEl&&YIs 1 c.width then some x else none)=some y->Sg.fill ⟨[0],[.l c],[],.cons (.l c) .nil⟩ x=some ⟨zipE [0] vs,Xs⟩->vs.length=1->YC4 (.ref 0) (unp (.cons (.l c) .nil) y)=some (v,l)->YC9 [.sq c] l=some (X2,[])->
   x.length<=maxEl/\0<c.width/\vs=[.l c x]/\Xs=[]/\v= .ref 0/\X2=[some (.sq c x)]:=by
  intro x y hF hfill hlen e5 e6
  obtain⟨hb,hF⟩:=Yab hF
  injection hF with hF;subst hF
  simp at hb
  have hu:unp (.cons (.l c) .nil) x=[⟨.l c,x⟩]:=rfl
  unfold Sg.fill at hfill
  simp only[hu,YDi,YC4,YaY,YC9]at hfill
  injection hfill with hfill;injection hfill with hz hX
  obtain⟨w0,rfl⟩:=List.length_eq_one_iff.1 hlen
  simp only[zipE,List.cons.injEq,Prod.mk.injEq,and_true,true_and]at hz
  simp only[hu,YC4,Option.some.injEq,Prod.mk.injEq]at e5
  obtain⟨rfl,rfl⟩:=e5
  simp only[YC9,YDM,YaY,Option.some.injEq,Prod.mk.injEq,and_true]at e6
  grind
 have hlen:vs.length=1:=by
  unfold Sg.read at h2
  split at h2
  ·rename_i svs sos k1 k2
   obtain⟨e1,_⟩:=Yab h2
   simp at e1
   have:=SV.eqs_of e1.1
   rw[<-YbI k1,this];rfl
  trivial
 obtain⟨k1,k2,rfl,rfl,rfl,rfl⟩:=key x y h1 (YaD h2) hlen h5 h6
 exact YsN (c:=c) x hn k1 k2 hct hrs hfr h9
def vclonePE(g:Nat)(c:Cs):FnE:=⟨g,true,⟨[0],[.l c],[],.cons (.l c) .nil⟩,.l c,[],.cons (.l c) .nil,
 fun(l:List c.den)=>bif YIs l.length maxEl&&YIs 1 c.width then some l else none⟩
theorem YsP{P:Program}{fm:FM}{C:Ctx}(hC:CtxOK P fm C)(hm:P.follows .mixedOrders=true){f:FuncId}{g n:Nat}{c:Cs}{z:List Value}(h:fnTr P fm C.pf f=some (n,[.t 2],YDr c.width z))(hn:1<=n):
  FOK P fm f (YDR (vclonePE g c).R):=by
 refine Yjj hC hm h (by simp) ?_
 rintro args r ⟨x,y,vs,v,h1,h2,h3,rfl,h5,h6,rfl⟩
 have key: ∀(x y:List c.den),(bif YIs x.length maxEl&&YIs 1 c.width then some x else none)=some y->Sg.fill ⟨[0],[.l c],[],.cons (.l c) .nil⟩ x=some ⟨zipE [0] vs,[]⟩->vs.length=1->YC4 (.l c) (unp (.cons (.l c) .nil) y)=some (v,[])->
   x.length<=maxEl/\0<c.width/\vs=[.l c x]/\v= .l c x:=by
  intro x y hF hfill hlen e5
  obtain⟨hb,hF⟩:=Yab hF
  injection hF with hF;subst hF
  simp at hb
  have hu:unp (.cons (.l c) .nil) x=[⟨.l c,x⟩]:=rfl
  unfold Sg.fill at hfill
  simp only[hu,YDi,YC4,YaY,YC9]at hfill
  injection hfill with hfill;injection hfill with hz _
  obtain⟨w0,rfl⟩:=List.length_eq_one_iff.1 hlen
  simp only[zipE,List.cons.injEq,Prod.mk.injEq,and_true,true_and]at hz
  simp only[hu,YC4,YaY,Option.some.injEq,Prod.mk.injEq,and_true]at e5
  grind
 have hlen:vs.length=1:=by
  unfold Sg.read at h2
  split at h2
  ·rename_i svs sos k1 k2
   obtain⟨e1,_⟩:=Yab h2
   simp at e1
   have:=SV.eqs_of e1.1
   rw[<-YbI k1,this];rfl
  trivial
 obtain⟨k1,k2,rfl,rfl⟩:=key x y h1 (YaD h2) hlen h5
 clear h1 h2 h5 key hlen h3 h6
 generalize hxx:(show List c.den from x)=xx
 subst hxx
 refine⟨by trivial,fun k=> ?_⟩
 have main: ∀x:List c.den,x.length<=maxEl->Sat C (YDr c.width z) (RetP k [.t 2] (avT (.l c x))) ⟨YDm 0 (avTs [.l c x]),Z k [],k⟩:=by
  intro x k1
  have fin: ∀env,YC1 env 2= .ref (Z k []).length 0 (x.map c.enc).length->RetP k [.t 2] (avT (.l c x)) .ret ⟨env,Z k []++[some ⟨c.width,x.map c.enc⟩],k⟩:=by
   intro env he
   refine⟨rfl,[YC1 env 2],⟨rfl,trivial⟩,?_⟩
   simp only[tupR,he]
   have hrow:Rows (x.map c.enc) c x:=by
    refine⟨by simp,fun i e v' k1 k2=> ?_⟩
    rw[YHW,k2,YIE]at k1
    injection k1 with k1;subst k1
    exact⟨rfl,fun j x x' k1 k2=>by rw[k1]at k2;injection k2 with k2;subst k2;exact .refl _⟩
   obtain⟨hr,_⟩:=Yap (Ykx k) (.sq c x) ⟨c.width,x.map c.enc⟩ (fun _=>⟨(Z k []).length,x.map c.enc,by rfl,by simp,k2,hrow⟩)
   have ht:TR ([]++[some (VObj.sq c x)]) (plS (fun _=>none) (.m 0) (some (Z k []).length)) (.ref 0) (.ref (Z k []).length 0 (x.map c.enc).length):=
    .ref 0 (Z k []).length (.sq c x) _ rfl (by simp[lenO]) (by rfl)
   exact Yku hr ht rfl
  refine YkF (by trivial) (l:=x.map c.enc) (fun e he=> ?_) (by simp_all) (by rfl) (fun h0 env he=> ?_) (fun env he=>fin env he)
  ·obtain⟨w,_,rfl⟩:=YH2.1 he
   exact Ya8 c w
  ·refine⟨_,YfG he k2,?_⟩
   have:=fin ((2,.ref (Z k []).length 0 0)::env) (by rw[h0];rfl)
   simp_all
 grind
theorem YsQ{P:Program}{fm:FM}{T:Tabs}(hS:YDe P fm T)(hm:P.follows .mixedOrders=true){g:Nat}(c:Cs)(hp:T.pf g=true)(z:List Value)(n:Nat)(hn:1<=n)
  (htie: ∀f,fm f=g->fnTr P fm T.pf f=some (n,[.t 2],YDr c.width z)):YDe P fm ⟨T.pf,vclonePE g c::T.fs,T.ls,0⟩:=by
 obtain⟨C,hC,hT⟩:=hS
 exact⟨YDv C g (YDR (vclonePE g c).R),YaI hC (fun _=>Yct _) (fun f hf=>YsP hC hm (by rw[hT.p.pf];exact htie f hf) hn),YcO (e:=vclonePE g c) hT hp⟩
theorem Ygf{P:Program}{fm:FM}{T:Tabs}(hS:YDe P fm T)(hm:P.follows .mixedOrders=true){g:Nat}(c:Cs)(hp:T.pf g=false)(z:List Value)(n:Nat)(hn:1<=n)
  (htie: ∀f,fm f=g->fnTr P fm T.pf f=some (n,[.t 2],YDr c.width z)):YDe P fm ⟨T.pf,vcloneE g c::T.fs,T.ls,0⟩:=by
 obtain⟨C,hC,hT⟩:=hS
 have hpC:C.pf g=true->Pure (vcloneE g c).RI:=fun h=>by rw[hT.p.pf,hp]at h;cases h
 exact⟨YDv C g (vcloneE g c).RI,YaI hC hpC (fun f hf=>YsO hC hm (by rw[hT.p.pf];exact htie f hf) hn),Ybc (e:=vcloneE g c) hT (fun h=>by rw[show(vcloneE g c).g=g from rfl,hp]at h;cases h) (fun _ _ _ _ _ h=>h)⟩
end Go.Abs
