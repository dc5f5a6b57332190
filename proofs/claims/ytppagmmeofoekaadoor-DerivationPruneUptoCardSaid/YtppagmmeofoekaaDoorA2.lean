/- What each operation but calls does over typed values is what it does in the abstract form. No condition. -/
import Derived.Test.YtppagmmeofoekaaDoorA1
set_option linter.unusedVariables false
set_option linter.unusedSimpArgs false
set_option linter.unusedSectionVars false
open List renaming getElem?_eq_getElem → YwO, getElem?_eq_some_iff → YwP, mem_of_getElem? → YwQ, getElem?_map → YwR, map_cons → YwS, getElem?_append_left → YwU, getElem?_set_ne → YwV, mem_iff_getElem? → YwW, map_nil → YwX, length_map → YwY, length_eq_zero_iff → YwZ, getElem?_append_right → Yw0, all_eq_true → Yw1, mem_cons → Yw2, mem_map → Yw3, getElem?_set_self → Yw4, length_set → Yw5, mem_cons_self → Yw6, getElem?_eq_none → Yw7, getElem?_take → Yw8, append_assoc → Yw9, getElem_mem → Yxa, getElem?_range → Yxb, ext_getElem? → Yxc, nil_append → Yxd, length_cons → Yxe, mem_singleton → Yxf, cons_append → Yxg, getElem?_drop → Yxh, mem_append → Yxi, map_append → Yxk, length_append → Yxl, length_singleton → Yxn, take_length → Yxo, getElem?_replicate → Yxp
open Nat renaming beq → Yxr, le_refl → Yxs, eq_of_beq_eq_true → Yxt, blt → Yxu, ble → Yxv, lt_of_lt_of_le → Yxw, zero_add → Yxx, zero_le → Yxz, le_of_ble_eq_true → YxC
open Option renaming map_eq_some_iff → YxE, map_some → YxF, isSome_iff_exists → YxH, getD_some → YxI
open Bool renaming and_eq_true → YxL, eq_iff_iff → YxN, or_eq_true → YxP, and_self → YxQ
open Int renaming toNat_natCast → YxR
open Array renaming getD_eq_getD_getElem? → YxS, getElem?_eq_getElem → YxV
open ByteArray renaming mk → YxW
namespace Go.Abs
open Go Go.RowKit
def er3(ps:List (Nat×Nat×VOpd)):List (Nat×Nat×Opd):=ps.map fun p=>(p.1,p.2.1,p.2.2.er)
def er2(ps:List (Nat×VOpd)):List (Nat×Opd):=ps.map fun p=>(p.1,p.2.er)
def kstr:Option IntKind->Bool
 |none=>true
 |some _=>false
def mzA(ag:Bool)(V:Cs):AV:=
 match ag with
 |true=>.agg (V.zeros.map zc)
 |false=>match V.zeros.map zc with
  | [x]=>x
  |_=>.u
def VOp.aop:VOp->AOp
 | .mm mx xs=>.pv (.mm mx) (xs.map VOpd.er)
 | .emz x lo hi mx=>.pv .emz [x.er,lo.er,hi.er,mx.er]
 | .mv x=>.mv x.er
 | .mvp x=>.mv x.er
 | .pick c a b=>.pick c.er a.er b.er
 | .box x=>.box x.er
 | .alloc z=>.alloc (z.map K1.val)
 | .build z ps=>.build (z.map K1.val) (er3 ps)
 | .bsl c n ps=>.bsl c.width c.zeros n (er2 ps)
 | .bslT c n ps=>.bsl c.width c.zeros n (er2 ps)
 | .load g n x=>.load g n x.er
 | .loadR g n x=>.loadR g n x.er
 | .store n x y=>.store n x.er y.er
 | .nilc x=>.nilc x.er
 | .bin op x y=>.bin op x.er y.er
 | .beq ng x y=>.beq ng x.er y.er
 | .eqa ng ks x y=>.eqa ng ks x.er y.er
 | .not x=>.not x.er
 | .neg x=>.neg x.er
 | .conv k x=>.conv k x.er
 | .cvs x=>.cvs x.er
 | .fad off x=>.fad off x.er
 | .fld g off n x=>.fld g off n x.er
 | .iad es x i=>.iad es x.er i.er
 | .iada es n x i=>.iada es n x.er i.er
 | .idx x i=>.idx x.er i.er
 | .slcS x lo hi=>.slcS x.er (lo.map VOpd.er) (hi.map VOpd.er)
 | .slcR es x lo hi=>.slcR es x.er (lo.map VOpd.er) (hi.map VOpd.er)
 | .ext x i=>.ext x.er i
 | .len x=>.len x.er
 | .lenS x=>.lenS x.er
 | .app c _ s x=>.app c.width s.er x.er
 | .mksl c _ n cp=>.mksl c.width c.zeros n.er cp.er
 | .call f xs=>.call f (xs.map VOpd.er)
 | .callF f xs=>.call f (xs.map VOpd.er)
 | .dyn x xs=>.dyn x.er (xs.map VOpd.er)
 | .dynP x xs=>.dynP x.er (xs.map VOpd.er)
 | .callN f xs d=>.callN f (xs.map VOpd.er) d
 | .mkf f xs=>.mkf f (xs.map VOpd.er)
 | .lit c xs=>.px (.lit c.width) (xs.map VOpd.er)
 | .appD c s x=>.px (.appD c.width) [s.er,x.er]
 | .apps s x=>.px .apps [s.er,x.er]
 | .appb s x=>.px .appb [s.er,x.er]
 | .appDb s x=>.px .appDb [s.er,x.er]
 | .litb xs=>.px .litb (xs.map VOpd.er)
 | .bstr x=>.px .bstr [x.er]
 | .bld=>.px .bld []
 | .sbyt x=>.pv .sbyt [x.er]
 | .isp ng x=>.pv (.isp ng) [x.er]
 | .isi ng x=>.pv (.isi ng) [x.er]
 | .add64 xs=>.pv .add64 (xs.map VOpd.er)
 | .sub64 xs=>.pv .sub64 (xs.map VOpd.er)
 | .mkm o t V ag=>.px (.mkm (knd ag) (mapC o t V).width) []
 | .mkmF o c=>.px (.mkm 1 3) []
 | .mget o t V ag ok m k=>.px (.mget (kstr o) (knd ag) ok) [m.er,k.er,.c (mzA ag (.cons t V))]
 | .mput o t V ag m k v=>.px (.mput (kstr o) (knd ag) (mapC o t V).width) [m.er,k.er,v.er]
 | .mdel o t V m k=>.px (.mdel (kstr o) (mapC o t V).width) [m.er,k.er]
 | .mlen m=>.px .mlen [m.er]
 | .mrng m=>.px .mrng [m.er]
 | .ment _ _ _ _ it=>.px .ment [it.er]
 | .mnxt it=>.px .mnxt [it.er]
 | .cpy c d s=>.px (.cpy c.width) [d.er,s.er]
section
variable{Fr:Nat->Prop}{H0:Heap}{X:YtI}{pl:Pl}{H:Heap}{β:Type}{r:β}{env:VEnv}{ae:Env}
def Nxt(Fr:Nat->Prop)(H0:Heap)(X:YtI)(pl:Pl)(H:Heap)(v:TV)(X':YtI)(va:AV)(us:List Upd):Prop:=
 ∃pl',TR X' pl' v va/\ (HRel Fr H0 X' pl' (Yt1 H us)/\Ext X pl X' pl')/\
  (X'.length=X.length\/(X'.length=X.length+1/\pl' (.m X.length)=some H.length))
theorem Nxt.same(hr:HRel Fr H0 X pl H){v:TV}{va:AV}(h:TR X pl v va):Nxt Fr H0 X pl H v X va []:=⟨pl,h,⟨hr,Ext.refl _ _⟩,.inl rfl⟩
theorem Yaq{x:Nat}{o:AObj}(h:H[x]?=some (some o)){K:AObj->Prop}(hk:K o):objK (hf H) x K:=⟨o,h,hk⟩
theorem YaA{c:Cs}{l:List c.den}{i:Nat}(h:i<l.length):l[i]?=some (getI c l i):=by
 simp[getI,List.getD,h]
theorem strA_len'(s:ByteArray):(strA s).length=s.size:=by
 simp[strA,Ya0]
theorem YnS{s:ByteArray}{i:Nat}(h:i<s.size):(strA s)[i]?=some [.v (.int .u8 (YvB s i))]:=by
 have h':i<s.data.size:=h
 unfold strA YvB
 rw[Ya0,YwR,Array.getElem?_toList,YxV h',YxR,YxS,YxV h']
 rfl
theorem Ybm{a i j:Nat}{ax:AV}{o:VObj}(ho:vget X a=some o)(h:TR X pl (.ptr a i j) ax): ∃x,ax= .ptr x i j/\pl (.m a)=some x/\i<elN o:=by
 cases h with
 |ptrD _ _ _ _ hd=>simp_all
 |ptr _ _ _ x o' ho' hi hp=>simp_all
theorem Yan{a:Nat}{ax:AV}{o:VObj}(ho:vget X a=some o)(h:TR X pl (.ref a) ax): ∃x n,ax= .ref x 0 n/\pl (.m a)=some x/\lenO o=some n:=by
 cases h with
 |refD _ _ hd=>simp_all
 |ref _ x o' n ho' hn hp=>simp_all
theorem Yb4{a:Nat}{m:Int}{ax:AV}{o:VObj}(ho:vget X a=some o)(h:TR X pl (.pre a m) ax): ∃x n,ax= .ref x 0 m.toNat/\pl (.m a)=some x/\lenO o=some n/\0<=m/\m.toNat<=n:=by
 cases h with
 |preD _ _ _ hd=>simp_all
 |pre _ x _ o' n ho' hn hp h0 hm=>simp_all
theorem YbG{a ver i:Nat}{ax:AV}{hd:Hd}{c:Cs}{l:List (sn c hd.A).den}(ho:vget X a=some (.fm hd c ver none l))(h:TR X pl (.sub a ver i) ax):
  (∃y,ax= .ref y 0 (owI hd c l i).length/\i<l.length/\pl (.n a i)=some y)\/(ax= .emp/\pl (.n a i)=none/\owI hd c l i=[]):=by
 cases h with
 |subD _ _ _ _ hd=>
  obtain⟨hd',c',v',h',l',e,hd⟩:=hd _ ho
  injection e with e0 e1 e2 e3
  subst e2;subst e3
  rcases hd with hd|hd
  ·omega
  ·exact absurd rfl hd.2
 |sub _ _ _ y hd' c' l' ho' hi hp=>
  rw[ho]at ho';injection ho' with ho';injection ho' with e0 e1 _ _ e3
  subst e0;subst e1;have e3:=eq_of_heq e3;subst e3
  exact .inl ⟨y,rfl,hi,hp⟩
 |sube _ _ _ hd' c' l' ho' hp h0=>
  rw[ho]at ho';injection ho' with ho';injection ho' with e0 e1 _ _ e3
  subst e0;subst e1;have e3:=eq_of_heq e3;subst e3
  exact .inr ⟨rfl,hp,h0⟩
theorem YdI{a ver i k j:Nat}{ax:AV}{hd:Hd}{c:Cs}{l:List (sn c hd.A).den}(ho:vget X a=some (.fm hd c ver none l))(h:TR X pl (.pti a ver i k j) ax):
  ∃y,ax= .ptr y k j/\i<l.length/\k< (owI hd c l i).length/\pl (.n a i)=some y:=by
 cases h with
 |ptiD _ _ _ _ _ _ hd=>
  obtain⟨hd',c',v',h',l',e,hd⟩:=hd _ ho
  injection e with e0 e1 e2 e3
  subst e2;subst e3
  rcases hd with hd|hd
  ·omega
  ·exact absurd rfl hd.2
 |pti _ _ _ _ _ y hd' c' l' ho' hi hkk hp=>
  rw[ho]at ho';injection ho' with ho';injection ho' with e0 e1 _ _ e3
  subst e0;subst e1;have e3:=eq_of_heq e3;subst e3
  exact⟨y,rfl,hi,hkk,hp⟩
theorem YnT{a ver i:Nat}{hd:Hd}{c:Cs}{l:List (sn c hd.A).den}{e:List AV}(ho:vget X a=some (.fm hd c ver none l))(h:ElR pl H a hd c none i e (getI (sn c hd.A) l i))(hi:i<l.length){cs:List TV}(hcs:cs=cells hd.A (daI hd c l i)++[TV.sub a ver i]):CT X pl cs e:=by
 obtain⟨d,r,rfl,h2,h3⟩:=h
 subst hcs
 refine(Ybb hd.A _ h2).append (.cons ?_ .nil)
 rcases h3 (by simp)with⟨y,el',g1,g2,g3,g4⟩| ⟨g0,g1,g2,g3⟩
 ·rw[g2];exact .sub a ver i y hd c l ho hi g1
 ·rw[g3];exact .sube a ver i hd c l ho g1 g2
theorem YcO(hr:HRel Fr H0 X pl H){a ver i y:Nat}{hd:Hd}{c:Cs}{l:List (sn c hd.A).den}(ho:vget X a=some (.fm hd c ver none l))(hi:i<l.length)(hp:pl (.n a i)=some y): ∃el',H[y]?=some (some ⟨c.width,el'⟩)/\Rows el' c (owI hd c l i):=by
 obtain⟨x',el,h1,h2,h3,h4,h6⟩:=hr.obj a _ ho
 have hie:i<el.length:=by omega
 obtain⟨d,r,_,_,q⟩:=h6 i _ _ (YwO hie) (YaA hi)
 rcases q (by simp)with⟨y',el',g1,g2,g3,g4⟩| ⟨_,g1,_⟩
 ·rw[hp]at g1;injection g1 with g1;subst g1
  exact⟨el',g3,g4⟩
 ·rw[hp]at g1;cases g1
theorem Yil{g:Bool}{n:Nat}{x:TV}{ax:AV}{K:TV->YtI->Option β}(h:YvY g n x X K=some r)(hx:TR X pl x ax)(hr:HRel Fr H0 X pl H){KA:AV->Prop}
  (hk: ∀v va,K v X=some r->TR X pl v va->KA va):
  (match(generalizing:=false) ax with
   | .rp cs=>Yul g n cs KA
   | .ptr a i j=>objK (hf H) a fun o=> ∃e,o.el[i]?=some e/\Yul g n (e.drop j) KA
   |_=>False):=by
 have lc: ∀{cs:List TV} {as:List AV},(match YuP g n cs with|some a=>K a X|none=>none)=some r->CT X pl cs as->Yul g n as KA:=by
  intro cs as h hc
  split at h
  ·rename_i v hv;exact Yic hv hc (fun a ha=>hk v a h ha)
  trivial
 unfold YvY at h
 split at h
 ·cases hx with
  |rp _ as hl hc=>exact lc h ⟨hl,hc⟩
 ·rename_i a i j
  cases ho:vget X a with
  |none=>simp_all
  |some o=>
   cases hx with
   |ptrD _ _ _ _ hd=>simp_all
   |ptr _ _ _ x o' ho' hi hp=>
    rw[ho]at ho';injection ho' with ho';subst ho'
    have hob:=hr.obj a o ho
    rw[ho]at h
    cases o with
    |sq c l=>
     obtain⟨x',el,h1,h2,h3,h4⟩:=hob
     rw[hp]at h1;injection h1 with h1;subst h1
     simp only[elN]at hi
     have hie:i<el.length:=by rw[h4.1];exact hi
     refine Yaq h2 ⟨el[i],YwO hie,lc h ?_⟩
     exact(Ybb c _ (h4.2 i _ _ (YwO hie) (YaA hi))).drop j
    |st cs=>
     obtain⟨x',e,h1,h2,h3,h4⟩:=hob
     rw[hp]at h1;injection h1 with h1;subst h1
     simp only at h
     obtain⟨e1,e2⟩:=Yaa h
     have:=Yxt e1;subst this
     exact Yaq h2 ⟨e,rfl,lc e2 (h4.drop j)⟩
    |sb s=>
     obtain⟨x',h1,h2⟩:=hob
     rw[hp]at h1;injection h1 with h1;subst h1
     simp only[elN]at hi
     simp only at h
     split at h
     ·exact Yaq h2 ⟨_,YnS hi,_,rfl,hk _ _ h (.i _ _)⟩
     trivial
    |fm hd c ver hole l=>
     cases hole with
     |some _=>cases h
     |none=>
     obtain⟨x',el,h1,h2,h3,h4,h6⟩:=hob
     rw[hp]at h1;injection h1 with h1;subst h1
     simp only at h
     obtain⟨e0,h⟩:=Yaa h
     cases hd with
     |mp o n=>cases e0
     |rw A nn=>
     simp only[elN]at hi
     have hie:i<el.length:=by omega
     refine Yaq h2 ⟨el[i],YwO hie,lc h ?_⟩
     exact(YnT ho (h6 i _ _ (YwO hie) (YaA hi)) hi rfl).drop j
 ·rename_i a ver i k j
  split at h
  ·rename_i hd c ver' l ho
   obtain⟨e1,e2⟩:=Yaa h
   have:=Yxt e1;subst this
   obtain⟨y,rfl,hi,hkk,hp⟩:=YdI ho hx
   obtain⟨el',g3,g4⟩:=YcO hr ho hi hp
   have hke:k<el'.length:=by rw[g4.1];omega
   exact Yaq g3 ⟨el'[k],YwO hke,lc e2 ((Ybb c _ (g4.2 k _ _ (YwO hke) (YaA hkk))).drop j)⟩
  trivial
 trivial
theorem Yim{el:List (List AV)}{c:Cs}{l:List c.den}{i:Nat}{e:List AV}{v:c.den}(h:Rows el c l)(he:CC e (c.enc v)):Rows (el.set i e) c (l.set i v):=by
 refine⟨by simp[h.1],fun k f w h1 h2=> ?_⟩
 by_cases hk:k=i
 ·grind
 ·rw[YwV (Ne.symm hk)]at h1 h2
  exact h.2 k f w h1 h2
theorem YbH{y:TV}{ay:AV}{cs:List TV}(hc:YtY X y=some cs)(hy:TR X pl y ay){K:List AV->Prop}(hk: ∀as,CT X pl cs as->K as):YuJ ay K:=by
 obtain⟨as,h1,h2⟩:=Yff hc hy
 exact⟨as,h1,hk as h2⟩
theorem YnU{n:Nat}{x y:TV}{ax ay:AV}{K:TV->YtI->Option β}(h:YvI n x y X K=some r)(hx:TR X pl x ax)(hy:TR X pl y ay)(hr:HRel Fr H0 X pl H){KA:AV->List Upd->Prop}
  (hk: ∀v X' va us,K v X'=some r->Nxt Fr H0 X pl H v X' va us->KA va us):
  (match(generalizing:=false) ax with
   | .ptr a i j=>objK (hf H) a fun o=> ∃e,o.el[i]?=some e/\YuJ ay fun cs=>cs.length=n/\j+n<=e.length/\KA .u [.set a (some ⟨o.es,o.el.set i (splice e j cs)⟩)]
   |_=>False):=by
 unfold YvI at h
 split at h
 ·rename_i a i j
  cases ho:vget X a with
  |none=>simp_all
  |some o=>
   obtain⟨x,rfl,hp,hi⟩:=Ybm ho hx
   have hob:=hr.obj a o ho
   rw[ho]at h
   cases o with
   |sq c l=>
    obtain⟨x',el,h1,h2,h3,h4⟩:=hob
    rw[hp]at h1;injection h1 with h1;subst h1
    simp only[elN]at hi h
    have hie:i<el.length:=by rw[h4.1];exact hi
    split at h
    ·rename_i cs hcs
     obtain⟨e1,e2⟩:=Yaa h
     simp only[YxL]at e1
     split at e2
     ·rename_i e' he'
      have hcc:=h4.2 i _ _ (YwO hie) (YaA hi)
      refine Yaq h2 ⟨el[i],YwO hie,YbH hcs hy (fun as has=>⟨by rw[<-has.1];simp_all,?_,?_⟩)⟩
      ·rw[hcc.1,Yax];simp_all
      ·refine hk .u _ .u _ e2 ⟨pl,.u _,?_,.inl (Yac _ _ _)⟩
       exact Yb2 hr ho hp _ (by simp[elN]) (by simp[lenO]) (fun _ _ _ _ _ e=>by cases e) (fun _ _ _ _ _ e=>by cases e) (fun hx=>⟨x,_,hp,Yw4 (YwP.1 h2).1,h3,Yim h4 (Ybc he' ((Ybb c _ hcc).spl has j))⟩)
     trivial
    trivial
   |st ds=>
    obtain⟨x',e,h1,h2,h3,h4⟩:=hob
    rw[hp]at h1;injection h1 with h1;subst h1
    simp only at h
    split at h
    ·rename_i cs hcs
     obtain⟨e1,e2⟩:=Yaa h
     simp only[YxL]at e1
     have:=Yxt e1.1.1;subst this
     have hn:=Yxt e1.1.2
     have hjn:j+n<=ds.length:=by simp_all
     refine Yaq h2 ⟨e,rfl,YbH hcs hy (fun as has=>⟨by rw[<-has.1];exact hn,by rw[<-h4.1];omega,?_⟩)⟩
     refine hk .u _ .u _ e2 ⟨pl,.u _,?_,.inl (Yac _ _ _)⟩
     have hlen:(spl ds j cs).length=ds.length:=by simp[spl];omega
     exact Yb2 hr ho hp _ rfl rfl (fun _ _ _ _ _ e=>by cases e) (fun _ _ _ _ _ e=>by cases e) (fun hx=>⟨x,splice e j as,hp,by grind,by omega,(h4.spl has j).ext hx⟩)
    trivial
   |sb s=>cases h
   |fm hd c ver hole l=>
    obtain⟨x',el,h1,h2,h3,h4,h6⟩:=hob
    rw[hp]at h1;injection h1 with h1;subst h1
    simp only at h
    have e0:=(Yaa h).1
    replace h:=(Yaa h).2
    cases hd with
    |mp o n=>cases e0
    |rw A nn=>
    simp only[elN]at hi
    have hie:i<el.length:=by omega
    have hei:=YwO hie
    obtain⟨d,r0,q1,q2,q3⟩:=h6 i _ _ hei (YaA hi)
    have hdl:d.length=A.width:=by rw[q2.1,Yax]
    have hel1:el[i].length=A.width+1:=by rw[q1];simp[hdl]
    cases hb:(Yxr j A.width&&Yxr n 1)with
    |true=>
     rw[hb,cond_true]at h
     simp only[YxL]at hb
     have hj:=Yxt hb.1;subst hj
     have hn:=Yxt hb.2;subst hn
     cases y with
     |ref m=>
      simp only at h
      cases hma:Yxr m a with
      |true=>rw[hma]at h;cases h
      |false=>
       rw[hma,cond_false]at h
       have hne:m≠a:=fun e=>by simp_all
       split at h
       ·rename_i c' lm hm
        split at h
        ·rename_i lm' hlm
         obtain⟨ec,el0⟩:=Yaz hlm
         subst ec;subst el0
         obtain⟨y,k,rfl,hpm,hn⟩:=Yan hm hy
         simp only[lenO]at hn;injection hn with hn;subst hn
         have key:(hole=none\/hole=some i)->K .u (vset (vset X m none) a (some (.fm (.rw A nn) c' (ver+1) none (setO (.rw A nn) c' l i lm))))=some r->
           objK (hf H) x fun o=> ∃e,o.el[i]?=some e/\YuJ (.ref y 0 lm.length) fun cs=>cs.length=1/\A.width+1<=e.length/\KA .u [.set x (some ⟨o.es,o.el.set i (splice e A.width cs)⟩)]:=by
          intro hh hK
          obtain⟨pl',k1,k2⟩:=YnO hr ho hp hm hpm hne hi hh h2 hei
          exact Yaq h2 ⟨el[i],hei,[.ref y 0 lm.length],rfl,rfl,by omega,hk .u _ .u _ hK ⟨pl',.u _,⟨k1,k2⟩,.inl (by rw[Yac,Yac])⟩⟩
         split at h
         ·exact key (.inl rfl) h
         ·obtain⟨e3,e4⟩:=Yah h
          exact key (.inr (by rw[e3])) e4
        trivial
       trivial
     |e cz=>
      simp only at h
      cases nn with
      |true=>cases h
      |false=>
      simp only[Hd.nn,cond_false]at h
      split at h
      ·cases hy
       obtain⟨pl',k1,k2⟩:=YnP hr ho hp hi h2 hei
       exact Yaq h2 ⟨el[i],hei,[.emp],rfl,rfl,by omega,hk .u _ .u _ h ⟨pl',.u _,⟨k1,k2⟩,.inl (Yac _ _ _)⟩⟩
      ·cases h
     |_=>cases h
    |false=>
     rw[hb,cond_false]at h
     split at h
     ·rename_i cs hcs
      have e1:=(Yaa h).1
      replace h:=(Yaa h).2
      simp only[YxL]at e1
      have hn:=Yxt e1.1
      have hjn:j+n<=A.width:=YxC e1.2
      split at h
      ·rename_i dv hdv
       refine Yaq h2 ⟨el[i],hei,YbH hcs hy (fun as has=>⟨by rw[<-has.1];exact hn,by omega,?_⟩)⟩
       have hal:as.length=n:=by rw[<-has.1];exact hn
       have hcc:=Ybc hdv ((Ybb A _ q2).spl has j)
       have hspl:splice el[i] j as=splice d j as++[r0]:=by
        rw[q1];unfold splice
        rw[List.take_append_of_le_length (by omega),List.drop_append_of_le_length (by omega),Yw9,Yw9,Yw9]
       obtain⟨k1,k2⟩:=YnR (d:=dv) (g:=splice d j as) (f:=d) (r0:=r0) hr ho hp hi h2 (by rw[hei,q1]) hcc hdl
       rw[<-hspl]at k1
       exact hk .u _ .u _ h ⟨pl,.u _,⟨k1,k2⟩,.inl (Yac _ _ _)⟩
      ·cases h
     ·cases h
 ·rename_i a ver i k j
  split at h
  ·rename_i hd c ver' l ho
   split at h
   ·rename_i cs hcs
    obtain⟨e1,e2⟩:=Yaa h
    simp only[YxL]at e1
    have:=Yxt e1.1.1;subst this
    obtain⟨y',rfl,hi,hkk,hp⟩:=YdI ho hx
    split at e2
    ·rename_i e' he'
     obtain⟨el',g3,g4⟩:=YcO hr ho hi hp
     have hke:k<el'.length:=by rw[g4.1];omega
     have hcc:=g4.2 k _ _ (YwO hke) (YaA hkk)
     refine Yaq g3 ⟨el'[k],YwO hke,YbH hcs hy (fun as has=>⟨by rw[<-has.1];simp_all,?_,?_⟩)⟩
     ·rw[hcc.1,Yax];simp_all
     ·refine hk .u _ .u _ e2 ⟨pl,.u _,?_,.inl (Yac _ _ _)⟩
      exact YnQ hr ho hi hp (by simp) (Yim g4 (Ybc he' ((Ybb c _ hcc).spl has j)))
    trivial
   trivial
  trivial
 trivial
theorem YnV{es:Nat}{x i:TV}{ax ai:AV}{K:TV->YtI->Option β}(h:viad es x i X K=some r)(hx:TR X pl x ax)(hi:TR X pl i ai)(hr:HRel Fr H0 X pl H){KA:AV->Prop}
  (hk: ∀v va,K v X=some r->TR X pl v va->KA va):
  intK ai fun n=>(match(generalizing:=false) ax with
   | .rd es' l=>es'=es/\0<=n/\ ∃e,l[n.toNat]?=some e/\KA (.rp e)
   | .ref a off len=>objK (hf H) a fun o=>wd o.es=es/\off+len<=o.el.length/\0<=n/\n<len/\KA (.ptr a (off+n.toNat) 0)
   |_=>False):=by
 unfold viad at h
 split at h
 ·rename_i k n
  cases hi
  refine⟨k,n,rfl,?_⟩
  split at h
  ·rename_i c v
   obtain⟨e1,e2⟩:=Yaa h
   obtain⟨e3,e4⟩:=Yah e2
   have hw:=Yxt e1
   have hlt:n.toNat<v.length:=by omega
   cases hx with
   |l _ _ _ hc=>
    rcases YaZ hc with⟨rfl,hb⟩| ⟨l0,rfl,hl,hcc⟩
    ·have:=congrArg List.length hb;grind
    ·simp at hl
     have hlt0:n.toNat<l0.length:=by omega
     refine⟨hw,e3.1,l0[n.toNat],YwO hlt0,hk _ _ e4 ?_⟩
     have:=Ybb (X:=X) (pl:=pl) c (getI c v n.toNat) (hcc _ _ _ (YwO hlt0) (by rw[YwR,YaA hlt];rfl))
     exact .rp _ _ this.1 this.2
  ·rename_i a
   split at h
   ·rename_i c l ho
    obtain⟨e1,e2⟩:=Yaa h
    obtain⟨e3,e4⟩:=Yah e2
    obtain⟨x,n',rfl,hp,hn⟩:=Yan ho hx
    simp only[lenO]at hn;injection hn with hn;subst hn
    obtain⟨x',el,h1,h2,h3,h4⟩:=hr.obj a _ ho
    rw[hp]at h1;injection h1 with h1;subst h1
    refine Yaq h2 ⟨(Yay h3).trans (Yxt e1),by simp[h4.1],e3.1,e3.2,hk _ _ e4 ?_⟩
    rw[Yxx]
    exact .ptr a _ 0 x _ ho (by simp only[elN];omega) hp
   ·rename_i A nn c ver hole l ho
    obtain⟨e1,e2⟩:=Yaa h
    obtain⟨e3,e4⟩:=Yah e2
    obtain⟨x,n',rfl,hp,hn⟩:=Yan ho hx
    simp only[lenO]at hn;injection hn with hn;subst hn
    obtain⟨x',el,h1,h2,h3,h4,_⟩:=hr.obj a _ ho
    rw[hp]at h1;injection h1 with h1;subst h1
    refine Yaq h2 ⟨(Yxt e1).symm,by show 0+l.length<=el.length;omega,e3.1,e3.2,hk _ _ e4 ?_⟩
    rw[Yxx]
    exact .ptr a _ 0 x _ ho (by simp only[elN];omega) hp
   ·rename_i s ho
    obtain⟨e1,e2⟩:=Yaa h
    obtain⟨e3,e4⟩:=Yah e2
    obtain⟨x,n',rfl,hp,hn⟩:=Yan ho hx
    simp only[lenO]at hn;injection hn with hn;subst hn
    obtain⟨x',h1,h2⟩:=hr.obj a _ ho
    rw[hp]at h1;injection h1 with h1;subst h1
    refine Yaq h2 ⟨(Yxt e1).symm,by rw[Yxx,strA_len'];omega,e3.1,e3.2,hk _ _ e4 ?_⟩
    rw[Yxx]
    exact .ptr a _ 0 x _ ho (by simp only[elN];omega) hp
   trivial
  ·rename_i a m
   split at h
   ·rename_i c l ho
    obtain⟨e1,e2⟩:=Yaa h
    obtain⟨e3,e4⟩:=Yah e2
    obtain⟨x,n',rfl,hp,hn,h0,hm⟩:=Yb4 ho hx
    simp only[lenO]at hn;injection hn with hn;subst hn
    obtain⟨x',el,h1,h2,h3,h4⟩:=hr.obj a _ ho
    rw[hp]at h1;injection h1 with h1;subst h1
    refine Yaq h2 ⟨(Yay h3).trans (Yxt e1),by rw[h4.1,Yxx];exact hm,e3.1,by omega,hk _ _ e4 ?_⟩
    rw[Yxx]
    exact .ptr a _ 0 x _ ho (by simp only[elN];omega) hp
   trivial
  ·rename_i a ver i
   split at h
   ·rename_i hd c ver' l ho
    obtain⟨e1,e2⟩:=Yaa h
    obtain⟨e3,e4⟩:=Yah e2
    simp only[YxL]at e1
    have:=Yxt e1.2;subst this
    rcases YbG ho hx with⟨y,rfl,hi,hp⟩| ⟨rfl,_,h0⟩
    ·obtain⟨x',el,k1,k2,k3,k4,_⟩:=hr.obj a _ ho
     obtain⟨el',g3,g4⟩:=YcO hr ho hi hp
     refine Yaq g3 ⟨(Yay k3).trans (Yxt e1.1),by simp[g4.1],e3.1,e3.2,hk _ _ e4 ?_⟩
     rw[Yxx]
     exact .pti a _ i _ 0 y hd c l ho hi (by omega) hp
    ·rw[h0]at e3;simp at e3;omega
   trivial
  trivial
 trivial
end
end Go.Abs
namespace Go.Abs
open Go Go.RowKit
section
variable{Fr:Nat->Prop}{H0:Heap}{X:YtI}{pl:Pl}{H:Heap}
theorem YdJ: ∀{l ds:List TV} {x:TV},unl l=some (ds,x)->l=ds++[x]
 | [],_,_,h=>by cases h
 | [a],ds,x,h=>by simp only[unl,Option.some.injEq,Prod.mk.injEq]at h;obtain⟨rfl,rfl⟩:=h;rfl
 |a::b::r,ds,x,h=>by
  simp only[unl]at h
  split at h
  ·rename_i l' x' h'
   injection h with h;injection h with h1 h2;subst h1;subst h2
   rw[YdJ (l:=b::r) h'];rfl
  ·cases h
theorem CT.unapp{ds:List TV}{x:TV}{f:List AV}(h:CT X pl (ds++[x]) f): ∃fd av,f=fd++[av]/\CT X pl ds fd/\TR X pl x av:=by
 have hl:=h.1
 rw[Yxl,Yxn]at hl
 refine⟨f.take ds.length,f[ds.length]'(by omega),?_,⟨by simp;omega,fun j c a h1 h2=> ?_⟩,?_⟩
 ·apply Yxc
  intro k
  by_cases hk:k<ds.length
  ·rw[YwU (by simp;omega),Yw8,if_pos hk]
  ·rw[Yw0 (by simp;omega)]
   by_cases hk2:k=ds.length
   ·subst hk2;simp[Nat.min_eq_left (show ds.length<=f.length by omega)]
   ·rw[Yw7 (by omega),Yw7 (by simp;omega)]
 ·rw[Yw8]at h2
  split at h2
  ·rename_i hj
   exact h.2 j c a (by rw[YwU hj];exact h1) h2
  ·cases h2
 ·exact h.2 ds.length x _ (by simp) (YwO (by omega))
theorem Yfi{e:List TV}{ax:AV}(h:TR X pl (.lt [e]) ax): ∃f,ax= .rd e.length [f]/\CT X pl e f:=by
 cases h with
 |lt es _ asx hl h0 hz hz' hc=>
  match asx,hl with
  | [f],_=>
    have h1:=hz e (Yw6 ..)
    have h2:=hz' f (Yw6 ..)
    subst h1
    exact⟨f,rfl,h2.symm,fun j c a k1 k2=>hc 0 j e f c a rfl rfl k1 k2⟩
theorem Yin{a:Nat}{hd:Hd}{c:Cs}{l:List (sn c hd.A).den}{el:List (List AV)}{src:Nat->Option Nat}{H':Heap}{e0:List AV}{v0:(sn c hd.A).den}(hel:el.length=l.length)(h6: ∀(i:Nat) (e:List AV) (v:(sn c hd.A).den),el[i]?=some e->l[i]?=some v->ElR pl H a hd c none i e v)
  (hs: ∀j,j<l.length->src j=pl (.n a j)) (hH: ∀j z,pl (.n a j)=some z->H'[z]?=H[z]?)
  (h0: ∃d r,e0=d++[r]/\CC d (hd.A.enc (da c hd.A v0))/\
   ((∃y el',src l.length=some y/\r= .ref y 0 (ow c hd.A v0).length/\H'[y]?=some (some ⟨c.width,el'⟩)/\Rows el' c (ow c hd.A v0))\/(hd.nn=false/\src l.length=none/\ow c hd.A v0=[]/\r= .emp)))
  (i:Nat) (e:List AV) (v:(sn c hd.A).den) (k1:(el++[e0])[i]?=some e) (k2:(l++[v0])[i]?=some v): ∃d r,e=d++[r]/\CC d (hd.A.enc (da c hd.A v))/\
   ((∃y el',src i=some y/\r= .ref y 0 (ow c hd.A v).length/\H'[y]?=some (some ⟨c.width,el'⟩)/\Rows el' c (ow c hd.A v))\/(hd.nn=false/\src i=none/\ow c hd.A v=[]/\r= .emp)):=by
 by_cases hi:i<l.length
 ·rw[YwU (by omega)]at k1
  rw[YwU hi]at k2
  obtain⟨d,r,q1,q2,q3⟩:=YaT (h6 i e v k1 k2) (by simp)
  refine⟨d,r,q1,q2,?_⟩
  rw[hs i hi]
  rcases q3 with⟨y,el',f1,f2,f3,f4⟩|h
  ·exact .inl ⟨y,el',f1,f2,(hH i y f1).trans f3,f4⟩
  ·exact .inr h
 ·have hi2:i=l.length:=by
   have:=(YwP.1 k2).1
   simp at this;omega
  subst hi2
  rw[Yw0 (by omega),hel,Nat.sub_self]at k1
  rw[Yw0 (by omega),Nat.sub_self]at k2
  injection k1 with k1;injection k2 with k2;subst k1;subst k2
  exact h0
theorem YnW(hr:HRel Fr H0 X pl H){a x m y:Nat}{A:Cs}{nn:Bool}{c:Cs}{ver:Nat}{l:List (sn c A).den}{lm:List c.den}{el:List (List AV)}{d:A.den}{fd:List AV}
  (ha:vget X a=some (.fm (.rw A nn) c ver none l)) (hp:pl (.m a)=some x) (hm:vget X m=some (.sq c lm)) (hpm:pl (.m m)=some y) (hne:m≠a) (hx:H[x]?=some (some ⟨A.width+1,el⟩)) (hfd:CC fd (A.enc d)):
  ∃pl',HRel Fr H0 (vset (vset X m none) a none++[some (.fm (.rw A nn) c 0 none (l++[mkE c A d lm]))]) pl' (H.set x none++[some ⟨A.width+1,el++[fd++[.ref y 0 lm.length]]⟩])/\
   Ext X pl (vset (vset X m none) a none++[some (.fm (.rw A nn) c 0 none (l++[mkE c A d lm]))]) pl'/\pl' (.m X.length)=some H.length:=by
 have hal:=Yab ha
 have hml:=Yab hm
 have hXl:(vset (vset X m none) a none).length=X.length:=by rw[Yac,Yac]
 obtain⟨x',el0,h1,h2,h3,h4,h6⟩:=hr.obj a _ ha
 rw[hp]at h1;injection h1 with h1;subst h1
 rw[hx]at h2;injection h2 with h2;injection h2 with h2;injection h2 with _ h2;subst h2
 obtain⟨y',elm,g1,g2,g3,g4⟩:=hr.obj m _ hm
 rw[hpm]at g1;injection g1 with g1;subst g1
 have hother: ∀(p:Pos) z,p≠ .m a->pl p=some z->(H.set x none++[some ⟨A.width+1,el++[fd++[AV.ref y 0 lm.length]]⟩])[z]?=H[z]?:=fun p z h1 h2=>by
  rw[YwU (by simp;exact hr.bd h2),YwV (fun e=>h1 (by subst e;exact hr.inj _ _ _ h2 hp))]
 refine Yfg hr (fun b=>b=a\/b=m) (hd:=.rw A nn) (l:=l++[mkE c A d lm]) (el:=el++[fd++[.ref y 0 lm.length]]) (src:=fun j=>if j<l.length then pl (.n a j)else if j=l.length then some y else none) (by simp[hXl]) ?_ (fun b hb hD=> ?_) (fun b hb hD=> ?_) h3 (by simp) ?_ (fun p z hD hz=>hother p z (fun e=>hD (by subst e;exact .inl rfl)) hz) (fun z hz=> ?_) (fun j z hz=> ?_) (fun j k z h1 h2=> ?_) (by simp[h4])
  (Yin (hd:=.rw A nn) h4 h6 (fun j hj=>if_pos hj) (fun j z hz=>hother _ z (fun e=>by cases e) hz) ⟨fd,.ref y 0 lm.length,rfl,by rw[Ybl];exact hfd,.inl ⟨y,elm,by simp,by rw[YaE],(hother (.m m) y (fun e=>hne (by injection e)) hpm).trans g2,by rw[YaE];exact g4⟩⟩)
 ·have:=Yal (vset (vset X m none) a none) (some (.fm (.rw A nn) c 0 none (l++[mkE c A d lm])))
  rw[hXl]at this;exact this
 ·rw[Yap (by omega)]
  by_cases e:b=a
  ·subst e;exact Yam _ (by rw[Yac];omega)
  ·rw[Yak _ (Ne.symm e),hD.resolve_left e];exact Yam _ hml
 ·rw[Yap (by omega),Yak _ (fun e=>hD (.inl e.symm)),Yak _ (fun e=>hD (.inr e.symm))]
 ·have hl:(H.set x none).length=H.length:=by simp
  rw[<-hl,List.getElem?_concat_length];rfl
 ·have:=(hr.fr z hz).1;have:=hr.le
  rw[YwU (by simp;omega),YwV (fun e=>hr.nfr _ _ hp (by rw[e];exact hz))]
 ·split at hz
  ·rename_i hj;exact⟨by simp;omega,.n a j,.inl rfl,hz⟩
  ·split at hz
   ·rename_i hj;injection hz with hz;subst hz;exact⟨by simp[hj],.m m,.inr rfl,hpm⟩
   ·cases hz
 ·split at h1<;>split at h2
  ·have:=hr.inj _ _ _ h1 h2;injection this
  ·split at h2
   ·injection h2 with h2;subst h2;have:=hr.inj _ _ _ h1 hpm;cases this
   ·cases h2
  ·split at h1
   ·injection h1 with h1;subst h1;have:=hr.inj _ _ _ h2 hpm;cases this
   ·cases h1
  ·split at h1<;>split at h2
   ·omega
   ·cases h2
   ·cases h1
   ·cases h1
theorem YnX(hr:HRel Fr H0 X pl H){a x:Nat}{A:Cs}{c:Cs}{ver:Nat}{l:List (sn c A).den}{el:List (List AV)}{d:A.den}{fd:List AV}
  (ha:vget X a=some (.fm (.rw A false) c ver none l)) (hp:pl (.m a)=some x) (hx:H[x]?=some (some ⟨A.width+1,el⟩)) (hfd:CC fd (A.enc d)):
  ∃pl',HRel Fr H0 (vset X a none++[some (.fm (.rw A false) c 0 none (l++[mkE c A d []]))]) pl' (H.set x none++[some ⟨A.width+1,el++[fd++[.emp]]⟩])/\
   Ext X pl (vset X a none++[some (.fm (.rw A false) c 0 none (l++[mkE c A d []]))]) pl'/\pl' (.m X.length)=some H.length:=by
 have hal:=Yab ha
 have hXl:(vset X a none).length=X.length:=Yac _ _ _
 obtain⟨x',el0,h1,h2,h3,h4,h6⟩:=hr.obj a _ ha
 rw[hp]at h1;injection h1 with h1;subst h1
 rw[hx]at h2;injection h2 with h2;injection h2 with h2;injection h2 with _ h2;subst h2
 have hother: ∀(p:Pos) z,p≠ .m a->pl p=some z->(H.set x none++[some ⟨A.width+1,el++[fd++[AV.emp]]⟩])[z]?=H[z]?:=fun p z h1 h2=>by
  rw[YwU (by simp;exact hr.bd h2),YwV (fun e=>h1 (by subst e;exact hr.inj _ _ _ h2 hp))]
 refine Yfg hr (fun b=>b=a) (hd:=.rw A false) (l:=l++[mkE c A d []]) (el:=el++[fd++[.emp]]) (src:=fun j=>if j<l.length then pl (.n a j)else none) (by simp[hXl]) ?_ (fun b hb hD=> ?_) (fun b hb hD=> ?_) h3 (by simp) ?_ (fun p z hD hz=>hother p z (fun e=>hD (by subst e;rfl)) hz) (fun z hz=> ?_) (fun j z hz=> ?_) (fun j k z h1 h2=> ?_) (by simp[h4])
  (Yin (hd:=.rw A false) h4 h6 (fun j hj=>if_pos hj) (fun j z hz=>hother _ z (fun e=>by cases e) hz) ⟨fd,.emp,rfl,by rw[Ybl];exact hfd,.inr ⟨rfl,by simp,by rw[YaE],rfl⟩⟩)
 ·have:=Yal (vset X a none) (some (.fm (.rw A false) c 0 none (l++[mkE c A d []])))
  rw[hXl]at this;exact this
 ·rw[Yap (by omega),hD];exact Yam _ hal
 ·rw[Yap (by omega),Yak _ (fun e=>hD e.symm)]
 ·have hl:(H.set x none).length=H.length:=by simp
  rw[<-hl,List.getElem?_concat_length];rfl
 ·have:=(hr.fr z hz).1;have:=hr.le
  rw[YwU (by simp;omega),YwV (fun e=>hr.nfr _ _ hp (by rw[e];exact hz))]
 ·split at hz
  ·rename_i hj;exact⟨by simp;omega,.n a j,rfl,hz⟩
  ·cases hz
 ·split at h1<;>split at h2
  ·have:=hr.inj _ _ _ h1 h2;injection this
  ·cases h2
  ·cases h1
  ·cases h1
theorem YnY(hr:HRel Fr H0 X pl H){m y:Nat}{A:Cs}{nn:Bool}{c:Cs}{lm:List c.den}{d:A.den}{fd:List AV}(hm:vget X m=some (.sq c lm))(hpm:pl (.m m)=some y)(hfd:CC fd (A.enc d)):
  ∃pl',HRel Fr H0 (vset X m none++[some (.fm (.rw A nn) c 0 none [mkE c A d lm])]) pl' (H++[some ⟨A.width+1,[fd++[.ref y 0 lm.length]]⟩])/\
   Ext X pl (vset X m none++[some (.fm (.rw A nn) c 0 none [mkE c A d lm])]) pl'/\pl' (.m X.length)=some H.length:=by
 have hml:=Yab hm
 have hXl:(vset X m none).length=X.length:=Yac _ _ _
 obtain⟨y',elm,g1,g2,g3,g4⟩:=hr.obj m _ hm
 rw[hpm]at g1;injection g1 with g1;subst g1
 have hother: ∀(p:Pos) z,pl p=some z->(H++[some ⟨A.width+1,[fd++[AV.ref y 0 lm.length]]⟩])[z]?=H[z]?:=fun p z h2=>by
  rw[YwU (hr.bd h2)]
 refine Yfg hr (fun b=>b=m) (hd:=.rw A nn) (l:=[mkE c A d lm]) (el:=[fd++[.ref y 0 lm.length]]) (src:=fun j=>if j=0 then some y else none) (by simp[hXl]) ?_ (fun b hb hD=> ?_) (fun b hb hD=> ?_) g3 (by simp) (by rw[List.getElem?_concat_length];rfl) (fun p z _ hz=>hother p z hz) (fun z hz=> ?_) (fun j z hz=> ?_) (fun j k z h1 h2=> ?_) rfl (fun i e v k1 k2=> ?_)
 ·have:=Yal (vset X m none) (some (.fm (.rw A nn) c 0 none [mkE c A d lm]))
  rw[hXl]at this;exact this
 ·rw[Yap (by omega),hD];exact Yam _ hml
 ·rw[Yap (by omega),Yak _ (fun e=>hD e.symm)]
 ·have:=(hr.fr z hz).1;have:=hr.le
  rw[YwU (by omega)]
 ·split at hz
  ·rename_i hj;injection hz with hz;subst hz;exact⟨by simp[hj],.m m,rfl,hpm⟩
  ·cases hz
 ·split at h1<;>split at h2
  ·omega
  ·cases h2
  ·cases h1
  ·cases h1
 ·cases i with
  |succ i=>simp at k1
  |zero=>
   simp only[List.getElem?_cons_zero,Option.some.injEq]at k1 k2
   subst k1;subst k2
   exact⟨fd,.ref y 0 lm.length,rfl,by rw[Ybl];exact hfd,.inl ⟨y,elm,rfl,by rw[YaE],(hother (.m m) y hpm).trans g2,by rw[YaE];exact g4⟩⟩
variable{β:Type}{r:β}
theorem Yio{c:Cs}{x:TV}{ax:AV}{m:List c.den}(h:srcV c x=some m)(hx:TR X pl x ax):(ax= .emp/\m=[])\/ ∃l,ax= .rd c.width l/\Rows l c m:=by
 unfold srcV at h
 split at h
 ·rename_i c' v
  obtain⟨rfl,rfl⟩:=Yaz h
  cases hx with
  |l _ _ _ hc=>
   rcases YaZ hc with⟨rfl,hb⟩| ⟨l0,rfl,hl,hcc⟩
   ·simp_all
   ·exact .inr ⟨l0,rfl,by simp_all,fun i e w h1 h2=>hcc i e _ h1 (by simp_all)⟩
 ·injection h with h;subst h;cases hx;simp
 ·rename_i els
  cases hx with
  |lt es _ as hl h0 hz hz' hc=>
   have hce:CE X pl els as:=⟨hl,fun i e f h1 h2=>⟨by grind,fun j c a h3 h4=>hc i j e f c a h1 h2 h3 h4⟩⟩
   have hr:=YcN h hce
   have hw:es=c.width:=by
    cases els with
    |nil=>trivial
    |cons e els=>
     simp only[YuW]at h
     split at h
     ·rename_i x y hx hy;rw[<-Yib hx,hz e (Yw6 ..)]
     trivial
   simp_all
 trivial
theorem YcP{c:Cs}{x:TV}{ax s:AV}{m:List c.den}{es:Nat}(hes:c.width=es)(h:srcV c x=some m)(hx:TR X pl x ax){h':HF}{nid:Nat}{KA:AV->List Upd->Prop}
  (hk: ∀l,Rows l c m->(∀e∈l,e.length=es)->appK es s l h' nid KA):
  (match(generalizing:=false) ax with| .rd es' l=>es'=es/\appK es s l h' nid KA| .emp=>appK es s [] h' nid KA|_=>False):=by
 rcases Yio h hx with⟨rfl,rfl⟩| ⟨l,rfl,hl⟩
 ·exact hk [] ⟨rfl,fun i e v h=>by simp⟩ (fun e h=>by grind)
 ·refine⟨hes,hk l hl (fun e he=> ?_)⟩
  obtain⟨i,hi⟩:=YwW.1 he
  have hil:=(YwP.1 hi).1
  have him:i<m.length:=by rw[<-hl.1];omega
  rw[(hl.2 i e m[i] hi (YwO him)).1,Yax,hes]
theorem YbI{a b:List (List AV)}{c:Cs}{l m:List c.den}(h:Rows a c l)(k:Rows b c m):Rows (a++b) c (l++m):=by
 refine⟨by simp[h.1,k.1],fun i e v h1 h2=> ?_⟩
 by_cases hi:i<l.length
 ·rw[YwU (by rw[h.1];exact hi)]at h1
  rw[YwU hi]at h2
  exact h.2 i e v h1 h2
 ·rw[Yw0 (by rw[h.1];omega),h.1]at h1
  rw[Yw0 (by omega)]at h2
  exact k.2 _ e v h1 h2
theorem YnZ{c:Cs}{w:Nat}{s x:TV}{as ax:AV}{K:TV->YtI->Option β}(h:vapp c w s x X K=some r)(hs:TR X pl s as)(hx:TR X pl x ax)(hr:HRel Fr H0 X pl H){KA:AV->List Upd->Prop}
  (hk: ∀v X' va us,K v X'=some r->Nxt Fr H0 X pl H v X' va us->KA va us):
  (match(generalizing:=false) ax with| .rd es' l=>es'=c.width/\appK c.width as l (hf H) H.length KA| .emp=>appK c.width as [] (hf H) H.length KA|_=>False):=by
 have push: ∀{c':Cs} {m:List c'.den} {l:List (List AV)},0<c'.width->Rows l c' m->K (.ref X.length) (X++[some (.sq c' m)])=some r->KA (.ref H.length 0 l.length) [.push (some ⟨c'.width,l⟩)]:=by
  intro c' m l h0 hl hK
  have hn:=Yal X (some (.sq c' m))
  obtain⟨k1,k2⟩:=Yas hr (.sq c' m) ⟨c'.width,l⟩ (fun _=>⟨H.length,l,by unfold plS;simp,by simp,h0,hl⟩)
  exact hk _ _ _ _ hK ⟨_,.ref X.length H.length _ _ hn (by simp[lenO,hl.1]) (by unfold plS;simp),⟨k1,k2⟩,.inr ⟨by simp,by unfold plS;simp⟩⟩
 unfold vapp at h
 split at h
 ·rename_i a
  split at h
  ·rename_i c' l ho
   split at h
   ·rename_i m hm
    obtain⟨e1,e2⟩:=Yaa h
    obtain⟨e3,e4⟩:=Yah e2
    have hw:=Yxt e1
    obtain⟨x,n,rfl,hp,hn⟩:=Yan ho hs
    simp only[lenO]at hn;injection hn with hn;subst hn
    obtain⟨x',el,h1,h2,h3,h4⟩:=hr.obj a _ ho
    rw[hp]at h1;injection h1 with h1;subst h1
    refine YcP hw.symm hm hx (fun L hL hLe=>Yaq h2 ⟨rfl,h4.1.symm,hw.symm,by rw[h4.1,hL.1];exact e3,hLe,?_⟩)
    obtain⟨k1,k2⟩:=YcM hr ho hp
    have hXl:(vset X a none).length=X.length:=Yac _ _ _
    have hHl:(H.set x none).length=H.length:=by simp
    obtain⟨k3,k4⟩:=Yas k1 (.sq c' (l++m)) ⟨c'.width,el++L⟩ (fun _=>⟨H.length,el++L,by unfold plS;simp,by simp,h3,YbI h4 hL⟩)
    rw[hXl,hHl]at k3 k4
    rw[hw]
    refine hk _ _ _ _ e4 ⟨_,?_,⟨k3,k2.trans k4⟩,.inr ⟨by simp_all,by unfold plS;simp⟩⟩
    refine .ref X.length H.length (.sq c' (l++m)) _ ?_ (by simp[lenO,h4.1,hL.1]) (by unfold plS;simp)
    have:=Yal (vset X a none) (some (.sq c' (l++m)));simp_all
   trivial
  ·rename_i hd c' ver l ho
   split at h
   ·rename_i es
    have e1:=(Yaa h).1
    replace h:=(Yaa h).2
    simp only[YxL]at e1
    cases hd with
    |mp o n=>cases e1.1
    |rw A nn=>
    have hw:c.width=A.width+1:=Yxt e1.2
    obtain⟨x,n,rfl,hp,hn⟩:=Yan ho hs
    simp only[lenO]at hn;injection hn with hn;subst hn
    obtain⟨x',el,h1,h2,h3,h4,h6⟩:=hr.obj a _ ho
    rw[hp]at h1;injection h1 with h1;subst h1
    have hall: ∀e∈el,e.length=A.width+1:=fun e he=>by
     obtain⟨i,hi⟩:=YwW.1 he
     have hil:i<l.length:=by rw[<-h4];exact(YwP.1 hi).1
     obtain⟨d,r0,q1,q2,_⟩:=h6 i e _ hi (YaA hil)
     rw[q1];simp[q2.1,Yax]
    split at h
    ·rename_i ds m hu
     have hes:=YdJ hu
     subst hes
     obtain⟨f,rfl,hf⟩:=Yfi hx
     obtain⟨fd,av,rfl,hfd,hav⟩:=hf.unapp
     cases hb:Yxr m a with
     |true=>rw[hb]at h;cases h
     |false=>
     rw[hb,cond_false]at h
     have hne:m≠a:=fun e=>by simp_all
     split at h
     ·rename_i c2 lm d hm hd
      split at h
      ·rename_i lm' hlm
       obtain⟨ec,el0⟩:=Yaz hlm
       subst ec;subst el0
       obtain⟨e3,e4⟩:=Yah h
       obtain⟨y,n',rfl,hpm,hn'⟩:=Yan hm hav
       simp only[lenO]at hn';injection hn' with hn';subst hn'
       have hcc:=Ybc hd hfd
       have hfl:(fd++[AV.ref y 0 lm.length]).length=A.width+1:=by simp[hcc.1,Yax]
       have hdl:(ds++[TV.ref m]).length=A.width+1:=by rw[hf.1];exact hfl
       refine⟨by rw[hdl,hw],Yaq h2 ⟨rfl,h4.symm,by rw[hw];rfl,by simp only[Yxn,Yb3];rw[h4];exact e3,fun e he=> ?_,?_⟩⟩
       ·simp only[Yxf]at he
        subst he;rw[hw];exact hfl
       ·obtain⟨pl',k1,k2,k3⟩:=YnW hr ho hp hm hpm hne h2 hcc
        rw[hw]
        refine hk _ _ _ _ e4 ⟨pl',?_,⟨k1,k2⟩,.inr ⟨by simp[Yac],k3⟩⟩
        have hXl:(vset (vset X m none) a none).length=X.length:=by rw[Yac,Yac]
        refine .ref X.length H.length (.fm (.rw A nn) c2 0 none (l++[mkE c2 A d lm])) _ ?_ (by simp[lenO,Yb3,h4]) k3
        have:=Yal (vset (vset X m none) a none) (some (.fm (.rw A nn) c2 0 none (l++[mkE c2 A d lm])));rw[hXl]at this;exact this
      ·cases h
     ·cases h
    ·rename_i ds cz hu
     have hes:=YdJ hu
     subst hes
     obtain⟨f,rfl,hf⟩:=Yfi hx
     obtain⟨fd,av,rfl,hfd,hav⟩:=hf.unapp
     cases nn with
     |true=>cases h
     |false=>
     simp only[Hd.nn,cond_false]at h
     split at h
     ·rename_i d hd
      obtain⟨e3,e4⟩:=Yah h
      cases hav
      have hcc:=Ybc hd hfd
      have hfl:(fd++[AV.emp]).length=A.width+1:=by simp[hcc.1,Yax]
      have hdl:(ds++[TV.e cz]).length=A.width+1:=by rw[hf.1];exact hfl
      refine⟨by rw[hdl,hw],Yaq h2 ⟨rfl,h4.symm,by rw[hw];rfl,by simp only[Yxn,Yb3];rw[h4];exact e3,fun e he=> ?_,?_⟩⟩
      ·simp only[Yxf]at he
       subst he;rw[hw];exact hfl
      ·obtain⟨pl',k1,k2,k3⟩:=YnX hr ho hp h2 hcc
       rw[hw]
       refine hk _ _ _ _ e4 ⟨pl',?_,⟨k1,k2⟩,.inr ⟨by simp[Yac],k3⟩⟩
       have hXl:(vset X a none).length=X.length:=Yac _ _ _
       refine .ref X.length H.length (.fm (.rw A false) c' 0 none (l++[mkE c' A d []])) _ ?_ (by simp[lenO,Yb3,h4]) k3
       have:=Yal (vset X a none) (some (.fm (.rw A false) c' 0 none (l++[mkE c' A d []])));rw[hXl]at this;exact this
     ·cases h
    ·cases h
   ·cases h
  ·cases h
 ·rename_i c0
  cases hs
  split at h
  ·obtain⟨e1,e2⟩:=Yaa h
   split at e2
   ·rename_i m hm
    obtain⟨e3,e4⟩:=Yah e2
    refine YcP rfl hm hx (fun L hL hLe=>⟨by rw[hL.1];exact e3,hLe,fun h0=>absurd (show 0<c.width by simp_all) (by omega),push (by simp_all) hL e4⟩)
   trivial
  ·cases h
  ·split at h
   ·rename_i A c' es hun
    split at h
    ·rename_i ds m hu
     have hes:=YdJ hu
     subst hes
     obtain⟨f,rfl,hf⟩:=Yfi hx
     obtain⟨fd,av,rfl,hfd,hav⟩:=hf.unapp
     split at h
     ·rename_i c2 lm d hm hd
      split at h
      ·rename_i lm' hlm
       obtain⟨ec,el0⟩:=Yaz hlm
       subst ec;subst el0
       have hw:c.width=A.width+1:=Yxt (Yaa h).1
       replace h:=(Yaa h).2
       obtain⟨y,n',rfl,hpm,hn'⟩:=Yan hm hav
       simp only[lenO]at hn';injection hn' with hn';subst hn'
       have hcc:=Ybc hd hfd
       have hfl:(fd++[AV.ref y 0 lm.length]).length=A.width+1:=by simp[hcc.1,Yax]
       have hdl:(ds++[TV.ref m]).length=A.width+1:=by rw[hf.1];exact hfl
       refine⟨by rw[hdl,hw],by simp[maxEl],fun e he=>by simp only[Yxf]at he;subst he;rw[hw];exact hfl,fun h0=>by simp,?_⟩
       obtain⟨pl',k1,k2,k3⟩:=YnY (nn:=true) hr hm hpm hcc
       rw[hw]
       refine hk _ _ _ _ h ⟨pl',?_,⟨k1,k2⟩,.inr ⟨by simp[Yac],k3⟩⟩
       have hXl:(vset X m none).length=X.length:=Yac _ _ _
       refine .ref X.length H.length (.fm (.rw A true) c2 0 none [mkE c2 A d lm]) _ ?_ rfl k3
       have:=Yal (vset X m none) (some (.fm (.rw A true) c2 0 none [mkE c2 A d lm]));rw[hXl]at this;exact this
      ·cases h
     ·cases h
    ·cases h
   ·cases h
 ·rename_i a ver i
  split at h
  ·rename_i hd c' ver' l ho
   split at h
   ·rename_i m hm
    obtain⟨e1,e2⟩:=Yaa h
    obtain⟨e3,e4⟩:=Yah e2
    simp only[YxL]at e1
    have:=Yxt e1.2;subst this
    have hw:=Yxt e1.1
    obtain⟨x',el,k1,k2,k3,k4,k6⟩:=hr.obj a _ ho
    have hXl:(vset X a (some (.fm hd c' ver (some i) l))).length=X.length:=Yac _ _ _
    have hgn:=fun o=>Yal (vset X a (some (.fm hd c' ver (some i) l))) o
    rw[hXl]at hgn
    cases hb:(hd.isRw||Yxu i l.length)with
    |true=>
     rw[hb,cond_true]at e4
     rcases YbG ho hs with⟨y,rfl,hi,hp⟩| ⟨rfl,hp,h0⟩
     ·obtain⟨el',g3,g4⟩:=YcO hr ho hi hp
      refine YcP hw.symm hm hx (fun L hL hLe=>Yaq g3 ⟨rfl,g4.1.symm,hw.symm,by rw[g4.1,hL.1];exact e3,hLe,?_⟩)
      have hHl:(H.set y none).length=H.length:=by simp
      obtain⟨q1,q2⟩:=Yik hr (i:=i) ho hHl (fun z hz=>YwV (fun e=>hz (by grind)))
      obtain⟨q3,q4⟩:=Yas q1 (.sq c' (owI hd c' l i++m)) ⟨c'.width,el'++L⟩ (fun _=>⟨H.length,el'++L,by unfold plS;simp,by simp,k3,YbI g4 hL⟩)
      rw[hXl,hHl]at q3 q4
      rw[hw]
      exact hk _ _ _ _ e4 ⟨_,.ref X.length H.length (.sq c' (owI hd c' l i++m)) _ (hgn _) (by simp[lenO,g4.1,hL.1]) (by unfold plS;simp),⟨q3,q2.trans q4⟩,.inr ⟨by simp_all,by unfold plS;simp⟩⟩
     ·refine YcP hw.symm hm hx (fun L hL hLe=>⟨by rw[h0]at e3;simpa[hL.1]using e3,hLe,fun h0=>absurd h0 (by omega),?_⟩)
      obtain⟨q1,q2⟩:=Yik hr (i:=i) ho rfl (fun z _=>rfl)
      obtain⟨q3,q4⟩:=Yas q1 (.sq c' (owI hd c' l i++m)) ⟨c'.width,L⟩ (fun _=>⟨H.length,L,by unfold plS;simp,by simp,k3,by simp_all⟩)
      rw[hXl]at q3 q4
      rw[hw]
      exact hk _ _ _ _ e4 ⟨_,.ref X.length H.length (.sq c' (owI hd c' l i++m)) _ (hgn _) (by simp only[lenO,h0];simp[hL.1]) (by unfold plS;simp),⟨q3,q2.trans q4⟩,.inr ⟨by simp_all,by unfold plS;simp⟩⟩
    |false=>
     rw[hb,cond_false]at e4
     simp only[Bool.or_eq_false_iff]at hb
     have hge:l.length<=i:=by
      have:=hb.2
      apply Classical.byContradiction;intro hc
      rw[show Yxu i l.length=true from by simp[Nat.blt_eq];omega]at this;cases this
     rcases YbG ho hs with⟨y,rfl,hi,hp⟩| ⟨rfl,hp,h0⟩
     ·omega
     ·refine YcP hw.symm hm hx (fun L hL hLe=>⟨by rw[h0]at e3;simpa[hL.1]using e3,hLe,fun h0=>absurd h0 (by omega),?_⟩)
      rw[hw]
      exact push k3 hL e4
   ·cases h
  ·cases h
 ·cases h
end
end Go.Abs
namespace Go.Abs
open Go Go.RowKit
section
variable{Fr:Nat->Prop}{H0:Heap}{X:YtI}{pl:Pl}{H:Heap}{β:Type}{r:β}{env:VEnv}{ae:Env}
def RowsB(l:List (List AV))(v:List Int):Prop:=l.length=v.length/\ ∀(i:Nat) (e:List AV) (n:Int),l[i]?=some e->v[i]?=some n->e=[.v (.int .u8 n)]
theorem RowsB.rows{l:List (List AV)}{v:List Int}(h:RowsB l v):Rows l U8 v:=by
 refine⟨h.1,fun i e n h1 h2=> ?_⟩
 have:=h.2 i e n h1 h2
 subst this
 exact⟨rfl,fun j x x' h1 h2=>by
  match j,h1,h2 with
  |0,h1,h2=>simp[Cs.enc,Ty.enc,fstP]at h1 h2;subst h1;subst h2;exact .refl _
  |j+1,h1,h2=>trivial⟩
theorem RowsB.of{l:List (List AV)}{v:List Int}(h:Rows l U8 v):RowsB l v:=by
 refine⟨h.1,fun i e n h1 h2=> ?_⟩
 have h0:=h.2 i e n h1 h2
 have hl:e.length=1:=h0.1
 match e,hl with
 | [a],_=>
   have ha:=h0.2 0 a _ rfl rfl
   have:a= .v (.int .u8 n):=YaF ha
   grind
theorem RowsB.app{a b:List (List AV)}{l m:List Int}(h:RowsB a l)(k:RowsB b m):RowsB (a++b) (l++m):=RowsB.of (YbI h.rows k.rows)
theorem YaM(s:ByteArray):RowsB (strA s) (strL s):=by
 refine⟨by simp[strA,strL],fun i e v h1 h2=> ?_⟩
 unfold strA at h1
 unfold strL at h2
 grind
theorem Yfj: ∀{l:List (List AV)} {v:List Int},RowsB l v->Yui l=some (v.map fun n=>UInt8.ofNat n.toNat)
 | [],v,h=>by
   have:v=[]:=YwZ.1 h.1.symm
   subst this;rfl
 |e::l,[],h=>by have:=h.1;trivial
 |e::l,n::v,h=>by
  have h0:=h.2 0 e n rfl rfl
  subst h0
  have ih:=Yfj (l:=l) (v:=v) ⟨by have:=h.1;simp_all,fun i e w h1 h2=>h.2 (i+1) e w (by trivial) (by trivial)⟩
  simp only[Yui,YvV,ih,YwS]
theorem Yip{m:List Int}(h:inB m=true){l:List (List AV)}(hr:RowsB l m):l=strA (Yuc m):=by
 unfold strA Yuc
 have hd:(⟨(m.map fun n=>UInt8.ofNat n.toNat).toArray⟩:ByteArray).toList=m.map fun n=>UInt8.ofNat n.toNat:=by
  simp
 rw[hd]
 refine Yxc fun i=> ?_
 rw[YwR,YwR]
 cases hl:l[i]? with
 |none=>
  have:m[i]?=none:=by rw[List.getElem?_eq_none_iff]at hl⊢;rw[<-hr.1];exact hl
  simp_all
 |some e=>
  have hi:=(YwP.1 hl).1
  have him:i<m.length:=by rw[<-hr.1];exact hi
  rw[YwO him]
  rw[hr.2 i e m[i] hl (YwO him)]
  have:=Yw1.1 h m[i] (Yxa him)
  simp at this
  simp only[YxF,Option.some.injEq,List.cons.injEq,and_true,AV.v.injEq,Value.int.injEq,true_and]
  rw[UInt8.toNat_ofNat']
  omega
theorem Yn0(s:ByteArray):Yui (strA s)=some s.toList:=by
 unfold strA
 induction s.toList with
 |nil=>rfl
 |cons b l ih=>
  simp only[YwS,Yui,ih,YvV]
  simp
theorem Yn1(s t:ByteArray):strA (s++t)=strA s++strA t:=by
 unfold strA
 rw[Ya0,Ya0,Ya0,<-Yxk]
 simp
theorem YbJ{l:List (List AV)}{c:Cs}{v:List c.den}(h:Rows l c v): ∀e∈l,e.length=c.width:=fun e he=>by
 obtain⟨i,hi⟩:=YwW.1 he
 have hil:=(YwP.1 hi).1
 have him:i<v.length:=by rw[<-h.1];omega
 rw[(h.2 i e v[i] hi (YwO him)).1,Yax]
theorem YcQ{l:List (List AV)}{n:Nat}(h: ∀e∈l,e.length=n):(l.all fun e=>Yxr e.length n)=true:=by
 simp_all
theorem beqT{n:Nat}:Yxr n n=true:=Nat.beq_refl n
theorem bleT{n m:Nat}(h:n<=m):Yxv n m=true:=Nat.ble_eq_true_of_le h
theorem Yfk{os es:Nat}{l:List (List AV)}{h:HF}{nid:Nat}(h1: ∀e∈l,e.length=es)(h2:l.length<=maxEl)(h3:0<os\/0<l.length):apX os es .emp l h nid=some (⟨os,l⟩,[]):=by
 unfold apX
 rw[YcQ h1,cond_true]
 have:(Yxu 0 os|| !l.isEmpty)=true:=by
  rcases h3 with h3|h3
  ·simp_all
  grind
 rw[bleT h2,this,YxQ,cond_true]
theorem Yfl{os es a:Nat}{l:List (List AV)}{o:AObj}{nid:Nat}(h1: ∀e∈l,e.length=es)(ho:H[a]?=some (some o))(hes:o.es=os)(h2:o.el.length+l.length<=maxEl):apX os es (.ref a 0 o.el.length) l (hf H) nid=some (⟨os,o.el++l⟩,[.set a none]):=by
 unfold apX
 rw[YcQ h1,cond_true]
 simp only[hf,ho,hes,beqT,bleT h2,YxQ,cond_true]
theorem Yfm: ∀{cs:List TV} {as:List AV} {els:List (List TV)},Yuo X cs=some els->CT X pl cs as-> ∃l,cellsAll as=some l/\CE X pl els l
 | [],as,els,h,hc=>by
   injection h with h;subst h
   have:as=[]:=YwZ.1 hc.1.symm
   subst this
   exact⟨[],rfl,rfl,fun i e f h=>by simp⟩
 |c::cs,as,els,h,hc=>by
  simp only[Yuo]at h
  split at h
  ·rename_i x xs hx hxs
   injection h with h;subst h
   obtain⟨a,r,rfl,h1,h2⟩:=hc.inv
   obtain⟨l,h3,h4⟩:=Yfm hxs h2
   obtain⟨b,h5,h6⟩:=Yff hx h1
   refine⟨b::l,by simp only[cellsAll,h5,h3],by simp[h4.1],fun i e f g1 g2=> ?_⟩
   cases i with
   |zero=>simp_all
   |succ i=>exact h4.2 i e f (by trivial) (by trivial)
  trivial
theorem rows_coe'{es:Nat}{L:List (List AV)}{c:Cs}{l:List c.den}(h:Rows L c l):Coe (.rd es L) (.rd es (l.map c.enc)):=by
 refine .rd es L _ (by simpa using h.1) (fun i e e' h1 h2=> ?_) (fun i e e' j x x' h1 h2 h3 h4=> ?_)
 ·rw[YwR,YxE]at h2
  obtain⟨v,hv,rfl⟩:=h2
  exact(h.2 i e v h1 hv).1
 ·rw[YwR,YxE]at h2
  obtain⟨v,hv,rfl⟩:=h2
  exact(h.2 i e v h1 hv).2 j x x' h3 h4
theorem YcR(hr:HRel Fr H0 X pl H):HRel Fr H0 X pl (H++[none]):=by
 refine⟨fun a o ho=> ?_,hr.inj,hr.own,fun x hx=> ?_,hr.nfr,by have:=hr.le;grind⟩
 ·refine(hr.obj a o ho).keep (Ext.refl _ _) (fun _ _=>rfl) (fun p x _ hp=> ?_)
  rw[YwU (hr.bd hp)]
 ·have h1:=hr.fr x hx
  grind
theorem Yiq(hr:HRel Fr H0 X pl H){a:Nat}{c:Cs}{l:List c.den}(ho:vget X a=some (.sq c l)){s:AV}(hs:TR X pl (.ref a) s):
  ∃x el,pl (.m a)=some x/\H[x]?=some (some ⟨c.width,el⟩)/\0<c.width/\Rows el c l/\s= .ref x 0 el.length:=by
 obtain⟨x,n,rfl,hp,hn⟩:=Yan ho hs
 injection hn with hn;subst hn
 obtain⟨x',el,h1,h2,h3,h4⟩:=hr.obj a _ ho
 rw[hp]at h1;injection h1 with h1;subst h1
 exact⟨x,el,hp,h2,h3,h4,by rw[h4.1]⟩
theorem YcS{c:Cs}{x:TV}{ax:AV}{m:List c.den}(h:srcV c x=some m)(hx:TR X pl x ax): ∃l,srcA ax=some l/\Yux c.width ax=true/\Rows l c m:=by
 rcases Yio h hx with⟨rfl,rfl⟩| ⟨l,rfl,hl⟩
 ·exact⟨[],rfl,rfl,rfl,fun i e v h=>by simp⟩
 ·exact⟨l,rfl,beqT,hl⟩
theorem Yn2{c:Cs}{s x:TV}{as ax:AV}{K:TV->YtI->Option β}(hw0:0<c.width)(h:Ywj c s x X K=some r)(hs:TR X pl s as)(hx:TR X pl x ax)(hr:HRel Fr H0 X pl H){KA:AV->List Upd->Prop}
  (hk: ∀v X' va us,K v X'=some r->Nxt Fr H0 X pl H v X' va us->KA va us): ∃v us,xF (.appD c.width) [as,ax] (hf H) H.length=some (v,us)/\KA v us:=by
 unfold Ywj at h
 split at h
 ·split at h
  ·rename_i m hm
   obtain⟨h1,h2⟩:=Yah h
   obtain⟨l,k1,k2,k3⟩:=YcS hm hx
   cases hs with
   |e=>
   refine⟨.rd c.width l,[.push none],?_,hk _ _ _ _ h2 ⟨pl,.l c m _ (rows_coe' k3),⟨?_,Ext.refl _ _⟩,.inl rfl⟩⟩
   ·simp only[xF,k1,k2,cond_true,Yfk (YbJ k3) (by rw[k3.1];exact h1) (.inl hw0),Yxd,show Yxu 0 c.width=true by simp_all,YxQ]
   ·exact YcR hr
  trivial
 ·rename_i a
  split at h
  ·rename_i c' l ho
   split at h
   ·rename_i m hm
    obtain⟨e1,e2⟩:=Yaa h
    obtain⟨h1,h2⟩:=Yah e2
    have hw:=Yxt e1
    obtain⟨lx,k1,k2,k3⟩:=YcS hm hx
    obtain⟨y,el,hp,hy,h0,hrow,rfl⟩:=Yiq hr ho hs
    have hap:=Yfl (nid:=H.length) (YbJ k3) hy rfl (by rw[hrow.1,k3.1];exact h1)
    obtain⟨g1,g2⟩:=YcM hr ho hp
    refine⟨.rd c'.width (el++lx),[.set y none,.push none],?_,hk _ _ _ _ h2 ⟨_,.l c' (l++m) _ (rows_coe' (YbI hrow k3)),⟨?_,g2⟩,.inl (Yac _ _ _)⟩⟩
    ·rw[hw]at hw0⊢
     simp only[xF,k1,k2,cond_true,hap,Yxg,Yxd,show Yxu 0 c'.width=true by simp_all,YxQ]
    ·exact YcR g1
   trivial
  trivial
 trivial
theorem YdK(hr:HRel Fr H0 X pl H){a:Nat}{b:ByteArray}(ho:vget X a=some (.sb b)){s:AV}(hs:TR X pl (.ref a) s):
  ∃x,pl (.m a)=some x/\H[x]?=some (some ⟨0,strA b⟩)/\s= .ref x 0 (strA b).length:=by
 obtain⟨x,n,rfl,hp,hn⟩:=Yan ho hs
 injection hn with hn;subst hn
 obtain⟨x',h1,h2⟩:=hr.obj a _ ho
 rw[hp]at h1;injection h1 with h1;subst h1
 exact⟨x,hp,h2,by rw[strA_len']⟩
theorem Yir(hr:HRel Fr H0 X pl H)(b:ByteArray):Nxt Fr H0 X pl H (.ref X.length) (X++[some (.sb b)]) (.ref H.length 0 (strA b).length) [.push (some ⟨0,strA b⟩)]:=by
 obtain⟨k1,k2⟩:=Yas hr (.sb b) ⟨0,strA b⟩ (fun _=>⟨H.length,by unfold plS;simp,by simp⟩)
 exact⟨_,.ref X.length H.length _ _ (Yal X _) (by simp only[lenO];rw[strA_len']) (by unfold plS;simp),⟨k1,k2⟩,.inr ⟨by simp,by unfold plS;simp⟩⟩
theorem Yn3(hr:HRel Fr H0 X pl H){a y:Nat}{s:VObj}(b:ByteArray)(ho:vget X a=some s)(hp:pl (.m a)=some y)(hf:isFm s=false):
  Nxt Fr H0 X pl H (.ref X.length) (vset X a none++[some (.sb b)]) (.ref H.length 0 (strA b).length) [.set y none,.push (some ⟨0,strA b⟩)]:=by
 obtain⟨g1,g2⟩:=YcM hr ho hp
 have hXl:(vset X a none).length=X.length:=Yac _ _ _
 have hHl:(H.set y none).length=H.length:=by simp
 obtain⟨k3,k4⟩:=Yas g1 (.sb b) ⟨0,strA b⟩ (fun _=>⟨H.length,by unfold plS;simp,by simp⟩)
 rw[hXl,hHl]at k3 k4
 refine⟨_,?_,⟨k3,g2.trans k4⟩,.inr ⟨by simp_all,by unfold plS;simp⟩⟩
 refine .ref X.length H.length (.sb b) _ ?_ (by simp only[lenO];rw[strA_len']) (by unfold plS;simp)
 have:=Yal (vset X a none) (some (.sb b));simp_all
theorem Yis{s:TV}{b:ByteArray}{as:AV}{L:List (List AV)}{K:TV->YtI->Option β}(hL:L=strA b)
  (h:(match s with
   | .e _=>chk (0<b.size/\b.size<=maxEl) (K (.ref X.length) (X++[some (.sb b)]))
   | .ref a=>match vget X a with
     |some (.sb s)=>chk (s.size+b.size<=maxEl) (K (.ref X.length) (vset X a none++[some (.sb (s++b))]))
     |_=>none
   |_=>none)=some r) (hs:TR X pl s as) (hr:HRel Fr H0 X pl H) {KA:AV->List Upd->Prop}
  (hk: ∀v X' va us,K v X'=some r->Nxt Fr H0 X pl H v X' va us->KA va us):
  ∃o us,apX 0 1 as L (hf H) H.length=some (o,us)/\KA (.ref H.length 0 o.el.length) (us++[.push (some o)]):=by
 subst hL
 have hbl: ∀e∈strA b,e.length=1:=YbJ (YaM b).rows
 split at h
 ·obtain⟨h1,h2⟩:=Yah h
  cases hs with
  |e=>exact⟨_,_,Yfk hbl (by rw[strA_len'];omega) (.inr (by rw[strA_len'];omega)),hk _ _ _ _ h2 (Yir hr b)⟩
 ·rename_i a
  split at h
  ·rename_i s' ho
   obtain⟨h1,h2⟩:=Yah h
   obtain⟨y,hp,hy,rfl⟩:=YdK hr ho hs
   refine⟨_,_,Yfl (o:=⟨0,strA s'⟩) hbl hy rfl (by rw[strA_len',strA_len'];exact h1),?_⟩
   have:=Yn3 hr (s'++b) ho hp rfl
   rw[Yn1]at this
   grind
  trivial
 trivial
theorem Yn4{s:TV}{b:ByteArray}{as:AV}{K:TV->YtI->Option β}(h:YwB s b X K=some r)(hs:TR X pl s as)(hr:HRel Fr H0 X pl H){KA:AV->List Upd->Prop}
  (hk: ∀v X' va us,K v X'=some r->Nxt Fr H0 X pl H v X' va us->KA va us): ∃v us,xF .apps [as,.v (.string b)] (hf H) H.length=some (v,us)/\KA v us:=by
 obtain⟨o,us,h1,h2⟩:=Yis (b:=b) rfl h hs hr hk
 exact⟨_,_,by simp only[xF,h1],h2⟩
theorem Yn5(m:List Int):(Yuc m).size=m.length:=by simp[Yuc,ByteArray.size]
theorem Yn6{s x:TV}{as ax:AV}{K:TV->YtI->Option β}(h:Ywk s x X K=some r)(hs:TR X pl s as)(hx:TR X pl x ax)(hr:HRel Fr H0 X pl H){KA:AV->List Upd->Prop}
  (hk: ∀v X' va us,K v X'=some r->Nxt Fr H0 X pl H v X' va us->KA va us): ∃v us,xF .appb [as,ax] (hf H) H.length=some (v,us)/\KA v us:=by
 unfold Ywk at h
 split at h
 ·rename_i m hm
  obtain⟨hb,h⟩:=Yaa h
  obtain⟨l,k1,k2,k3⟩:=YcS hm hx
  have hl:=Yip hb (RowsB.of k3)
  obtain⟨o,us,h1,h2⟩:=Yis (b:=Yuc m) hl (by rw[Yn5];exact h) hs hr hk
  have k2':Yux 1 ax=true:=k2
  exact⟨_,_,by simp only[xF,k1,k2',cond_true,h1],h2⟩
 trivial
theorem Yn7{s x:TV}{as ax:AV}{K:TV->YtI->Option β}(h:YvJ s x X K=some r)(hs:TR X pl s as)(hx:TR X pl x ax)(hr:HRel Fr H0 X pl H){KA:AV->List Upd->Prop}
  (hk: ∀v X' va us,K v X'=some r->Nxt Fr H0 X pl H v X' va us->KA va us): ∃v us,xF .appDb [as,ax] (hf H) H.length=some (v,us)/\KA v us:=by
 unfold YvJ at h
 split at h
 ·rename_i m hm
  obtain⟨l,k1,k2,k3⟩:=YcS hm hx
  have k2':Yux 1 ax=true:=k2
  have hll: ∀e∈l,e.length=1:=YbJ k3
  split at h
  ·obtain⟨h1,h2⟩:=Yah h
   cases hs with
   |e=>
   refine⟨.rd 1 l,[.push none],?_,hk _ _ _ _ h2 ⟨pl,.l U8 m _ (rows_coe' k3),⟨YcR hr,Ext.refl _ _⟩,.inl rfl⟩⟩
   simp only[xF,k1,k2',cond_true,Yfk (os:=0) hll (by rw[k3.1];exact h1.2) (.inr (by rw[k3.1];exact h1.1)),Yxd]
  ·rename_i a
   split at h
   ·rename_i s' ho
    obtain⟨h1,h2⟩:=Yah h
    obtain⟨y,hp,hy,rfl⟩:=YdK hr ho hs
    obtain⟨g1,g2⟩:=YcM hr ho hp
    have hap:=Yfl (os:=0) (nid:=H.length) (o:=⟨0,strA s'⟩) hll hy rfl (by rw[strA_len',k3.1];exact h1)
    refine⟨.rd 1 (strA s'++l),[.set y none,.push none],?_,hk _ _ _ _ h2 ⟨_,.l U8 (strL s'++m) _ (rows_coe' ((YaM s').app (RowsB.of k3)).rows),⟨YcR g1,g2⟩,.inl (Yac _ _ _)⟩⟩
    simp only[xF,k1,k2',cond_true,hap,Yxg,Yxd]
   trivial
  trivial
 trivial
theorem Yn8{cs:List TV}{as:List AV}{e:List TV}{els:List (List TV)}{l:List Int}(hc:Yuo X cs=some (e::els))(hp:YuW U8 (e::els)=some l)(hb:inB l=true)(hm:els.length+1<=1000000)(hct:CT X pl cs as)(hr:HRel Fr H0 X pl H):
  ∃va us,xF .litb as (hf H) H.length=some (va,us)/\Nxt Fr H0 X pl H (.ref X.length) (X++[some (.sb (Yuc l))]) va us:=by
 obtain⟨L,h1,h2⟩:=Yfm hc hct
 have hrow:Rows L U8 l:=YcN (c:=U8) hp h2
 have hL:=h2.1
 have hb:=Yip hb (RowsB.of hrow)
 cases L with
 |nil=>trivial
 |cons f fs=>
  have hlen:(f::fs).length<=maxEl:=by rw[<-hL];simp only[Yxe,maxEl];omega
  refine⟨_,_,?_,hb▸Yir hr (Yuc l)⟩
  simp only[xF,h1,YcQ (n:=1) (YbJ hrow),bleT hlen,YxQ,cond_true]
theorem Yn9{x:TV}{ax:AV}{K:TV->YtI->Option β}(h:Ywl x X K=some r)(hx:TR X pl x ax)(hr:HRel Fr H0 X pl H){KA:AV->List Upd->Prop}
  (same: ∀v va,K v X=some r->TR X pl v va->KA va []): ∃v us,xF .bstr [ax] (hf H) H.length=some (v,us)/\KA v us:=by
 unfold Ywl at h
 split at h
 ·cases hx with
  |e=>exact⟨_,[],rfl,same _ _ h (.s _)⟩
 ·rename_i c v
  split at h
  ·rename_i l hl
   obtain⟨rfl,rfl⟩:=Yaz hl
   cases hx with
   |l _ _ _ hc=>
    rcases YaZ hc with⟨rfl,hb⟩| ⟨l0,rfl,hl,hcc⟩
    ·have hv:v=[]:=by simp_all
     subst hv
     exact⟨_,[],rfl,same _ _ h (.s _)⟩
    ·have hrow:Rows l0 U8 v:=⟨by simp_all,fun i e w h1 h2=>hcc i e _ h1 (by simp_all)⟩
     refine⟨.v (.string (Yuc v)),[],?_,same _ _ h (.s _)⟩
     simp only[xF,show U8.width=1 from rfl,beqT,cond_true,Yfj (RowsB.of hrow)]
     rfl
  trivial
 ·rename_i a
  split at h
  ·rename_i c' l ho
   split at h
   ·rename_i l' hl
    obtain⟨rfl,hl2⟩:=Yaz hl
    have hl2:=hl2.symm
    subst hl2
    obtain⟨y,el,hp,hy,h0,hrow,rfl⟩:=Yiq hr ho hx
    refine⟨.v (.string (Yuc l')),[],?_,same _ _ h (.s _)⟩
    simp only[xF,hf,hy,show wd U8.width=1 from rfl,beqT,bleT (Yxs _),YxQ,cond_true,Yxo,Yfj (RowsB.of hrow)]
    rfl
   trivial
  ·rename_i s' ho
   obtain⟨y,hp,hy,rfl⟩:=YdK hr ho hx
   refine⟨.v (.string s'),[],?_,same _ _ h (.s _)⟩
   simp only[xF,hf,hy,show wd 0=1 from rfl,beqT,bleT (Yxs _),YxQ,cond_true,Yxo,Yn0]
   have:(⟨s'.toList.toArray⟩:ByteArray)=s':=by rw[Ya0]
   grind
  trivial
 trivial
theorem Yoa{c:Cs}{cs:List TV}{as:List AV}{e:List TV}{els:List (List TV)}{l:List c.den}(hc:Yuo X cs=some (e::els))(hp:YuW c (e::els)=some l)(h0:0<c.width)(hm:els.length+1<=1000000)(hct:CT X pl cs as)(hr:HRel Fr H0 X pl H):
  ∃va us,xF (.lit c.width) as (hf H) H.length=some (va,us)/\Nxt Fr H0 X pl H (.ref X.length) (X++[some (.sq c l)]) va us:=by
 obtain⟨L,h1,h2⟩:=Yfm hc hct
 have hrow:=YcN hp h2
 have hL:=h2.1
 cases L with
 |nil=>trivial
 |cons f fs=>
  obtain⟨k1,k2⟩:=Yas hr (.sq c l) ⟨c.width,f::fs⟩ (fun _=>⟨H.length,f::fs,by unfold plS;simp,by simp,h0,hrow⟩)
  refine⟨.ref H.length 0 (f::fs).length,[.push (some ⟨c.width,f::fs⟩)],?_,_,.ref X.length H.length _ _ (Yal X _) (by simp[lenO,<-hrow.1]) (by unfold plS;simp),⟨k1,k2⟩,.inr ⟨by simp,by unfold plS;simp⟩⟩
  have hlen:(f::fs).length<=maxEl:=by rw[<-hL];simp only[Yxe,maxEl];omega
  have hblt:Yxu 0 c.width=true:=by simp_all
  simp only[xF,h1,hblt,YcQ (YbJ hrow),bleT hlen,YxQ,cond_true]
theorem Yob(hr:HRel Fr H0 X pl H):Nxt Fr H0 X pl H (.ptr X.length 0 0) (X++[some (.st [.np X.length,.v (.slice none 0 0)])]) (.ptr H.length 0 0) [.push (some ⟨2,[[.np H.length,.v (.slice none 0 0)]]⟩)]:=by
 obtain⟨k1,k2⟩:=Yas hr (.st [.np X.length,.v (.slice none 0 0)]) ⟨2,[[.np H.length,.v (.slice none 0 0)]]⟩ (fun hx=>⟨H.length,[.np H.length,.v (.slice none 0 0)],by unfold plS;simp,by simp,Nat.zero_lt_succ _,
  .cons (.np X.length H.length _ (Yal X _) (by unfold plS;simp)) (.cons (.v _) .nil)⟩)
 exact⟨_,.ptr X.length 0 0 H.length _ (Yal X _) (by simp[elN]) (by unfold plS;simp),⟨k1,k2⟩,.inr ⟨by simp,by unfold plS;simp⟩⟩
theorem YaB{a:Nat}{ax:AV}{o:VObj}(ho:vget X a=some o)(h:TR X pl (.np a) ax): ∃x,ax= .np x/\pl (.m a)=some x:=by
 cases h with
 |np a x o h hp=>simp_all
 |npD a av h ha=>simp_all
theorem Yit{b:ByteArray}{a:AV}(h:TR X pl (.s b) a):a= .v (.string b):=by cases h;rfl
theorem Yiu{l:List TV}{as:List AV}{x y c:Int}(hl:l=[.i .u64 x,.i .u64 y,.i .u64 c])(hc:CT X pl l as):as=[.v (.int .u64 x),.v (.int .u64 y),.v (.int .u64 c)]:=by
 subst hl
 obtain⟨a,r,rfl,h1,h2⟩:=hc.inv
 obtain⟨b,r,rfl,h3,h4⟩:=h2.inv
 obtain⟨d,r,rfl,h5,h6⟩:=h4.inv
 have:r=[]:=YwZ.1 h6.1.symm
 subst this
 cases h1;cases h3;cases h5;rfl
end
end Go.Abs
namespace Go.Abs
open Go Go.RowKit
section
variable{Fr:Nat->Prop}{H0:Heap}{X:YtI}{pl:Pl}{H:Heap}{β:Type}{r:β}{env:VEnv}{ae:Env}
def keyV:(o:Option IntKind)->(kty o).den->Value
 |none,s=>.string s
 |some k,n=>.int k n
theorem Yiv{o:Option IntKind}(a b:(kty o).den):YvE (kstr o) (keyV o a) (keyV o b)=some (keq o a b):=by
 cases o with
 |none=>
  have: ∀a b:ByteArray,some (a==b)=some (decide (a=b)):=fun a b=>by
   congr 1
   by_cases e:a=b
   ·rw[(MapKept.bytes_beq a b).2 e,decide_eq_true e]
   ·rw[decide_eq_false e]
    cases h:(a==b)with
    |false=>rfl
    |true=>exact absurd ((MapKept.bytes_beq a b).1 h) e
  exact this a b
 |some k=>
  have: ∀a b:Int,(if k=k then some (a==b)else none)=some (decide (a=b)):=fun a b=>by
   grind
  exact this a b
theorem YbK(o:Option IntKind)(k:(kty o).den):keyK (kstr o) (keyV o k)=true:=by cases o<;>rfl
theorem Yb5{o:Option IntKind}{tv:TV}{a:AV}{k:(kty o).den}(h:toD (kty o) tv=some k)(hr:TR X pl tv a):a= .v (keyV o k):=by
 have:=Yia h hr
 cases o with
 |none=>exact YaF this
 |some q=>exact YaF this
theorem Yiw(o:Option IntKind)(t:Ty)(V:Cs)(x:(mapC o t V).den):(mapC o t V).enc x= .v (.int .i64 x.1):: .v (keyV o x.2.1)::(Cs.cons t V).enc x.2.2:=by
 have:(kty o).enc x.2.1= .v (keyV o x.2.1):=by cases o<;>(rfl)
 rw[<-this]
 rfl
theorem Yix{o:Option IntKind}{t:Ty}{V:Cs}{e:List AV}{x:(mapC o t V).den}(h:CC e ((mapC o t V).enc x)): ∃r,e= .v (.int .i64 x.1):: .v (keyV o x.2.1)::r/\CC r ((Cs.cons t V).enc x.2.2):=by
 rw[Yiw]at h
 have hl:=h.1
 match e,hl with
 | [],hl=>trivial
 | [_],hl=>grind
 |b::k::r,hl=>
  have hb:b= .v (.int .i64 x.1):=YaF (h.2 0 b _ rfl rfl)
  have hk:k= .v (keyV o x.2.1):=YaF (h.2 1 k _ rfl rfl)
  subst hb;subst hk
  exact⟨r,rfl,by simp_all,fun j y y' h1 h2=>h.2 (j+2) y y' (by trivial) (by trivial)⟩
theorem Yiy{o:Option IntKind}{t:Ty}{V:Cs}{r:List AV}(b:Int)(k:(kty o).den){v:(Cs.cons t V).den}(h:CC r ((Cs.cons t V).enc v)):CC (.v (.int .i64 b):: .v (keyV o k)::r) ((mapC o t V).enc (b,(k,v))):=by
 have key:CC (.v (.int .i64 b):: .v (keyV o k)::r) (.v (.int .i64 b):: .v (keyV o k)::(Cs.cons t V).enc v):=by
  refine⟨by simp[h.1],fun j y y' h1 h2=> ?_⟩
  match j,h1,h2 with
  |0,h1,h2=>simp at h1 h2;subst h1;subst h2;exact .refl _
  |1,h1,h2=>simp at h1 h2;subst h1;subst h2;exact .refl _
  |j+2,h1,h2=>exact h.2 j y y' (by trivial) (by trivial)
 exact Eq.mpr (congrArg (CC _) (Yiw o t V _)) key
theorem Rows.tl{el:List (List AV)}{c:Cs}{e:List AV}{x:c.den}{l:List c.den}(h:Rows (e::el) c (x::l)):CC e (c.enc x)/\Rows el c l:=
 ⟨h.2 0 e x rfl rfl,by simpa using h.1,fun i e v h1 h2=>h.2 (i+1) e v (by trivial) (by trivial)⟩
theorem Rows.cons{el:List (List AV)}{c:Cs}{e:List AV}{x:c.den}{l:List c.den}(h:CC e (c.enc x))(k:Rows el c l):Rows (e::el) c (x::l):=by
 refine⟨by simp[k.1],fun i e' v h1 h2=> ?_⟩
 cases i with
 |zero=>simp_all
 |succ i=>exact k.2 i e' v (by trivial) (by trivial)
theorem Rows.none(c:Cs):Rows [] c []:=⟨rfl,fun i e v h=>by simp⟩
theorem Yv3{o:Option IntKind}{t:Ty}{V:Cs}(k:(kty o).den): ∀(el:List (List AV)) (l:List (mapC o t V).den) (i:Nat),Rows el (mapC o t V) l->
  (mfd (keq o) k l=none/\Yt2 (kstr o) (keyV o k) el i=some none/\ (∀(c:Int) (d:(Cs.cons t V).den),mpt (keq o) c k d l=List.append l [(c,(k,d))])/\mdl (keq o) k l=l)\/
  (∃p r v,mfd (keq o) k l=some v/\Yt2 (kstr o) (keyV o k) el i=some (some (i+p,r))/\CC r ((Cs.cons t V).enc v)/\
   (∀c d r',CC r' ((Cs.cons t V).enc d)->Rows (el.modify p (putE (.v (keyV o k)) r')) (mapC o t V) (mpt (keq o) c k d l))/\Rows (el.eraseIdx p) (mapC o t V) (mdl (keq o) k l))
 | [],[],i,_=>.inl ⟨rfl,rfl,fun _ _=>rfl,rfl⟩
 | [],_::_,i,h=>by have:=h.1;trivial
 |_::_,[],i,h=>by have:=h.1;trivial
 |e::el,x::l,i,h=>by
  obtain⟨h1,h2⟩:=h.tl
  obtain⟨r,rfl,hr⟩:=Yix h1
  simp only[Yt2,Yiv]
  cases hq:keq o k x.2.1 with
  |true=>
   refine .inr ⟨0,r,x.2.2,by simp only[mfd,hq,cond_true],rfl,hr,fun c d r' hr'=> ?_,?_⟩
   ·simp only[mpt,hq,cond_true]
    exact Rows.cons (Yiy x.1 k hr') h2
   ·simp only[mdl,hq]
    exact h2
  |false=>
   rcases Yv3 k el l (i+1) h2 with⟨g1,g2,g3,g4⟩| ⟨p,r2,v,g1,g2,g3,g4,g5⟩
   ·refine .inl ⟨by simp only[mfd,hq,cond_false];exact g1,g2,fun c d=> ?_,?_⟩
    ·simp only[mpt,hq,cond_false,g3];rfl
    ·show(bif keq o k x.2.1 then l else x::mdl (keq o) k l)=x::l
     simp_all
   ·refine .inr ⟨p+1,r2,v,by simp only[mfd,hq,cond_false];exact g1,by grind,g3,fun c d r' hr'=> ?_,?_⟩
    ·simp only[mpt,hq,cond_false,List.modify_succ_cons]
     exact Rows.cons h1 (g4 c d r' hr')
    ·simp only[mdl,hq,List.eraseIdx_cons_succ]
     exact Rows.cons h1 g5
theorem Yiz{κ ν:Type}(n:Int)(e:Int× (κ×ν))(l:List (Int× (κ×ν))):mbf n (e::l)=if e.1=n then some e.2 else mbf n l:=by
 show(bif decide (e.1=n)then some e.2 else mbf n l)=_
 simp
theorem YiA(n b:Int)(r:List AV)(el:List (List AV)):YuL n ((.v (.int .i64 b)::r)::el)=if b=n then some (.v (.int .i64 b)::r)else YuL n el:=by
 simp only[YuL,YuV]
 simp
theorem Ywd{o:Option IntKind}{t:Ty}{V:Cs}(n:Int): ∀(el:List (List AV)) (l:List (mapC o t V).den),Rows el (mapC o t V) l-> ∀e,mbf n l=some e->
  ∃b r,YuL n el=some (b:: .v (keyV o e.1)::r)/\CC r ((Cs.cons t V).enc e.2)
 | [],[],_,e,h=>by cases h
 | [],_::_,h,_,_=>by have:=h.1;trivial
 |_::_,[],h,_,_=>by trivial
 |e0::el,x::l,h,e,he=>by
  obtain⟨h1,h2⟩:=h.tl
  obtain⟨r,rfl,hr⟩:=Yix h1
  have he':=(@Yiz (kty o).den (Cs.cons t V).den n x l).symm.trans he
  have ef:=YiA n x.1 (.v (keyV o x.2.1)::r) el
  split at he'
  ·rename_i hc
   injection he' with he';subst he'
   exact⟨_,r,by rw[ef,if_pos hc],hr⟩
  ·rename_i hc
   rw[ef,if_neg hc]
   exact Ywd n el l h2 e he'
theorem YdL(hr:HRel Fr H0 X pl H){a x:Nat}{cs:List TV}(ho:vget X a=some (.st cs))(hp:pl (.m a)=some x): ∃e,H[x]?=some (some ⟨cs.length,[e]⟩)/\0<cs.length/\CT X pl cs e:=by
 obtain⟨x',e,h1,h2,h3,h4⟩:=hr.obj a _ ho
 simp_all
theorem YdM{c:Cs}{l:List c.den}{R:AV}(h:TR X pl (.l c l) R): ∃el,Yvd R=some el/\Rows el c l:=by
 cases h with
 |l _ _ _ h=>
  rcases YaZ h with⟨rfl,h1⟩| ⟨l0,rfl,h2,h3⟩
  ·have:l=[]:=by simp_all
   subst this
   exact⟨[],rfl,Rows.none c⟩
  ·refine⟨l0,rfl,by simp_all,fun i e v k1 k2=> ?_⟩
   grind
theorem YdN{a x:Nat}{n:Int}{c:Cs}{l:List c.den}{tags:List TV}(hr:HRel Fr H0 X pl H)(ho:vget X a=some (.st (.i .i64 n:: .l c l::tags)))(hp:pl (.m a)=some x)(hl:tags.length=1\/tags.length=2):
  ∃el atags R,H[x]?=some (some ⟨tags.length+2,[.v (.int .i64 n)::R::atags]⟩)/\mapO ⟨tags.length+2,[.v (.int .i64 n)::R::atags]⟩=some (n,el,atags)/\Rows el c l/\CT X pl tags atags:=by
 obtain⟨e,h1,h2,h3⟩:=YdL hr ho hp
 obtain⟨c0,e1,rfl,k1,k2⟩:=h3.inv
 obtain⟨R,at',rfl,k3,k4⟩:=k2.inv
 cases k1
 obtain⟨el,k5,k6⟩:=YdM k3
 refine⟨el,at',R,by trivial,?_,k6,k4⟩
 unfold mapO
 simp only[k5]
 rcases hl with h|h<;>rw[h]<;>rfl
theorem YdO{o:Option IntKind}{t:Ty}{V:Cs}{x:TV}{ax:AV}{a:Nat}{n:Int}{l:List (mapC o t V).den}{tags:List TV}(h:vmap o t V X x=some (a,n,l,tags))(hx:TR X pl x ax)(hr:HRel Fr H0 X pl H):
  ∃y el atags R,x= .np a/\ax= .np y/\pl (.m a)=some y/\vget X a=some (.st (.i .i64 n:: .l (mapC o t V) l::tags))/\ (tags.length=1\/tags.length=2)/\
   H[y]?=some (some ⟨tags.length+2,[.v (.int .i64 n)::R::atags]⟩)/\mapO ⟨tags.length+2,[.v (.int .i64 n)::R::atags]⟩=some (n,el,atags)/\Rows el (mapC o t V) l/\CT X pl tags atags:=by
 unfold vmap at h
 split at h
 ·rename_i a'
  split at h
  ·rename_i n' c l' tags' ho
   split at h
   ·rename_i l2 hl
    obtain⟨e1,e2⟩:=Yaa h
    injection e2 with e2;injection e2 with e3 e2;injection e2 with e4 e2;injection e2 with e5 e6
    subst e3;subst e4;subst e5;subst e6
    obtain⟨ec,el⟩:=Yaz hl
    subst ec;subst el
    simp at e1
    obtain⟨y,rfl,hp⟩:=YaB ho hx
    obtain⟨el,at',R,k1,k2,k3,k4⟩:=YdN hr ho hp e1
    grind
   trivial
  trivial
 trivial
theorem Yoc{o o':Option IntKind}(h:kty o=kty o'):o=o':=by
 cases o<;>cases o'<;>simp[kty]at h<;>first|rfl|simp[h]
def RowsF(o:Option IntKind)(c:Cs)(el:List (List AV))(l:List (mapC o (.l c) .nil).den):Prop:=
 el.length=l.length/\ ∀(i:Nat) (e:List AV) (x:(mapC o (.l c) .nil).den),el[i]?=some e->l[i]?=some x-> ∃r,e=[.v (.int .i64 x.1),.v (keyV o x.2.1),r]
theorem RowsF.tl{o:Option IntKind}{c:Cs}{e:List AV}{el:List (List AV)}{x:(mapC o (.l c) .nil).den}{l:List (mapC o (.l c) .nil).den}(h:RowsF o c (e::el) (x::l)):(∃r,e=[.v (.int .i64 x.1),.v (keyV o x.2.1),r])/\RowsF o c el l:=
 ⟨h.2 0 e x rfl rfl,by simpa using h.1,fun i e v h1 h2=>h.2 (i+1) e v h1 h2⟩
theorem Yvy{o:Option IntKind}{c:Cs}(k:(kty o).den): ∀(el:List (List AV)) (l:List (mapC o (.l c) .nil).den) (i:Nat),RowsF o c el l->
  (mfd (keq o) k l=none/\mix (keq o) k l=l.length/\Yt2 (kstr o) (keyV o k) el i=some none/\ (∀(n:Int) (d:List c.den),mpt (keq o) n k d l=List.append l [(n,(k,d))])/\mdl (keq o) k l=l)\/
  (∃p x r,l[p]?=some x/\el[p]?=some [.v (.int .i64 x.1),.v (keyV o x.2.1),r]/\mix (keq o) k l=p/\mfd (keq o) k l=some x.2.2/\Yt2 (kstr o) (keyV o k) el i=some (some (i+p,[r]))/\
   (∀(n:Int) (d:List c.den),mpt (keq o) n k d l=l.set p (x.1,(k,d)))/\mdl (keq o) k l=l.eraseIdx p)
 | [],[],i,_=>.inl ⟨rfl,rfl,rfl,fun _ _=>rfl,rfl⟩
 | [],_::_,i,h=>by have:=h.1;simp at this
 |_::_,[],i,h=>by have:=h.1;simp at this
 |e::el,x::l,i,h=>by
  obtain⟨⟨r,rfl⟩,h2⟩:=h.tl
  simp only[Yt2,Yiv]
  cases hq:keq o k x.2.1 with
  |true=>
   refine .inr ⟨0,x,r,rfl,rfl,?_,?_,rfl,fun n d=> ?_,?_⟩
   ·show(bif keq o k x.2.1 then 0 else mix (keq o) k l+1)=0
    rw[hq];rfl
   ·simp only[mfd,hq,cond_true]
   ·simp only[mpt,hq,cond_true];rfl
   ·simp only[mdl,hq,cond_true];rfl
  |false=>
   have hm:mix (keq o) k (x::l)=mix (keq o) k l+1:=by
    show(bif keq o k x.2.1 then 0 else mix (keq o) k l+1)=_
    rw[hq];rfl
   have hf:mfd (keq o) k (x::l)=mfd (keq o) k l:=by simp only[mfd,hq,cond_false]
   have hd:mdl (keq o) k (x::l)=x::mdl (keq o) k l:=by
    show(bif keq o k x.2.1 then l else x::mdl (keq o) k l)=_
    rw[hq];rfl
   have hp: ∀(n:Int) (d:List c.den),mpt (keq o) n k d (x::l)=x::mpt (keq o) n k d l:=fun n d=>by
    show(bif keq o k x.2.1 then(x.1,(k,d))::l else x::mpt (keq o) n k d l)=_
    rw[hq];rfl
   rcases Yvy k el l (i+1) h2 with⟨g1,g2,g3,g4,g5⟩| ⟨p,y,r2,g1,g2,g3,g4,g5,g6,g7⟩
   ·exact .inl ⟨hf.trans g1,hm.trans (congrArg (· +1) g2),g3,fun n d=>(hp n d).trans (congrArg (List.cons x) (g4 n d)),hd.trans (congrArg (List.cons x) g5)⟩
   ·refine .inr ⟨p+1,y,r2,g1,g2,hm.trans (congrArg (· +1) g3),hf.trans g4,?_,fun n d=>(hp n d).trans (congrArg (List.cons x) (g6 n d)),hd.trans (congrArg (List.cons x) g7)⟩
    have:Yt2 (kstr o) (keyV o k) el (i+1)=some (some (i+(p+1),[r2])):=by rw[g5];congr 3;omega
    exact this
theorem Yfn{a:Nat}{o:Option IntKind}{n:Int}{c:Cs}{hole:Option Nat}{i:Nat}{e:List AV}{x:(mapC o (.l c) .nil).den}(h:ElR pl H a (.mp o n) c hole i e x):
  ∃r,e=[.v (.int .i64 x.1),.v (keyV o x.2.1),r]/\ (hole≠some i-> ∃y el',pl (.n a i)=some y/\r= .ref y 0 (List.length x.2.2)/\H[y]?=some (some ⟨c.width,el'⟩)/\Rows el' c x.2.2):=by
 obtain⟨d,r,rfl,h2,h3⟩:=h
 have hd:d=[.v (.int .i64 x.1),.v (keyV o x.2.1)]:=by
  have e1:(Hd.mp o n).A.enc (da c (Hd.mp o n).A x)=[.v (.int .i64 x.1),.v (keyV o x.2.1)]:=by
   have:(kty o).enc x.2.1= .v (keyV o x.2.1):=by cases o<;>rfl
   rw[<-this];rfl
  rw[e1]at h2
  match d,h2.1 with
  | [u1,v1],_=>
    rw[show u1=_ from YaF (h2.2 0 u1 _ rfl rfl),show v1=_ from YaF (h2.2 1 v1 _ rfl rfl)]
 subst hd
 refine⟨r,rfl,fun hi=> ?_⟩
 rcases h3 hi with h| ⟨h,_⟩
 ·exact h
 ·cases h
theorem Yod{o:Option IntKind}{n:Int}{c:Cs}(b:Int)(k:(kty o).den)(lm:List c.den)(r:AV): ∃d,[.v (.int .i64 b),.v (keyV o k),r]=d++[r]/\CC d ((Hd.mp o n).A.enc (da c (Hd.mp o n).A (show(sn c (Hd.mp o n).A).den from(b,(k,lm))))):=by
 refine⟨[.v (.int .i64 b),.v (keyV o k)],rfl,?_⟩
 have e1:(Hd.mp o n).A.enc (da c (Hd.mp o n).A (show(sn c (Hd.mp o n).A).den from(b,(k,lm))))=[.v (.int .i64 b),.v (keyV o k)]:=by
  have:(kty o).enc k= .v (keyV o k):=by cases o<;>rfl
  rw[<-this];rfl
 rw[e1]
 exact⟨rfl,fun j x x' h1 h2=>by rw[h1]at h2;injection h2 with h2;subst h2;exact .refl _⟩
theorem YdP{o:Option IntKind}{x:TV}{ax:AV}{f:FMap o}(h:Yu8 o X x=some f)(hx:TR X pl x ax)(hr:HRel Fr H0 X pl H):
  ∃y el,x= .np f.a/\ax= .np y/\pl (.m f.a)=some y/\vget X f.a=some (.fm (.mp o f.n) f.c f.ver f.hole f.l)/\H[y]?=some (some ⟨3,[[.v (.int .i64 f.n),.rd 3 el,.v (.bool false)]]⟩)/\0<f.c.width/\
   (∀(i:Nat) (e:List AV) (v:(mapC o (.l f.c) .nil).den),el[i]?=some e->f.l[i]?=some v->ElR pl H f.a (.mp o f.n) f.c f.hole i e v)/\RowsF o f.c el f.l/\
   mapO ⟨3,[[.v (.int .i64 f.n),.rd 3 el,.v (.bool false)]]⟩=some (f.n,el,[.v (.bool false)]):=by
 unfold Yu8 at h
 split at h
 ·rename_i a
  split at h
  ·rename_i o' n c ver hole l ho
   split at h
   ·rename_i l2 hl
    injection h with h;subst h
    obtain⟨ec,el⟩:=Yaz hl
    have eo:o'=o:=by
     injection ec with _ ec;injection ec with ec _
     exact Yoc ec
    subst eo
    have el:l=l2:=el
    subst el
    obtain⟨y,rfl,hp⟩:=YaB ho hx
    obtain⟨y',el,h1,h2,h3,h4,h6⟩:=hr.obj a _ ho
    rw[hp]at h1;injection h1 with h1;subst h1
    refine⟨y,el,rfl,rfl,hp,ho,h2,h3,h6,⟨h4,fun i e x k1 k2=> ?_⟩,rfl⟩
    obtain⟨r,h,_⟩:=Yfn (h6 i e x k1 k2)
    exact⟨r,h⟩
   ·cases h
  ·cases h
 ·cases h
theorem YiB(hr:HRel Fr H0 X pl H){o:Option IntKind}{f:FMap o}{el:List (List AV)}(ho:vget X f.a=some (.fm (.mp o f.n) f.c f.ver f.hole f.l))(hh:f.hole=none)
  (h6: ∀(i:Nat) (e:List AV) (v:(mapC o (.l f.c) .nil).den),el[i]?=some e->f.l[i]?=some v->ElR pl H f.a (.mp o f.n) f.c f.hole i e v) {p:Nat} {x:(mapC o (.l f.c) .nil).den} {r:AV} (h1:f.l[p]?=some x) (h2:el[p]?=some [.v (.int .i64 x.1),.v (keyV o x.2.1),r]):
  TR X pl (.sub f.a f.ver p) r:=by
 obtain⟨r',e,hq⟩:=Yfn (h6 p _ x h2 h1)
 simp only[List.cons.injEq,and_true,true_and]at e
 subst e
 obtain⟨y,el',g1,g2,g3,g4⟩:=hq (by rw[hh];simp)
 rw[hh]at ho
 have hpl:=(YwP.1 h1).1
 have hx:getI (sn f.c (Hd.mp o f.n).A) f.l p=x:=by
  have:=YaA (c:=mapC o (.l f.c) .nil) hpl
  rw[h1]at this;injection this with this;exact this.symm
 have:=TR.sub (X:=X) (pl:=pl) f.a f.ver p y (.mp o f.n) f.c f.l ho hpl g1
 unfold owI at this
 rw[hx]at this
 rw[g2];exact this
theorem YwG{o:Option IntKind}(k:(kty o).den)(kd:Nat)(h:kd=1):(Yxr 3 (kd+2)&&keyK (kstr o) (keyV o k))=true:=by rw[h,YbK];rfl
theorem Yoe{o:Option IntKind}{t:Ty}{V:Cs}{ag ok:Bool}{m:TV}{am:AV}{k:(kty o).den}{f:FMap o}{K:TV->YtI->Option β}(hf0:Yu8 o X m=some f)(hh:f.hole=none)(hb:(Yxr (knd ag) 1&& (Ty.l f.c).eqb t&&knk ag V)=true)(h:vres ok (.sub f.a f.ver (mix (keq o) k f.l)) (mhs (keq o) k f.l) X K=some r)(hm:TR X pl m am)(hr:HRel Fr H0 X pl H)
  {KA:AV->List Upd->Prop} (hK: ∀v va,K v X=some r->TR X pl v va->KA va []):
  ∃v us,xF (.mget (kstr o) (knd ag) ok) [am,.v (keyV o k),mzA ag (.cons t V)] (hf H) H.length=some (v,us)/\KA v us:=by
 obtain⟨y,el,rfl,rfl,hp,ho,hy,h0,h6,hrow,hmo⟩:=YdP hf0 hm hr
 simp only[YxL]at hb
 obtain⟨⟨hb1,hb2⟩,hb3⟩:=hb
 have hkd:=Yxt hb1
 have hag:ag=false:=by cases ag with|true=>cases hkd|false=>rfl
 subst hag
 have ht:=Ty.eq_of hb2
 subst ht
 have hV:V= .nil:=by
  cases V with
  |nil=>rfl
  |cons _ _=>have:=Yxt hb3;cases this
 subst hV
 have hyf:hf H y=some (some ⟨3,[[.v (.int .i64 f.n),.rd 3 el,.v (.bool false)]]⟩):=hy
 have hkb:=YwG k (knd false) hkd
 have fin: ∀(v:TV) (va:AV) (is:Bool),TR X pl v va->vres ok v is X K=some r->KA (mres ok va is) []:=by
  intro v va is hv h
  cases ok with
  |true=>exact hK _ _ h (.tp _ _ rfl (fun j c a h1 h2=>by
   match j,h1,h2 with
   |0,h1,h2=>simp_all
   |1,h1,h2=>simp at h1 h2;subst h1;subst h2;exact .b _
   |j+2,h1,h2=>simp at h1))
  |false=>exact hK _ _ h hv
 rcases Yvy k el f.l 0 hrow with⟨g1,g2,g3,_⟩| ⟨p,x,r0,g1,g2,g3,g4,g5,_⟩
 ·refine⟨mres ok (mzA false (.cons (.l f.c) .nil)) false,[],by simp only[xF,hyf,hmo,hkb,cond_true,g3],?_⟩
  refine fin _ _ _ ?_ (by simpa only[mhs,g1]using h)
  rw[g2]
  rw[hh]at ho
  exact TR.sube f.a f.ver f.l.length (.mp o f.n) f.c f.l ho (YnJ hr ho (.inl (Yxs _))) (YnL (hd:=.mp o f.n) (Yxs _))
 ·refine⟨mres ok r0 true,[],by simp only[xF,hyf,hmo,hkb,cond_true,g5];rfl,?_⟩
  refine fin _ _ _ ?_ (by simpa only[mhs,g4]using h)
  rw[g3]
  exact YiB hr ho hh h6 g1 g2
theorem Yof{c:Cs}{v:TV}{av:AV}{b:Nat}{lm:List c.den}(h:ownS c X v=some (b,lm))(hv:TR X pl v av)(hr:HRel Fr H0 X pl H): ∃y el,av= .ref y 0 lm.length/\pl (.m b)=some y/\vget X b=some (.sq c lm)/\H[y]?=some (some ⟨c.width,el⟩)/\Rows el c lm:=by
 have key: ∀{c':Cs} {lm':List c'.den} {lm:List c.den} {b:Nat},vget X b=some (.sq c' lm')->asL c' c lm'=some lm->vget X b=some (.sq c lm):=by
  intro c' lm' lm b h1 h2
  obtain⟨e1,e2⟩:=Yaz h2
  subst e1;subst e2;exact h1
 unfold ownS at h
 split at h
 ·rename_i b'
  split at h
  ·rename_i c' lm' ho
   split at h
   ·rename_i lm2 hl
    injection h with h;injection h with h1 h2;subst h1;subst h2
    have ho:=key ho hl
    obtain⟨y,n,rfl,hp,hn⟩:=Yan ho hv
    simp only[lenO]at hn;injection hn with hn;subst hn
    obtain⟨y',el,g1,g2,g3,g4⟩:=hr.obj _ _ ho
    rw[hp]at g1;injection g1 with g1;subst g1
    exact⟨y,el,rfl,hp,ho,g2,g4⟩
   ·cases h
  ·cases h
 ·rename_i b' n
  split at h
  ·rename_i c' lm' ho
   split at h
   ·rename_i lm2 hl
    obtain⟨e0,h⟩:=Yah h
    injection h with h;injection h with h1 h2;subst h1;subst h2
    have ho:=key ho hl
    obtain⟨y,k,rfl,hp,hn,_,_⟩:=Yb4 ho hv
    obtain⟨y',el,g1,g2,g3,g4⟩:=hr.obj _ _ ho
    rw[hp]at g1;injection g1 with g1;subst g1
    exact⟨y,el,by rw[e0];rfl,hp,ho,g2,g4⟩
   ·cases h
  ·cases h
 ·cases h
theorem Yog{c:Cs}{v:TV}{K:Nat->List c.den->Option β}(h:ownK c X v K=some r): ∃b lm,ownS c X v=some (b,lm)/\K b lm=some r:=by
 cases v with
 |ref b=>
  simp only[ownK,ownS]at h⊢
  cases hg:vget X b with
  |none=>rw[hg]at h;cases h
  |some o=>
   cases o with
   |sq c' lm=>
    simp only[hg]at h⊢
    cases ha:asL c' c lm with
    |none=>rw[ha]at h;cases h
    |some lm2=>simp only[ha]at h⊢;exact⟨_,_,rfl,h⟩
   |_=>simp only[hg]at h;cases h
 |pre b n=>
  simp only[ownK,ownS]at h⊢
  cases hg:vget X b with
  |none=>rw[hg]at h;cases h
  |some o=>
   cases o with
   |sq c' lm=>
    simp only[hg]at h⊢
    cases ha:asL c' c lm with
    |none=>rw[ha]at h;cases h
    |some lm2=>
     simp only[ha]at h⊢
     obtain⟨e0,h⟩:=Yah h
     exact⟨_,_,by rw[e0];simp[chk],h⟩
   |_=>simp only[hg]at h;cases h
 |_=>cases h
theorem YiC{o:Option IntKind}{t:Ty}{V:Cs}{ag:Bool}{m v:TV}{am av:AV}{k:(kty o).den}{f:FMap o}{b:Nat}{lm:List f.c.den}{K:TV->YtI->Option β}(hf0:Yu8 o X m=some f)(hb:(Yxr (knd ag) 1&& (Ty.l f.c).eqb t&&knk ag V)=true)(hs:ownS f.c X v=some (b,lm))(hh:f.hole=none\/f.hole=some (mix (keq o) k f.l))
  (h:K .u (vset (vset X b none) f.a (some (.fm (.mp o (mck (keq o) f.n k f.l)) f.c (f.ver+1) none (mpt (keq o) f.n k lm f.l))))=some r) (hm:TR X pl m am) (hv:TR X pl v av) (hr:HRel Fr H0 X pl H)
  {KA:AV->List Upd->Prop} (hK: ∀v X' va us,K v X'=some r->Nxt Fr H0 X pl H v X' va us->KA va us):
  ∃w us,xF (.mput (kstr o) (knd ag) (mapC o t V).width) [am,.v (keyV o k),av] (hf H) H.length=some (w,us)/\KA w us:=by
 obtain⟨y,el,rfl,rfl,hp,ho,hy,h0,h6,hrow,hmo⟩:=YdP hf0 hm hr
 simp only[YxL]at hb
 obtain⟨⟨hb1,hb2⟩,hb3⟩:=hb
 have hkd:=Yxt hb1
 have hag:ag=false:=by cases ag with|true=>cases hkd|false=>rfl
 subst hag
 have ht:=Ty.eq_of hb2
 subst ht
 have hV:V= .nil:=by
  cases V with
  |nil=>rfl
  |cons _ _=>have:=Yxt hb3;cases this
 subst hV
 obtain⟨yb,elb,rfl,hpb,hob,hyb,hrb⟩:=Yof hs hv hr
 have hyf:hf H y=some (some ⟨3,[[.v (.int .i64 f.n),.rd 3 el,.v (.bool false)]]⟩):=hy
 have hkb:=YwG k (knd false) hkd
 have hne:b≠f.a:=fun e=>by rw[e,ho]at hob;cases hob
 have hal:=Yab ho
 have hbl:=Yab hob
 have hcell:Yu4 (knd false) (.ref yb 0 lm.length)=some [.ref yb 0 lm.length]:=rfl
 have hstay: ∀j z,pl (.n f.a j)=some z->j<f.l.length/\f.hole≠some j:=fun j z hz=>by
  rcases Ybd hr ho hz rfl with e| ⟨j',e,h1,h2⟩
  ·cases e
  ·injection e with _ e;subst e;exact⟨h1,h2⟩
 have go: ∀{n':Int} {l':List (mapC o (.l f.c) .nil).den} {el':List (List AV)} (q:Nat),q<l'.length->f.l.length<=l'.length->(∀j,f.hole=some j->j=q)->mck (keq o) f.n k f.l=n'->mpt (keq o) f.n k lm f.l=l'->el'.length=l'.length->
   (∀(i:Nat) (e:List AV) (x:(mapC o (.l f.c) .nil).den),i≠q->el'[i]?=some e->l'[i]?=some x-> ∃e0,el[i]?=some e0/\e=e0/\f.l[i]?=some x)->(∃bb,el'[q]?=some [.v (.int .i64 bb),.v (keyV o k),.ref yb 0 lm.length]/\l'[q]?=some (bb,(k,lm)))->
   KA .u [.set y (some ⟨3,[[.v (.int .i64 n'),.rd 3 el',.v (.bool false)]]⟩)]:=by
  intro n' l' el' q hq hle hhole hn hl hel hoth ⟨bb,hq1,hq2⟩
  have h':K .u (vset (vset X b none) f.a (some (.fm (.mp o n') f.c (f.ver+1) none l')))=some r:=by subst hn;subst hl;exact h
  obtain⟨pl',k1,k2,_⟩:=YdG hr (m:=b) (hd':=.mp o n') (ver':=f.ver+1) (l':=l') (el:=el') (X':=vset (vset X b none) f.a (some (.fm (.mp o n') f.c (f.ver+1) none l'))) (src:=fun j=>if j=q then some yb else pl (.n f.a j))
   ho hp (.inr ⟨by rw[Yak _ (Ne.symm hne)];exact Yam _ hbl,lm,hob⟩) (by rw[Yac,Yac]) (Yam _ (by rw[Yac];omega)) (fun b' h1 h2=>by rw[Yak _ (Ne.symm h1),Yak _ (Ne.symm h2)]) (by omega) rfl rfl h0
   (fun j z hz=>by
    by_cases e:j=q
    ·rw[if_pos e]at hz;injection hz with hz;subst hz;exact⟨e▸hq,.inr ⟨hne,hpb⟩⟩
    ·rw[if_neg e]at hz;exact⟨Yxw (hstay j z hz).1 hle,.inl ⟨j,hz⟩⟩)
   (fun i j z h1 h2=>by
    by_cases e1:i=q<;>by_cases e2:j=q
    ·rw[e1,e2]
    ·rw[if_pos e1]at h1;rw[if_neg e2]at h2;injection h1 with h1;subst h1;have:=hr.inj _ _ _ h2 hpb;cases this
    ·rw[if_neg e1]at h1;rw[if_pos e2]at h2;injection h2 with h2;subst h2;have:=hr.inj _ _ _ h1 hpb;cases this
    ·rw[if_neg e1]at h1;rw[if_neg e2]at h2;have:=hr.inj _ _ _ h1 h2;injection this) hel (by
    intro i e x h1 h2
    by_cases e1:i=q
    ·subst e1
     rw[hq1]at h1;injection h1 with h1;subst h1
     have h2':some (bb,(k,lm))=some x:=hq2.symm.trans h2
     injection h2' with h2';subst h2'
     obtain⟨d,d1,d2⟩:=Yod (o:=o) (n:=n') (c:=f.c) bb k lm (.ref yb 0 lm.length)
     exact⟨d,_,d1,d2,.inl ⟨yb,elb,if_pos rfl,rfl,hyb,hrb⟩⟩
    ·obtain⟨e0,h3,rfl,h4⟩:=hoth i e x e1 h1 h2
     obtain⟨d,r0,q1,q2,q3⟩:=YaT (h6 i e x h3 h4) (fun hc=>e1 (hhole i hc))
     refine⟨d,r0,q1,q2,?_⟩
     rw[if_neg e1];exact q3)
  exact hK _ _ .u _ h' ⟨pl',.u _,⟨k1,k2⟩,.inl (by rw[Yac,Yac])⟩
 rcases Yvy k el f.l 0 hrow with⟨g1,g2,g3,g4,_⟩| ⟨p,x,r0,g1,g2,g3,g4,g5,g6,_⟩
 ·have g4':=g4 f.n lm
  refine⟨.u,_,by simp only[xF,hyf,hmo,hkb,cond_true,hcell,g3];rfl,?_⟩
  let x0:(mapC o (.l f.c) .nil).den:=(f.n,(k,lm))
  have hl1:(f.l++[x0]).length=f.l.length+1:=by rw[Yxl];rfl
  refine go (n':=f.n+1) (l':=f.l++[x0]) f.l.length (by rw[hl1];omega) (by rw[hl1];omega) (fun j hj=> ?_) (by simp only[mck,g1]) g4' (by rw[hl1,Yxl,hrow.1];rfl) (fun i e x hi h1 h2=> ?_) ⟨f.n,?_,?_⟩
  ·rcases hh with e|e
   ·rw[e]at hj;cases hj
   ·rw[e]at hj;injection hj with hj;rw[<-hj,g2]
  ·have hil:i<f.l.length:=by
    have:=(YwP.1 h2).1
    rw[hl1]at this;omega
   rw[YwU (by rw[hrow.1];exact hil)]at h1
   rw[YwU hil]at h2
   exact⟨e,h1,rfl,h2⟩
  ·rw[<-hrow.1,List.getElem?_concat_length]
  ·exact List.getElem?_concat_length
 ·have g6':=g6 f.n lm
  have hpl:=(YwP.1 g1).1
  refine⟨.u,_,by simp only[xF,hyf,hmo,hkb,cond_true,hcell,g5];rfl,?_⟩
  let x0:(mapC o (.l f.c) .nil).den:=(x.1,(k,lm))
  have hl1:(f.l.set p x0).length=f.l.length:=Yw5
  refine go (n':=f.n) (l':=f.l.set p x0) p (by rw[hl1];exact hpl) (by rw[hl1];omega) (fun j hj=> ?_) (by simp only[mck,g4]) g6' (by rw[hl1,List.length_modify];exact hrow.1) (fun i e x' hi h1 h2=> ?_) ⟨x.1,?_,Yw4 hpl⟩
  ·rcases hh with e|e
   ·rw[e]at hj;cases hj
   ·rw[e]at hj;injection hj with hj;rw[<-hj,g3]
  ·rw[Yxx,List.getElem?_modify_ne _ _ (Ne.symm hi)]at h1
   rw[YwV (Ne.symm hi)]at h2
   exact⟨e,h1,rfl,h2⟩
  ·rw[Yxx,List.getElem?_modify_eq,g2];rfl
theorem Yoh{o:Option IntKind}{t:Ty}{V:Cs}{m:TV}{am:AV}{k:(kty o).den}{f:FMap o}{K:TV->YtI->Option β}(hf0:Yu8 o X m=some f)(hh:f.hole=none)(hb:Cs.eqb (mapC o t V) (mapC o (.l f.c) .nil)=true)
  (h:K .u (vset X f.a (some (.fm (.mp o f.n) f.c (f.ver+1) none (mdl (keq o) k f.l))))=some r) (hm:TR X pl m am) (hr:HRel Fr H0 X pl H)
  {KA:AV->List Upd->Prop} (hK: ∀v X' va us,K v X'=some r->Nxt Fr H0 X pl H v X' va us->KA va us):
  ∃w us,xF (.mdel (kstr o) (mapC o t V).width) [am,.v (keyV o k)] (hf H) H.length=some (w,us)/\KA w us:=by
 obtain⟨y,el,rfl,rfl,hp,ho,hy,h0,h6,hrow,hmo⟩:=YdP hf0 hm hr
 rw[Cs.eq_of hb]
 have hyf:hf H y=some (some ⟨3,[[.v (.int .i64 f.n),.rd 3 el,.v (.bool false)]]⟩):=hy
 have hal:=Yab ho
 have go: ∀{l':List (mapC o (.l f.c) .nil).den} {el':List (List AV)} (g:Nat->Nat),(∀i j,g i=g j->i=j)->mdl (keq o) k f.l=l'->el'.length=l'.length->(∀i,i<l'.length->l'[i]?=f.l[g i]?/\el'[i]?=el[g i]?)->
   KA .u [.set y (some ⟨3,[[.v (.int .i64 f.n),.rd 3 el',.v (.bool false)]]⟩)]:=by
  intro l' el' g hg hl hel hoth
  have h':K .u (vset X f.a (some (.fm (.mp o f.n) f.c (f.ver+1) none l')))=some r:=by subst hl;exact h
  obtain⟨pl',k1,k2,_⟩:=YdG hr (m:=f.a) (hd':=.mp o f.n) (ver':=f.ver+1) (l':=l') (el:=el') (X':=vset X f.a (some (.fm (.mp o f.n) f.c (f.ver+1) none l'))) (src:=fun j=>if j<l'.length then pl (.n f.a (g j))else none)
   ho hp (.inl rfl) (Yac _ _ _) (Yam _ hal) (fun b' h1 _=>by rw[Yak _ (Ne.symm h1)]) (by omega) rfl rfl h0
   (fun j z hz=>by
    split at hz
    ·rename_i hj;exact⟨hj,.inl ⟨_,hz⟩⟩
    ·cases hz)
   (fun i j z h1 h2=>by
    split at h1<;>split at h2
    ·have:=hr.inj _ _ _ h1 h2;injection this with _ this;exact hg _ _ this
    ·cases h2
    ·cases h1
    ·cases h1) hel (by
    intro i e x h1 h2
    have hi:i<l'.length:=(YwP.1 h2).1
    obtain⟨q1,q2⟩:=hoth i hi
    obtain⟨d,r0,p1,p2,p3⟩:=YaT (h6 (g i) e x (q2.symm.trans h1) (q1.symm.trans h2)) (by rw[hh];simp)
    refine⟨d,r0,p1,p2,?_⟩
    rw[if_pos hi];exact p3)
  exact hK _ _ .u _ h' ⟨pl',.u _,⟨k1,k2⟩,.inl (Yac _ _ _)⟩
 rcases Yvy k el f.l 0 hrow with⟨g1,g2,g3,_,g4⟩| ⟨p,x,r0,g1,g2,g3,g4,g5,_,g7⟩
 ·refine⟨.u,_,by simp only[xF,hyf,hmo,YbK,cond_true,g3];rfl,?_⟩
  exact go id (fun i j h=>h) g4 hrow.1 (fun i hi=>⟨rfl,rfl⟩)
 ·have hpl:=(YwP.1 g1).1
  refine⟨.u,_,by simp only[xF,hyf,hmo,YbK,cond_true,g5];rfl,?_⟩
  refine go (fun i=>if i<p then i else i+1) (fun i j h=> ?_) g7 (by rw[Yxx,List.length_eraseIdx,List.length_eraseIdx,hrow.1]) (fun i hi=> ?_)
  ·by_cases e1:i<p<;>by_cases e2:j<p<;>simp[e1,e2]at h<;>omega
  ·rw[Yxx,List.getElem?_eraseIdx,List.getElem?_eraseIdx]
   by_cases e:i<p<;>simp[e]
theorem Yoi(o:Option IntKind)(c:Cs)(h0:0<c.width)(hr:HRel Fr H0 X pl H):
  Nxt Fr H0 X pl H (.np X.length) (X++[some (.fm (.mp o 0) c 0 none [])]) (.np H.length) [.push (some ⟨3,[[.v (.int .i64 0),.rd 3 [],.v (.bool false)]]⟩)]:=by
 obtain⟨k1,k2⟩:=Yas hr (.fm (.mp o 0) c 0 none []) ⟨3,[[.v (.int .i64 0),.rd 3 [],.v (.bool false)]]⟩
  (fun _=>⟨H.length,[],by unfold plS;simp,by simp[Hd.obj],h0,rfl,fun i e v h=>by simp at h⟩)
 exact⟨_,.np X.length H.length _ (Yal X _) (by unfold plS;simp),⟨k1,k2⟩,.inr ⟨by simp,by unfold plS;simp⟩⟩
theorem YiD{o:Option IntKind}{c:Cs}(n:Int): ∀(el:List (List AV)) (l:List (mapC o (.l c) .nil).den),RowsF o c el l-> ∀e,mbf n l=some e->
  ∃q x r,mbx n l=q/\l[q]?=some x/\el[q]?=some [.v (.int .i64 x.1),.v (keyV o x.2.1),r]/\x.2=e/\YuL n el=some [.v (.int .i64 x.1),.v (keyV o x.2.1),r]
 | [],[],_,e,h=>by cases h
 | [],_::_,h,_,_=>by have:=h.1;simp at this
 |_::_,[],h,_,_=>by have:=h.1;simp at this
 |e0::el,x::l,h,e,he=>by
  obtain⟨⟨r,rfl⟩,h2⟩:=h.tl
  have he':=(Yiz n x l).symm.trans he
  have ef:=YiA n x.1 [.v (keyV o x.2.1),r] el
  have hb: ∀(x:Int× ((kty o).den×List c.den)) (l:List (Int× ((kty o).den×List c.den))),mbx n (x::l)=if x.1=n then 0 else mbx n l+1:=fun x l=>by
   show(bif decide (x.1=n)then 0 else mbx n l+1)=_
   simp
  replace hb:=hb x l
  split at he'
  ·rename_i hc
   injection he' with he'
   rw[if_pos hc]at hb
   exact⟨0,x,r,hb,rfl,rfl,he',by rw[ef,if_pos hc]⟩
  ·rename_i hc
   rw[if_neg hc]at hb
   obtain⟨q,x',r',q0,q1,q2,q3,q4⟩:=YiD n el l h2 e he'
   exact⟨q+1,x',r',hb.trans (congrArg (· +1) q0),q1,q2,q3,by rw[ef,if_neg hc];exact q4⟩
theorem Yfo{ag:Bool}{t:Ty}{V:Cs}{v:(Cs.cons t V).den}{rr:List AV}(hk:knk ag V=true)(h:CC rr ((Cs.cons t V).enc v)): ∃y,mval (knd ag) rr=some y/\TR X pl (mvT ag (.cons t V) v) y:=by
 have hct:=Ybb (X:=X) (pl:=pl) (Cs.cons t V) v h
 cases ag with
 |true=>exact⟨.agg rr,rfl,.ag _ _ hct.1 hct.2⟩
 |false=>
  cases V with
  |cons _ _=>trivial
  |nil=>
   have hl:=h.1
   match rr,hl with
   | [a],_=>
     refine⟨a,rfl,?_⟩
     obtain⟨a',h1,h2⟩:=hct.get (j:=0) (c:=tvOf t (fstP .nil v)) rfl
     simp at h1;subst h1
     exact h2
theorem Yoj{o:Option IntKind}{t:Ty}{V:Cs}{ag ok:Bool}{m k:TV}{am ak:AV}{K:TV->YtI->Option β}(h:Ywm o t V ag ok m k X K=some r)(hm:TR X pl m am)(hk:TR X pl k ak)(hr:HRel Fr H0 X pl H)
  (hz:CC ((Cs.cons t V).zeros.map zc) ((Cs.cons t V).enc (Cs.cons t V).dft)) {KA:AV->List Upd->Prop} (hK: ∀v va,K v X=some r->TR X pl v va->KA va []):
  ∃v us,xF (.mget (kstr o) (knd ag) ok) [am,ak,mzA ag (.cons t V)] (hf H) H.length=some (v,us)/\KA v us:=by
 unfold Ywm at h
 split at h
 ·rename_i a n l tags k' hv hk'
  obtain⟨y,el,at',R,rfl,rfl,hp,ho,hl,hy,hmo,hrow,htag⟩:=YdO hv hm hr
  obtain⟨e1,e2⟩:=Yaa h
  simp at e1
  obtain⟨e1,e3⟩:=e1
  have hak:=Yb5 hk' hk
  subst hak
  have hyf:hf H y=some (some ⟨tags.length+2,[.v (.int .i64 n)::R::at']⟩):=hy
  have hb:(Yxr (tags.length+2) (knd ag+2)&&keyK (kstr o) (keyV o k'))=true:=by rw[e1,Nat.beq_refl,YbK];rfl
  have mz: ∃z,TR X pl (mvT ag (.cons t V) (Cs.cons t V).dft) z/\mzA ag (.cons t V)=z:=by
   obtain⟨z,h1,h2⟩:=Yfo (X:=X) (pl:=pl) e3 hz
   refine⟨z,h2,?_⟩
   cases ag with
   |true=>injection h1
   |false=>
    cases V with
    |cons _ _=>trivial
    |nil=>injection h1
  have fin: ∀(v:TV) (va:AV) (is:Bool),TR X pl v va->vres ok v is X K=some r->KA (mres ok va is) []:=by
   intro v va is hv h
   cases ok with
   |true=>exact hK _ _ h (.tp _ _ rfl (fun j c a h1 h2=>by
    match j,h1,h2 with
    |0,h1,h2=>simp_all
    |1,h1,h2=>simp at h1 h2;subst h1;subst h2;exact .b _
    |j+2,h1,h2=>trivial))
   |false=>exact hK _ _ h hv
  rcases Yv3 k' el l 0 hrow with⟨g1,g2,_,_⟩| ⟨p,rr,v,g1,g2,g3,_,_⟩
  ·obtain⟨z,hz1,hz2⟩:=mz
   refine⟨mres ok z false,[],?_,fin _ _ _ hz1 ?_⟩
   ·simp only[xF,hyf,hmo,hb,cond_true,g2,hz2]
   ·simpa only[mgt,mhs,g1]using e2
  ·obtain⟨yv,q1,q2⟩:=Yfo (X:=X) (pl:=pl) e3 g3
   refine⟨mres ok yv true,[],?_,fin _ _ _ q2 ?_⟩
   ·simp only[xF,hyf,hmo,hb,cond_true,g2,q1]
   ·simpa only[mgt,mhs,g1]using e2
 ·rename_i k' hv hk'
  have hak:=Yb5 hk' hk
  subst hak
  split at h
  ·rename_i f hf0
   split at h
   ·rename_i hh
    obtain⟨e1,e2⟩:=Yaa h
    exact Yoe hf0 hh e1 e2 hm hr hK
   ·cases h
  ·cases h
 ·cases h
theorem YdQ(hr:HRel Fr H0 X pl H){a y:Nat}{cs ds:List TV}{e':List AV}(ho:vget X a=some (.st cs))(hp:pl (.m a)=some y){e:List AV}(hy:H[y]?=some (some ⟨cs.length,[e]⟩))(hl:ds.length=cs.length)(h0:0<ds.length)(hct:CT X pl ds e'):
  Nxt Fr H0 X pl H .u (vset X a (some (.st ds))) .u [.set y (some ⟨cs.length,[e']⟩)]:=by
 refine⟨pl,.u _,?_,.inl (Yac _ _ _)⟩
 exact Yb2 hr ho hp _ rfl rfl (fun _ _ _ _ _ e=>by cases e) (fun _ _ _ _ _ e=>by cases e) (fun hx=>⟨y,e',hp,by grind,h0,hct.ext hx⟩)
theorem Ybn{c:Cs}{l:List c.den}{el:List (List AV)}(h:Rows el c l):TR X pl (.l c l) (.rd c.width el):=.l c l _ (rows_coe' h)
theorem Yok{a x:AV}(hna: ∀ds,a≠ .agg ds)(h:cellsOf a=some [x]):Yu4 1 a=some [x]:=by
 cases a<;>first|exact absurd rfl (hna _)| (simp only[Yu4,h])
theorem Yol{o:Option IntKind}{t:Ty}{V:Cs}{ag:Bool}{m k v:TV}{am ak av:AV}{K:TV->YtI->Option β}(h:Ywn o t V ag m k v X K=some r)(hm:TR X pl m am)(hk:TR X pl k ak)(hv:TR X pl v av)(hr:HRel Fr H0 X pl H)
  {KA:AV->List Upd->Prop} (hK: ∀v X' va us,K v X'=some r->Nxt Fr H0 X pl H v X' va us->KA va us):
  ∃w us,xF (.mput (kstr o) (knd ag) (mapC o t V).width) [am,ak,av] (hf H) H.length=some (w,us)/\KA w us:=by
 unfold Ywn at h
 split at h
 ·rename_i a n l tags k' hvm hk'
  obtain⟨y,el,at',R,rfl,rfl,hp,ho,hl,hy,hmo,hrow,htag⟩:=YdO hvm hm hr
  obtain⟨e1,e2⟩:=Yaa h
  simp at e1
  obtain⟨e1,e3,e4⟩:=e1
  have hak:=Yb5 hk' hk
  subst hak
  split at e2
  ·rename_i cs hcs
   split at e2
   ·rename_i d hd
    obtain⟨as,ha1,ha2⟩:=Yff hcs hv
    have hcc:=Ybc hd ha2
    have hcell:Yu4 (knd ag) av=some as:=by
     cases ag with
     |true=>
      cases v<;>simp[isAg]at e3
      cases hv
      trivial
     |false=>
      have hV:V.width=0:=Yxt e4
      have hlen:as.length=1:=by rw[hcc.1,Yax];simp[Cs.width,hV]
      match as,hlen with
      | [x],_=>
        have hna: ∀ds,av≠ .agg ds:=by
         intro ds e
         subst e
         cases hv with
         |l c w _ hco=>trivial
         |u=>trivial
         |refD a'=>rename_i hq _;simp[YtY,hq]at hcs
         |subD=>trivial
         |ptrD a' i j=>rename_i hq _;simp[YtY,hq]at hcs
         |ptiD=>trivial
         |npD a'=>rename_i hq _;simp[YtY,hq]at hcs
         |ag=>trivial
        exact Yok hna ha1
    have hyf:hf H y=some (some ⟨tags.length+2,[.v (.int .i64 n)::R::at']⟩):=hy
    have hb:(Yxr (tags.length+2) (knd ag+2)&&keyK (kstr o) (keyV o k'))=true:=by rw[e1,Nat.beq_refl,YbK];rfl
    have hlen:(.i .i64 n:: .l (mapC o t V) l::tags:List TV).length=tags.length+2:=by simp
    rcases Yv3 k' el l 0 hrow with⟨g1,g2,g3,_⟩| ⟨p,rr,v0,g1,g2,g3,g4,_⟩
    ·refine⟨.u,_,by simp only[xF,hyf,hmo,hb,cond_true,hcell,g2];rfl,hK _ _ _ _ e2 ?_⟩
     have:=YdQ (ds:=.i .i64 (mck (keq o) n k' l):: .l (mapC o t V) (mpt (keq o) n k' d l)::tags) (e':=.v (.int .i64 (n+1)):: .rd (mapC o t V).width (el++[.v (.int .i64 n):: .v (keyV o k')::as])::at') hr ho hp (by rw[hlen];exact hy) (by simp) (by simp)
      (by
       simp only[mck,g1]
       refine CT.cons (.i _ _) (CT.cons (Ybn ?_) htag)
       rw[g3]
       exact YbI hrow (Rows.cons (Yiy n k' hcc) (Rows.none _)))
     trivial
    ·refine⟨.u,_,by simp only[xF,hyf,hmo,hb,cond_true,hcell,g2];rfl,hK _ _ _ _ e2 ?_⟩
     have:=YdQ (ds:=.i .i64 (mck (keq o) n k' l):: .l (mapC o t V) (mpt (keq o) n k' d l)::tags) (e':=.v (.int .i64 n):: .rd (mapC o t V).width (el.modify (0+p) (putE (.v (keyV o k')) as))::at') hr ho hp (by rw[hlen];exact hy) (by simp) (by simp)
      (by
       simp only[mck,g1]
       refine CT.cons (.i _ _) (CT.cons (Ybn ?_) htag)
       simp_all)
     trivial
   trivial
  trivial
 ·rename_i k' hvm hk'
  have hak:=Yb5 hk' hk
  subst hak
  split at h
  ·rename_i f hf0
   obtain⟨e1,e2⟩:=Yaa h
   obtain⟨b,lm,hs,e2⟩:=Yog e2
   split at e2
   ·rename_i hh
    exact YiC hf0 e1 hs (.inl hh) e2 hm hv hr hK
   ·rename_i hh
    obtain⟨e3,e4⟩:=Yah e2
    exact YiC hf0 e1 hs (.inr (by rw[hh,e3])) e4 hm hv hr hK
  ·cases h
 ·cases h
theorem Yom{o:Option IntKind}{t:Ty}{V:Cs}{m k:TV}{am ak:AV}{K:TV->YtI->Option β}(h:Ywo o t V m k X K=some r)(hm:TR X pl m am)(hk:TR X pl k ak)(hr:HRel Fr H0 X pl H)
  {KA:AV->List Upd->Prop} (hK: ∀v X' va us,K v X'=some r->Nxt Fr H0 X pl H v X' va us->KA va us):
  ∃w us,xF (.mdel (kstr o) (mapC o t V).width) [am,ak] (hf H) H.length=some (w,us)/\KA w us:=by
 unfold Ywo at h
 split at h
 ·rename_i a n l tags k' hvm hk'
  obtain⟨y,el,at',R,rfl,rfl,hp,ho,hl,hy,hmo,hrow,htag⟩:=YdO hvm hm hr
  have hak:=Yb5 hk' hk
  subst hak
  have hyf:hf H y=some (some ⟨tags.length+2,[.v (.int .i64 n)::R::at']⟩):=hy
  rcases Yv3 k' el l 0 hrow with⟨g1,g2,_,g3⟩| ⟨p,rr,v0,g1,g2,g3,_,g4⟩
  ·refine⟨.u,_,by simp only[xF,hyf,hmo,YbK,cond_true,g2];rfl,hK _ _ _ _ h ?_⟩
   have:=YdQ (ds:=.i .i64 n:: .l (mapC o t V) (mdl (keq o) k' l)::tags) (e':=.v (.int .i64 n):: .rd (mapC o t V).width el::at') hr ho hp (by exact hy) (by simp) (by simp)
    (by rw[g3];exact CT.cons (.i _ _) (CT.cons (Ybn hrow) htag))
   trivial
  ·refine⟨.u,_,by simp only[xF,hyf,hmo,YbK,cond_true,g2];rfl,hK _ _ _ _ h ?_⟩
   have:=YdQ (ds:=.i .i64 n:: .l (mapC o t V) (mdl (keq o) k' l)::tags) (e':=.v (.int .i64 n):: .rd (mapC o t V).width (el.eraseIdx (0+p))::at') hr ho hp (by exact hy) (by simp) (by simp)
    (by rw[Yxx];exact CT.cons (.i _ _) (CT.cons (Ybn g4) htag))
   trivial
 ·rename_i k' hvm hk'
  have hak:=Yb5 hk' hk
  subst hak
  split at h
  ·rename_i f hf0
   split at h
   ·rename_i hh
    obtain⟨e1,e2⟩:=Yaa h
    exact Yoh hf0 hh e1 e2 hm hr hK
   ·cases h
  ·cases h
 ·cases h
theorem Yon(o:Option IntKind)(t:Ty)(V:Cs)(ag:Bool)(hr:HRel Fr H0 X pl H):
  Nxt Fr H0 X pl H (.np X.length) (X++[some (.st (.i .i64 0:: .l (mapC o t V) []::List.replicate (knd ag) (.b false)))]) (.np H.length) [.push (some ⟨knd ag+2,[.v (.int .i64 0):: .rd (mapC o t V).width []::List.replicate (knd ag) (.v (.bool false))]⟩)]:=by
 obtain⟨k1,k2⟩:=Yas hr (.st (.i .i64 0:: .l (mapC o t V) []::List.replicate (knd ag) (.b false))) ⟨knd ag+2,[.v (.int .i64 0):: .rd (mapC o t V).width []::List.replicate (knd ag) (.v (.bool false))]⟩
  (fun _=>⟨H.length,.v (.int .i64 0):: .rd (mapC o t V).width []::List.replicate (knd ag) (.v (.bool false)),by unfold plS;simp,by simp,by simp,CT.cons (.i _ _) (CT.cons (Ybn (Rows.none _)) ⟨by simp,fun j c a h1 h2=>by
   rw[Yxp]at h1 h2
   split at h1
   ·rename_i hj
    rw[if_pos hj]at h2
    injection h1 with h1;injection h2 with h2;subst h1;subst h2;exact .b _
   trivial⟩)⟩)
 exact⟨_,.np X.length H.length _ (Yal X _) (by unfold plS;simp),⟨k1,k2⟩,.inr ⟨by simp,by unfold plS;simp⟩⟩
theorem Yoo{a y:Nat}{n:Int}{c:Cs}{l:List c.den}{tags:List TV}(hr:HRel Fr H0 X pl H)(ho:vget X a=some (.st (.i .i64 n:: .l c l::tags)))(hp:pl (.m a)=some y)(hl:tags.length=1\/tags.length=2):
  ∃va us,xF .mrng [.np y] (hf H) H.length=some (va,us)/\Nxt Fr H0 X pl H (.np X.length) (X++[some (.st [.np a,.i .i64 n,.i .i64 n,.l I64 [],.b false])]) va us:=by
 obtain⟨el,at',R,hy,hmo,hrow,htag⟩:=YdN hr ho hp hl
 have hyf:hf H y=some (some ⟨tags.length+2,[.v (.int .i64 n)::R::at']⟩):=hy
 refine⟨.np H.length,_,by simp only[xF,hyf,hmo];rfl,?_⟩
 obtain⟨k1,k2⟩:=Yas hr (.st [.np a,.i .i64 n,.i .i64 n,.l I64 [],.b false]) ⟨5,[[.np y,.v (.int .i64 n),.v (.int .i64 n),.rd 1 [],.v (.bool false)]]⟩
  (fun hx=>⟨H.length,[.np y,.v (.int .i64 n),.v (.int .i64 n),.rd 1 [],.v (.bool false)],by unfold plS;simp,by simp,by simp,CT.cons ((TR.np a y _ ho hp).ext hx) (CT.cons (.i _ _) (CT.cons (.i _ _) (CT.cons (show TR _ _ (.l I64 []) (.rd 1 [])from Ybn (c:=I64) (Rows.none _)) (CT.cons (.b _) CT.nil))))⟩)
 exact⟨_,.np X.length H.length _ (Yal X _) (by unfold plS;simp),⟨k1,k2⟩,.inr ⟨by simp,by unfold plS;simp⟩⟩
theorem Yop{o:Option IntKind}{t:Ty}{V:Cs}{ag:Bool}{it:TV}{ai:AV}{K:TV->YtI->Option β}(h:Ywp o t V ag it X K=some r)(hi:TR X pl it ai)(hr:HRel Fr H0 X pl H)
  {KA:AV->List Upd->Prop} (hK: ∀v va,K v X=some r->TR X pl v va->KA va []):
  ∃w us,xF .ment [ai] (hf H) H.length=some (w,us)/\KA w us:=by
 unfold Ywp at h
 split at h
 ·rename_i i
  split at h
  ·rename_i a s tm c seen tg hoi
   split at h
   ·rename_i a' n l tags seen' hvm hs
    obtain⟨ec,es⟩:=Yaz hs
    subst ec;subst es
    obtain⟨e1,e2⟩:=Yaa h
    simp at e1
    obtain⟨e1,e3⟩:=e1
    obtain⟨rfl,e4⟩:=Yah e2
    obtain⟨yi,rfl,hpi⟩:=YaB hoi hi
    obtain⟨e,h1,_,h3⟩:=YdL hr hoi hpi
    obtain⟨a0,r1,rfl,q0,h3⟩:=h3.inv
    obtain⟨a1,r2,rfl,q1,h3⟩:=h3.inv
    obtain⟨a2,r3,rfl,q2,h3⟩:=h3.inv
    obtain⟨a3,r4,rfl,q3,h3⟩:=h3.inv
    obtain⟨a4,r5,rfl,q4,h3⟩:=h3.inv
    have:r5=[]:=YwZ.1 h3.1.symm
    subst this
    obtain⟨y,el,at',R,e5,rfl,hp,ho,hl,hy,hmo,hrow,htag⟩:=YdO hvm q0 hr
    cases q1;cases q2
    obtain⟨bl,g1,g2⟩:=YdM q3
    split at e4
    ·rename_i b hb
     split at e4
     ·rename_i en hen
      obtain⟨bb,rr,f1,f2⟩:=Ywd b el l hrow en hen
      obtain⟨yv,f3,f4⟩:=Yfo (X:=X) (pl:=pl) e3 f2
      have hif:hf H yi=some (some ⟨5,[[.np y,.v (.int .i64 s),.v (.int .i64 tm),a3,a4]]⟩):=h1
      have hyf:hf H y=some (some ⟨tags.length+2,[.v (.int .i64 tm)::R::at']⟩):=hy
      have hio:YuG ⟨5,[[.np y,.v (.int .i64 s),.v (.int .i64 tm),a3,a4]]⟩=some (y,s,tm,bl):=by
       unfold YuG;simp_all
      have hlast:bl.getLast?=some [.v (.int .i64 b)]:=by
       rw[List.getLast?_eq_getElem?]at hb⊢
       have hlen:bl.length=seen.length:=g2.1
       rw[hlen]
       obtain⟨e',he'⟩:=Yai (l:=bl) (l':=seen) hlen hb
       rw[he']
       have hcc:=g2.2 _ e' b he' hb
       have hl1:=hcc.1
       match e',hl1 with
       | [z],_=>
         have:=hcc.2 0 z _ rfl rfl
         rw[show z= .v (.int .i64 b)from YaF this]
      refine⟨_,[],by simp only[xF,hif,hio,hyf,hlast,hmo,decide_true,cond_true,f1,show tags.length+2-2=knd ag by omega,f3];rfl,hK _ _ e4 ?_⟩
      refine .tp _ _ rfl (fun j c a h1 h2=> ?_)
      match j,h1,h2 with
      |0,h1,h2=>
       simp at h1 h2;subst h1;subst h2
       cases o with
       |none=>exact .s _
       |some q=>exact .i _ _
      |1,h1,h2=>simp_all
      |j+2,h1,h2=>trivial
     trivial
    trivial
   ·rename_i seen' hvm hs
    obtain⟨ec,es⟩:=Yaz hs
    subst ec;subst es
    obtain⟨yi,rfl,hpi⟩:=YaB hoi hi
    obtain⟨e,h1,_,h3⟩:=YdL hr hoi hpi
    obtain⟨a0,r1,rfl,q0,h3⟩:=h3.inv
    obtain⟨a1,r2,rfl,q1,h3⟩:=h3.inv
    obtain⟨a2,r3,rfl,q2,h3⟩:=h3.inv
    obtain⟨a3,r4,rfl,q3,h3⟩:=h3.inv
    obtain⟨a4,r5,rfl,q4,h3⟩:=h3.inv
    have:r5=[]:=YwZ.1 h3.1.symm
    subst this
    split at h
    ·rename_i f hf0
     split at h
     ·rename_i hh
      obtain⟨e5,e4⟩:=Yah h
      obtain⟨y,el,e6,rfl,hp,ho,hy,h0,h6,hrow,hmo⟩:=YdP hf0 q0 hr
      cases q1;cases q2
      obtain⟨bl,g1,g2⟩:=YdM q3
      split at e4
      ·rename_i b hb
       split at e4
       ·rename_i en hen
        obtain⟨q,x,rr,f0,f1,f2,f3,f4⟩:=YiD b el f.l hrow en hen
        rw[f0]at e4
        have hif:hf H yi=some (some ⟨5,[[.np y,.v (.int .i64 s),.v (.int .i64 tm),a3,a4]]⟩):=h1
        have hyf:hf H y=some (some ⟨3,[[.v (.int .i64 f.n),.rd 3 el,.v (.bool false)]]⟩):=hy
        have hio:YuG ⟨5,[[.np y,.v (.int .i64 s),.v (.int .i64 tm),a3,a4]]⟩=some (y,s,tm,bl):=by
         unfold YuG;simp_all
        have hlast:bl.getLast?=some [.v (.int .i64 b)]:=by
         rw[List.getLast?_eq_getElem?]at hb⊢
         have hlen:bl.length=seen.length:=g2.1
         rw[hlen]
         obtain⟨e',he'⟩:=Yai (l:=bl) (l':=seen) hlen hb
         rw[he']
         have hcc:=g2.2 _ e' b he' hb
         have hl1:=hcc.1
         match e',hl1 with
         | [z],_=>
           have:=hcc.2 0 z _ rfl rfl
           rw[show z= .v (.int .i64 b)from YaF this]
        refine⟨.tup [.v (keyV o x.2.1),rr],[],by simp only[xF,hif,hio,hyf,hlast,hmo,decide_eq_true e5,cond_true,f4,mval],hK _ _ e4 ?_⟩
        refine .tp _ _ rfl (fun j c a h1 h2=> ?_)
        match j,h1,h2 with
        |0,h1,h2=>
         simp at h1 h2;subst h1;subst h2;subst f3
         cases o with
         |none=>exact .s _
         |some q=>exact .i _ _
        |1,h1,h2=>
         simp at h1 h2;subst h1;subst h2
         exact YiB hr ho hh h6 f1 f2
        |j+2,h1,h2=>simp at h1
       ·cases e4
      ·cases e4
     ·cases h
    ·cases h
   ·cases h
  ·cases h
 ·cases h
theorem Yoq{a:Nat}{c c':Cs}{l:List c'.den}{m0:List c.den}{m:List c'.den}{x:TV}{ad ax:AV}(hr:HRel Fr H0 X pl H)(ho:vget X a=some (.sq c' l))(hd:TR X pl (.ref a) ad)(hs:srcV c x=some m0)(hx:TR X pl x ax)(hm:asL c c' m0=some m)(h0:0<c.width):
  ∃va us,xF (.cpy c.width) [ad,ax] (hf H) H.length=some (va,us)/\Nxt Fr H0 X pl H (.i .i64 ((min m.length l.length:Nat):Int)) (vset X a (some (.sq c' (m.take (min m.length l.length)++l.drop (min m.length l.length))))) va us:=by
 obtain⟨ec,em⟩:=Yaz hm
 subst ec;subst em
 obtain⟨y,n,rfl,hp,hn⟩:=Yan ho hd
 injection hn with hn;subst hn
 obtain⟨y',el,h1,h2,h3,h4⟩:=hr.obj a _ ho
 rw[hp]at h1;injection h1 with h1;subst h1
 obtain⟨sl,g1,g2,g3⟩:=YcS hs hx
 have hyf:hf H y=some (some ⟨c.width,el⟩):=h2
 have hb:((Yux c.width ax&& (Yxr 0 0&&Yxr l.length el.length))&& (Yxr c.width c.width&& ((sl.all fun e=>Yxr e.length c.width)&&Yxu 0 c.width)))=true:=by
  rw[g2,h4.1,Nat.beq_refl,Nat.beq_refl,YcQ (YbJ g3)]
  simp_all
 refine⟨.v (.int .i64 ((min sl.length l.length:Nat):Int)),[.set y (some ⟨c.width,sl.take (min sl.length l.length)++el.drop (min sl.length l.length)⟩)],by simp only[xF,hyf,g1,hb,cond_true],?_⟩
 have hlen:sl.length=m0.length:=g3.1
 refine⟨pl,by rw[hlen];exact .i _ _,?_,.inl (Yac _ _ _)⟩
 refine Yb2 hr ho hp _ (by simp[elN];omega) (by simp[lenO];omega) (fun _ _ _ _ _ e=>by cases e) (fun _ _ _ _ _ e=>by cases e) (fun hx=>⟨y,_,hp,Yw4 (YwP.1 h2).1,h3,?_⟩)
 rw[hlen]
 refine YbI ⟨by simp_all,fun i e v k1 k2=> ?_⟩ ⟨by simp_all,fun i e v k1 k2=> ?_⟩
 ·rw[Yw8]at k1 k2
  split at k1
  ·rename_i hi
   rw[if_pos hi]at k2
   exact g3.2 i e v k1 k2
  trivial
 ·rw[Yxh]at k1 k2
  exact h4.2 _ e v k1 k2
end
end Go.Abs
namespace Go.Abs
open Go Go.RowKit
section
variable{Fr:Nat->Prop}{H0:Heap}{X:YtI}{pl:Pl}{H:Heap}{β:Type}{r:β}{env:VEnv}{ae:Env}
theorem YiE(he:ERel X pl env ae){K:List AV->Prop}: ∀{ps:List (Nat×Nat×VOpd)} {l l':List TV} {as:List AV},YvX X l env ps=some l'->CT X pl l as->(∀as',CT X pl l' as'->K as')->Yvb as ae (er3 ps) K
 | [],l,l',as,h,hc,hk=>by injection h with h;subst h;exact hk _ hc
 | (off,n,x)::ps,l,l',as,h,hc,hk=>by
   simp only[YvX]at h
   split at h
   ·rename_i cs hcs
    obtain⟨e1,e2⟩:=Yaa h
    refine YbH hcs (Yat he x) (fun bs hbs=>⟨by rw[<-hbs.1];simp_all,by rw[<-hc.1];simp_all,?_⟩)
    exact YiE he e2 (hc.spl hbs off) hk
   trivial
theorem YdR(he:ERel X pl env ae){es:Nat}{K:List (List AV)->Prop}: ∀{ps:List (Nat×VOpd)} {l l':List (List TV)} {as:List (List AV)},Yvg X es l env ps=some l'->CE X pl l as->(∀e∈l,e.length=es)->
  (∀as',CE X pl l' as'->(∀e∈l',e.length=es)->K as')->Yup es as ae (er2 ps) K
 | [],l,l',as,h,hc,hz,hk=>by injection h with h;subst h;exact hk _ hc hz
 | (i,x)::ps,l,l',as,h,hc,hz,hk=>by
   simp only[Yvg]at h
   split at h
   ·rename_i cs hcs
    obtain⟨e1,e2⟩:=Yaa h
    simp only[YxL]at e1
    have hcl:=Yxt e1.1
    have hi:i<l.length:=by simp_all
    refine YbH hcs (Yat he x) (fun bs hbs=>⟨by rw[<-hbs.1];omega,by rw[<-hc.1];exact hi,?_⟩)
    refine YdR he e2 ⟨by simp[hc.1],fun k e f h1 h2=> ?_⟩ (fun e he'=> ?_) hk
    ·by_cases hk:k=i
     ·grind
     ·rw[YwV (Ne.symm hk)]at h1 h2
      exact hc.2 k e f h1 h2
    grind
   trivial
theorem YcT: ∀(c:Cs),CT X pl c.zcells (c.zeros.map zc)/\c.zcells.length=c.width/\CC (c.zeros.map zc) (c.enc c.dft)
 | .nil=>⟨.nil,rfl,rfl,fun j x x' h=>by trivial⟩
 | .cons t r=>by
   obtain⟨h1,h2,h3⟩:=YcT r
   have key: ∀{t:Ty} {z:TV},TR X pl z (zc t.zero)->Coe (zc t.zero) (t.enc t.dft)->(Cs.zcells (.cons t r)=z::r.zcells)->CT X pl (Cs.zcells (.cons t r)) ((Cs.zeros (.cons t r)).map zc)/\ (Cs.zcells (.cons t r)).length=(Cs.cons t r).width/\CC ((Cs.zeros (.cons t r)).map zc) ((Cs.cons t r).enc (Cs.cons t r).dft):=by
    intro t z g1 g2 g3
    rw[g3]
    refine⟨.cons g1 h1,by simp[Cs.width,h2],?_⟩
    simp only[Cs.zeros,YwS,Cs.enc,Cs.dft,Yba,YaS]
    refine⟨by simp[h3.1],fun j x x' k1 k2=> ?_⟩
    cases j with
    |zero=>simp_all
    |succ j=>exact h3.2 j x x' (by simp_all) k2
   cases t with
   |i k=>exact key (.i _ _) (.refl _) rfl
   |b=>exact key (.b _) (.refl _) rfl
   |s=>exact key (.s _) (.refl _) rfl
   |l c=>exact key (.e _) (.empRd _) rfl
theorem YcU{es:Nat}{L:List (List AV)}{c:Cs}{l:List c.den}(h:Rows L c l):Coe (.rd es L) (.rd es (l.map c.enc)):=by
 refine .rd es _ _ (by simp[h.1]) (fun i e e' h1 h2=> ?_) (fun i e e' j x x' h1 h2 h3 h4=> ?_)
 all_goals
  rw[YwR,YxE]at h2
  obtain⟨v,h2,rfl⟩:=h2
 ·exact(h.2 i e v h1 h2).1
 ·exact(h.2 i e v h1 h2).2 j x x' h3 h4
theorem YaI(he:ERel X pl env ae){o:Option VOpd}{d:Int}{dA:Nat}(hd:d=(dA:Nat)){n:Int}(h:vsb env o d=some n)(h0:0<=n){K:Nat->Prop}(hk:K n.toNat):slB ae (o.map VOpd.er) dA K:=by
 cases o with
 |none=>
  injection h with h;subst h;subst hd
  trivial
 |some x=>
  simp only[vsb]at h
  split at h
  ·rename_i k m hx
   injection h with h;subst h
   have:=Yat he x
   rw[hx]at this
   simp only[YxF,slB,opK]
   generalize opd ae x.er=av at this⊢
   cases this
   exact⟨_,_,rfl,h0,hk⟩
  trivial
theorem YaN(he:ERel X pl env ae)(xs:List VOpd):CT X pl (xs.map (vo env)) ((xs.map VOpd.er).map (opd ae)):=by
 induction xs with
 |nil=>exact .nil
 |cons x xs ih=>exact .cons (Yat he x) ih
theorem YiF{g:Bool}{n:Nat}{cs:List TV}{as:List AV}{K:TV->YtI->Option β}(h:(match YuP g n cs with|some a=>K a X|none=>none)=some r)(hc:CT X pl cs as){KA:AV->Prop}(hk: ∀v va,K v X=some r->TR X pl v va->KA va):Yul g n as KA:=by
 split at h
 ·rename_i v hv;exact Yic hv hc (fun a ha=>hk v a h ha)
 trivial
theorem Yor{op:VOp}{K:TV->YtI->Option β}(h:vG op env X K=some r)(he:ERel X pl env ae)(hr:HRel Fr H0 X pl H){KA:AV->List Upd->Prop}
  (hk: ∀v X' va us,K v X'=some r->Nxt Fr H0 X pl H v X' va us->KA va us):evG op.aop ae (hf H) H.length KA:=by
 have same: ∀v va,K v X=some r->TR X pl v va->KA va []:=fun v va h1 h2=>hk _ _ _ _ h1 (.same hr h2)
 have vok:=fun x=>Yat he x
 have hn:=fun o=>Yal X o
 cases op<;>simp only[vG]at h<;>simp only[VOp.aop,evG,opK]
 case mm mx xs=>
  have hm:=YaN he xs
  generalize hxs:xs.map (vo env)=l at h hm
  generalize(xs.map VOpd.er).map (opd ae)=as at hm
  split at h
  ·rename_i k m l'
   obtain⟨a,as',rfl,h1,h2⟩:=hm.inv
   cases h1
   split at h
   ·rename_i v hv
    obtain⟨a,h3,h4⟩:=Yig hv h2
    exact⟨a,by trivial,same _ _ h h4⟩
   trivial
  trivial
 case emz x lo hi mx=>
  have h1:=vok x;have h2:=vok lo;have h3:=vok hi;have h4:=vok mx
  simp only[YwS,YwX]
  generalize opd ae x.er=ax at h1⊢
  generalize opd ae lo.er=al at h2⊢
  generalize opd ae hi.er=ah at h3⊢
  generalize opd ae mx.er=am at h4⊢
  split at h
  ·rename_i e2 e3 e4
   rw[e2]at h2;rw[e3]at h3;rw[e4]at h4
   cases h2;cases h3;cases h4
   obtain⟨⟨rfl,rfl,rfl⟩,g2⟩:=Yah h
   have hz:Yu3 (.v (.int ‹_› 0))=true:=rfl
   refine⟨.emp,?_,?_⟩
   ·simp only[pvF,Yu3,decide_true,and_self,if_true]
    split at g2
    ·rename_i e1;rw[e1]at h1
     cases h1 with
     |l _ _ _ hc=>rcases YaZ hc with⟨rfl,_⟩| ⟨l0,rfl,_⟩<;>rfl
    ·rename_i e1;rw[e1]at h1;cases h1;rfl
    trivial
   ·split at g2
    ·exact same _ _ g2 (.e _)
    ·exact same _ _ g2 (.e _)
    trivial
  trivial
 case mv x=>grind
 case pick c a b=>
  have h1:=vok c
  generalize opd ae c.er=ac at h1⊢
  split at h
  ·rename_i t e1
   rw[e1]at h1;cases h1
   refine⟨t,rfl,fun ht=> ?_,fun ht=> ?_⟩
   ·grind
   grind
  trivial
 case box x=>
  split at h
  ·rename_i c cs hcs
   obtain⟨e1,e2⟩:=Yaa h
   have hl:cs.length+1<=1000:=by simp_all
   refine YbH hcs (vok x) (fun as has=>⟨by rw[<-has.1];simp,by rw[<-has.1];simp[maxEl];omega,?_⟩)
   obtain⟨k1,k2⟩:=Yas hr (.st (c::cs)) ⟨as.length,[as]⟩ (fun hx=>⟨H.length,as,by unfold plS;simp,by rw[has.1];simp,by simp,has.ext hx⟩)
   exact hk _ _ _ _ e2 ⟨_,.ptr X.length 0 0 H.length _ (hn _) (by simp[elN]) (by unfold plS;simp),⟨k1,k2⟩,.inr ⟨by simp,by unfold plS;simp⟩⟩
  trivial
 case alloc z=>
  obtain⟨e1,e2⟩:=Yaa h
  simp only[YxL,Yw1]at e1
  have hz:(z.map K1.val).map zc=z.map K1.av:=by
   rw[List.map_map];exact List.map_congr_left (fun k hk=>Yh9 (e1.1 k hk))
  have hm:=CT.map1 (X:=X) (pl:=pl) z
  obtain⟨k1,k2⟩:=Yas hr (.st (z.map K1.tv)) ⟨(z.map K1.val).length,[(z.map K1.val).map zc]⟩ (fun hx=>⟨H.length,z.map K1.av,by unfold plS;simp,by simp_all,by simp_all,hm.ext hx⟩)
  exact hk _ _ _ _ e2 ⟨_,.ptr X.length 0 0 H.length _ (hn _) (by simp[elN]) (by unfold plS;simp),⟨k1,k2⟩,.inr ⟨by simp,by unfold plS;simp⟩⟩
 case build z ps=>
  obtain⟨e1,e2⟩:=Yaa h
  simp only[Yw1]at e1
  have hz:(z.map K1.val).map zc=z.map K1.av:=by
   rw[List.map_map];exact List.map_congr_left (fun k hk=>Yh9 (e1 k hk))
  split at e2
  ·rename_i cs hcs
   rw[hz]
   exact YiE he hcs (CT.map1 z) (fun as has=>same _ _ e2 (.ag _ _ has.1 has.2))
  trivial
 case bsl c n ps=>
  obtain⟨e1,e2⟩:=Yaa h
  obtain⟨z1,z2,z3⟩:=YcT (X:=X) (pl:=pl) c
  have hce:CE X pl (List.replicate n c.zcells) (List.replicate n (c.zeros.map zc)):=⟨by simp,fun i e f h1 h2=>by
   grind⟩
  have hzl: ∀e∈List.replicate n c.zcells,e.length=c.width:=fun e he=>by simp_all
  split at e2
  ·rename_i hf
   refine YdR he hf hce hzl (fun as has _=> ?_)
   have hl:=has.1
   cases as with
   |nil=>exact same _ _ e2 (.e _)
   |cons _ _=>trivial
  ·rename_i e els hf
   refine YdR he hf hce hzl (fun as has hz=> ?_)
   have hl:=has.1
   cases as with
   |nil=>trivial
   |cons f fs=>
    split at e2
    ·rename_i l hp
     exact same _ _ e2 (.l c l _ (YcU (YcN hp has)))
    ·refine same _ _ e2 (.lt c.width _ _ hl (by simp) hz (fun f' hf'=> ?_) (fun i j e f c a h1 h2 h3 h4=>(has.2 i e f h1 h2).2 j c a h3 h4))
     obtain⟨i,hi⟩:=YwW.1 hf'
     have hil:=(YwP.1 hi).1
     have hil':i< (e::els).length:=by omega
     have:=has.2 i _ _ (YwO hil') hi
     rw[<-this.1];grind
  trivial
 case bslT c n ps=>
  obtain⟨e1,e2⟩:=Yaa h
  obtain⟨z1,z2,z3⟩:=YcT (X:=X) (pl:=pl) c
  have hce:CE X pl (List.replicate n c.zcells) (List.replicate n (c.zeros.map zc)):=⟨by simp,fun i e f h1 h2=>by
   grind⟩
  have hzl: ∀e∈List.replicate n c.zcells,e.length=c.width:=fun e he=>by simp_all
  split at e2
  ·rename_i e els hf
   refine YdR he hf hce hzl (fun as has hz=> ?_)
   have hl:=has.1
   cases as with
   |nil=>trivial
   |cons f fs=>
    refine same _ _ e2 (.lt c.width _ _ hl (by simp) hz (fun f' hf'=> ?_) (fun i j e f c a h1 h2 h3 h4=>(has.2 i e f h1 h2).2 j c a h3 h4))
    obtain⟨i,hi⟩:=YwW.1 hf'
    have hil:=(YwP.1 hi).1
    have hil':i< (e::els).length:=by omega
    have:=has.2 i _ _ (YwO hil') hi
    rw[<-this.1];grind
  trivial
 case load g n x=>exact Yil h (vok x) hr (fun v va h1 h2=>same v va h1 h2)
 case loadR g n x=>
  have h1:=vok x
  generalize opd ae x.er=ax at h1⊢
  split at h
  ·rename_i cs e1
   rw[e1]at h1
   cases h1 with
   |rp _ as hl hc=>exact YiF h ⟨hl,hc⟩ (fun v va h1 h2=>same v va h1 h2)
  trivial
 case store n x y=>exact YnU h (vok x) (vok y) hr hk
 case nilc x=>
  have h1:=vok x
  generalize opd ae x.er=ax at h1⊢
  split at h
  ·rename_i e1;rw[e1]at h1;have h2:=h1;cases h2;grind
  ·rename_i a i j e1;rw[e1]at h1
   obtain⟨g1,g2⟩:=Yaa h
   obtain⟨o,ho⟩:=YxH.1 g1
   obtain⟨x',rfl,hp,hi⟩:=Ybm ho h1
   grind
  ·rename_i a ver i k j e1;rw[e1]at h1
   split at h
   ·rename_i c ver' l ho
    obtain⟨g1,g2⟩:=Yaa h
    have:=Yxt g1;subst this
    obtain⟨y,rfl,_⟩:=YdI ho h1
    grind
   trivial
  ·rename_i e1;rw[e1]at h1;have h2:=h1;cases h2;grind
  trivial
 case bin op x y=>exact YnI h (vok x) (vok y) (fun w z h1 h2=>same _ _ h1 h2)
 case beq ng x y=>
  have h1:=vok x;have h2:=vok y
  generalize opd ae x.er=ax at h1⊢
  generalize opd ae y.er=ay at h2⊢
  split at h
  ·rename_i e1 e2
   rw[e1]at h1;rw[e2]at h2;cases h1;cases h2
   refine⟨_,rfl,_,rfl,?_⟩
   cases ng<;>exact same _ _ h (.b _)
  trivial
 case eqa ng ks x y=>
  have h1:=vok x;have h2:=vok y
  generalize opd ae x.er=ax at h1⊢
  generalize opd ae y.er=ay at h2⊢
  split at h
  ·rename_i cs ds e1 e2
   rw[e1]at h1;rw[e2]at h2
   cases h1 with
   |ag _ as hl hc=>
    cases h2 with
    |ag _ bs hl' hc'=>
     split at h
     ·rename_i b hb
      refine⟨as,bs,b,rfl,rfl,Yif hb ⟨hl,hc⟩ ⟨hl',hc'⟩,?_⟩
      cases ng<;>exact same _ _ h (.b _)
     trivial
  trivial
 case not x=>
  have h1:=vok x
  generalize opd ae x.er=ax at h1⊢
  split at h
  ·rename_i e1;rw[e1]at h1;cases h1;exact⟨_,rfl,same _ _ h (.b _)⟩
  trivial
 case neg x=>
  have h1:=vok x
  generalize opd ae x.er=ax at h1⊢
  split at h
  ·rename_i e1;rw[e1]at h1;cases h1;exact⟨_,_,rfl,same _ _ h (.i _ _)⟩
  trivial
 case conv k x=>
  have h1:=vok x
  generalize opd ae x.er=ax at h1⊢
  split at h
  ·rename_i e1;rw[e1]at h1;cases h1;exact⟨_,_,rfl,same _ _ h (.i _ _)⟩
  trivial
 case cvs x=>
  have h1:=vok x
  generalize opd ae x.er=ax at h1⊢
  split at h
  ·rename_i e1;rw[e1]at h1;cases h1;exact⟨_,rfl,same _ _ h (.s _)⟩
  trivial
 case fad off x=>
  have h1:=vok x
  generalize opd ae x.er=ax at h1⊢
  split at h
  ·rename_i e1;rw[e1]at h1
   cases h1 with
   |rp cs as hl hc=>exact same _ _ h (.rp _ _ (CT.drop ⟨hl,hc⟩ off).1 (CT.drop ⟨hl,hc⟩ off).2)
  ·rename_i a i j e1;rw[e1]at h1
   obtain⟨g1,g2⟩:=Yaa h
   obtain⟨o,ho⟩:=YxH.1 g1
   obtain⟨x',rfl,hp,hi⟩:=Ybm ho h1
   exact same _ _ g2 (.ptr a i _ x' o ho hi hp)
  ·rename_i a ver i k j e1;rw[e1]at h1
   split at h
   ·rename_i hd c ver' l ho
    obtain⟨g1,g2⟩:=Yaa h
    have:=Yxt g1;subst this
    obtain⟨y,rfl,hi,hkk,hp⟩:=YdI ho h1
    exact same _ _ g2 (.pti a ver i k _ y hd c l ho hi hkk hp)
   trivial
  trivial
 case fld g off n x=>
  have h1:=vok x
  generalize opd ae x.er=ax at h1⊢
  split at h
  ·rename_i e1;rw[e1]at h1
   cases h1 with
   |ag cs as hl hc=>
    obtain⟨g1,g2⟩:=Yaa h
    exact⟨as,rfl,by simp_all,YiF g2 (CT.drop ⟨hl,hc⟩ off) (fun v va h1 h2=>same v va h1 h2)⟩
  trivial
 case iad es x i=>exact YnV h (vok x) (vok i) hr (fun v va h1 h2=>same v va h1 h2)
 case iada=>cases h
 case idx x i=>
  have h1:=vok x;have h2:=vok i
  generalize opd ae x.er=ax at h1⊢
  generalize opd ae i.er=ai at h2⊢
  split at h
  ·rename_i s k n e1 e2
   rw[e1]at h1;rw[e2]at h2;cases h1;cases h2
   obtain⟨g1,g2⟩:=Yah h
   have hlt:n.toNat<s.size:=by omega
   refine⟨s,rfl,k,n,rfl,g1.1,s[n.toNat],getElem?_pos s n.toNat hlt,?_⟩
   have hb:YvB s n=((s[n.toNat]).toNat:Int):=by
    have hlt2:n.toNat<s.data.size:=hlt
    simp only[YvB,YxS,YxV hlt2,YxI];rfl
   rw[hb]at g2
   exact same _ _ g2 (.i _ _)
  trivial
 case slcS x lo hi=>
  have h1:=vok x
  generalize opd ae x.er=ax at h1⊢
  split at h
  ·rename_i s e1;rw[e1]at h1;cases h1
   split at h
   ·rename_i l u hl hu
    obtain⟨⟨g1,g2,g3⟩,g4⟩:=Yah h
    exact⟨s,rfl,YaI he rfl hl g1 (YaI he rfl hu (by omega) ⟨by omega,by omega,same _ _ g4 (.s _)⟩)⟩
   trivial
  trivial
 case slcR es x lo hi=>
  have h1:=vok x
  generalize opd ae x.er=ax at h1⊢
  split at h
  ·rename_i c v e1;rw[e1]at h1
   obtain⟨g1,g2⟩:=Yaa h
   split at g2
   ·rename_i l u hl hu
    obtain⟨⟨q1,q2,q3⟩,q4⟩:=Yah g2
    cases h1 with
    |l _ _ _ hc=>
     rcases YaZ hc with⟨rfl,hb⟩| ⟨l0,rfl,hl0,hcc⟩
     ·have hv:v=[]:=by simp_all
      subst hv
      simp only[List.length_nil]at q3 hu
      refine YaI he rfl hl q1 (YaI he rfl hu (by omega) ⟨by omega,by omega,same _ _ q4 ?_⟩)
      refine .l c _ _ ?_
      simp_all
     ·simp only[YwY]at hl0
      refine⟨Yxt g1,YaI he rfl hl q1 (YaI he (dA:=l0.length) (by rw[hl0]) hu (by omega) ⟨by omega,by omega,same _ _ q4 ?_⟩)⟩
      refine .l c _ _ (YcU ⟨by grind,fun i e w k1 k2=> ?_⟩)
      grind
   trivial
  ·rename_i c e1;rw[e1]at h1;cases h1
   split at h
   ·rename_i l u hl hu
    obtain⟨⟨rfl,rfl⟩,q4⟩:=Yah h
    exact YaI he rfl hl (by omega) (YaI he rfl hu (by omega) ⟨rfl,rfl,same _ _ q4 (.e _)⟩)
   trivial
  ·rename_i a e1;rw[e1]at h1
   split at h
   ·rename_i c l ho
    obtain⟨x',n,rfl,hp,hnn⟩:=Yan ho h1
    have hnl:=hnn
    simp only[lenO]at hnl;injection hnl with hnl;subst hnl
    split at h
    ·rename_i lo' hl
     obtain⟨rfl,q4⟩:=Yah h
     exact YaI he rfl hl (by omega) ⟨rfl,Yxs _,same _ _ q4 (.ref a x' _ _ ho hnn hp)⟩
    ·rename_i lo' hi' hl
     split at h
     ·rename_i k u hu
      obtain⟨⟨rfl,q2,q3⟩,q4⟩:=Yah h
      have h2:=vok hi'
      rw[hu]at h2
      refine YaI he rfl hl (by omega) ?_
      simp only[YxF,slB,opK]
      generalize opd ae hi'.er=ah at h2⊢
      cases h2
      exact⟨k,u,rfl,q2,rfl,by omega,same _ _ q4 (.pre a x' u _ _ ho hnn hp q2 (by omega))⟩
     trivial
    trivial
   ·rename_i A nn c ver hole l ho
    obtain⟨x',n,rfl,hp,hnn⟩:=Yan ho h1
    have hnl:=hnn
    simp only[lenO]at hnl;injection hnl with hnl;subst hnl
    split at h
    ·rename_i lo' hi' hl
     split at h
     ·rename_i k u hu
      obtain⟨⟨rfl,q2,q3⟩,q4⟩:=Yah h
      have h2:=vok hi'
      rw[hu]at h2
      refine YaI he rfl hl (by omega) ?_
      simp only[YxF,slB,opK]
      generalize opd ae hi'.er=ah at h2⊢
      cases h2
      exact⟨k,u,rfl,q2,rfl,by omega,same _ _ q4 (.pre a x' u _ _ ho hnn hp q2 (by omega))⟩
     ·cases h
    ·cases h
   trivial
  ·rename_i a m e1;rw[e1]at h1
   split at h
   ·rename_i c l ho
    obtain⟨x',n,rfl,hp,hnn,h0,hm⟩:=Yb4 ho h1
    split at h
    ·rename_i lo' u hl hu
     obtain⟨⟨rfl,q2,q3⟩,q4⟩:=Yah h
     exact YaI he rfl hl (by omega) (YaI he (dA:=m.toNat) (by omega) hu q2 ⟨rfl,by omega,same _ _ q4 (.pre a x' u _ _ ho hnn hp q2 (by omega))⟩)
    trivial
   trivial
  trivial
 case ext x i=>
  have h1:=vok x
  generalize opd ae x.er=ax at h1⊢
  split at h
  ·rename_i cs e1;rw[e1]at h1
   cases h1 with
   |tp _ as hl hc=>
    grind
  trivial
 case len x=>
  have h1:=vok x
  generalize opd ae x.er=ax at h1⊢
  unfold vlen at h
  split at h
  ·rename_i c v e1;rw[e1]at h1
   cases h1 with
   |l _ _ _ hc=>
    rcases YaZ hc with⟨rfl,hb⟩| ⟨l0,rfl,hl0,_⟩
    ·have hv:v=[]:=by simp_all
     subst hv;exact same _ _ h (.i _ _)
    ·simp only[YwY]at hl0
     rw[<-hl0]at h;exact same _ _ h (.i _ _)
  ·rename_i e1;rw[e1]at h1;cases h1;exact same _ _ h (.i _ _)
  ·rename_i els e1;rw[e1]at h1
   cases h1 with
   |lt es _ as hl=>rw[hl]at h;exact same _ _ h (.i _ _)
  ·rename_i a e1;rw[e1]at h1
   split at h
   ·rename_i ho
    obtain⟨x',n,rfl,hp,hnn⟩:=Yan ho h1
    simp only[lenO]at hnn;injection hnn with hnn;subst hnn
    exact same _ _ h (.i _ _)
   ·rename_i ho
    obtain⟨x',n,rfl,hp,hnn⟩:=Yan ho h1
    simp only[lenO]at hnn;injection hnn with hnn;subst hnn
    exact same _ _ h (.i _ _)
   ·rename_i ho
    obtain⟨x',n,rfl,hp,hnn⟩:=Yan ho h1
    simp only[lenO]at hnn;injection hnn with hnn;subst hnn
    exact same _ _ h (.i _ _)
   trivial
  ·rename_i a m e1;rw[e1]at h1
   have hp: ∃x,ax= .ref x 0 m.toNat/\0<=m:=by
    cases h1 with
    |pre _ x _ o n _ _ _ h0 _=>exact⟨x,rfl,h0⟩
    |preD _ x _ _ _ h0=>exact⟨x,rfl,h0⟩
   obtain⟨x,rfl,h0⟩:=hp
   have:m=((m.toNat:Nat):Int):=by omega
   rw[this]at h
   exact same _ _ h (.i _ _)
  ·rename_i a ver i e1;rw[e1]at h1
   split at h
   ·rename_i hd c ver' l ho
    obtain⟨g1,g2⟩:=Yaa h
    have:=Yxt g1;subst this
    rcases YbG ho h1 with⟨y,rfl,hi,hp⟩| ⟨rfl,hp,h0⟩
    ·exact same _ _ g2 (.i _ _)
    ·rw[h0]at g2;exact same _ _ g2 (.i _ _)
   trivial
  trivial
 case lenS x=>
  have h1:=vok x
  generalize opd ae x.er=ax at h1⊢
  split at h
  ·rename_i e1;rw[e1]at h1;cases h1;exact⟨_,rfl,same _ _ h (.i _ _)⟩
  trivial
 case app c w s x=>exact YnZ h (vok s) (vok x) hr hk
 case mksl c w n cp=>
  have h1:=vok n;have h2:=vok cp
  generalize opd ae n.er=an at h1⊢
  generalize opd ae cp.er=ac at h2⊢
  split at h
  ·rename_i k n k' m e1 e2
   rw[e1]at h1;rw[e2]at h2;cases h1;cases h2
   obtain⟨⟨g1,g2,g3⟩,g4⟩:=Yah h
   refine⟨_,_,rfl,_,_,rfl,g1,g2,g3,?_⟩
   split at g4
   ·rename_i c'
    obtain⟨q1,q2⟩:=Yaa g4
    let z0:(sn c' (Hd.rw .nil false).A).den:=([]:List c'.den)
    have hz0:ow c' (Hd.rw .nil false).A z0=[]:=rfl
    have hlz:(List.replicate n.toNat z0).length=n.toNat:=List.length_replicate
    obtain⟨k1,k2⟩:=Yas hr (.fm (.rw .nil false) c' 0 none (List.replicate n.toNat z0)) ⟨1,List.replicate n.toNat [.emp]⟩ (fun hx=>⟨H.length,List.replicate n.toNat [.emp],by unfold plS;simp,by simp[Yb3,Cs.width],by simp_all,by rw[hlz];simp,fun i e v a1 a2=>by
      rw[Yxp]at a1 a2
      split at a1
      ·rename_i hi;rw[if_pos hi]at a2;injection a1 with a1;injection a2 with a2
       refine⟨[],.emp,a1.symm,⟨rfl,fun j x x' h1=>by simp at h1⟩,fun _=>.inr ⟨rfl,?_,by rw[<-a2];exact hz0,rfl⟩⟩
       unfold plS;rw[if_neg (fun e=>by cases e)];exact hr.dead (Yar (Yxs _))
      trivial⟩)
    exact hk _ _ _ _ q2 ⟨_,.ref X.length H.length _ _ (hn _) (congrArg some hlz) (by unfold plS;simp),⟨k1,k2⟩,.inr ⟨by simp,by unfold plS;simp⟩⟩
   ·obtain⟨q1,q2⟩:=Yaa g4
    obtain⟨z1,z2,z3⟩:=YcT (X:=X) (pl:=pl) c
    obtain⟨k1,k2⟩:=Yas hr (.sq c (List.replicate n.toNat c.dft)) ⟨c.width,List.replicate n.toNat (c.zeros.map zc)⟩ (fun hx=>⟨H.length,List.replicate n.toNat (c.zeros.map zc),by unfold plS;simp,by simp,by simp_all,by simp,fun i e v a1 a2=>by
      grind⟩)
    exact hk _ _ _ _ q2 ⟨_,.ref X.length H.length _ _ (hn _) (by simp[lenO]) (by unfold plS;simp),⟨k1,k2⟩,.inr ⟨by simp,by unfold plS;simp⟩⟩
   trivial
  trivial
 case mkf f caps=>exact same _ _ h (.clo f _ _ (YaN he caps).1 (YaN he caps).2)
 case call=>cases h
 case dyn=>cases h
 case dynP=>cases h
 case callN=>cases h
 case callF=>cases h
 case mvp x=>
  have h1:=vok x
  generalize opd ae x.er=ax at h1⊢
  split at h
  ·rename_i a e1
   rw[e1]at h1
   split at h
   ·rename_i c l ho
    obtain⟨y,n,rfl,hp,hn⟩:=Yan ho h1
    have hnl:=hn
    simp only[lenO]at hnl;injection hnl with hnl;subst hnl
    exact same _ _ h (.pre a y _ _ _ ho hn hp (by omega) (by simp))
   ·cases h
  ·cases h
 case mkmF o c=>
  obtain⟨e1,e2⟩:=Yaa h
  exact⟨_,_,rfl,hk _ _ _ _ e2 (Yoi o c (show 1<=c.width by simpa[Yxu]using e1) hr)⟩
 case lit c xs=>
  split at h
  ·rename_i e els hc
   obtain⟨e1,e2⟩:=Yaa h
   simp only[YxL,Nat.ble_eq]at e1
   split at e2
   ·rename_i l hp
    obtain⟨va,us,k1,k2⟩:=Yoa hc hp (YxC e1.1) e1.2 (YaN he xs) hr
    grind
   trivial
  trivial
 case appD c s x=>
  obtain⟨e1,e2⟩:=Yaa h
  exact Yn2 (YxC e1) e2 (vok s) (vok x) hr hk
 case apps s x=>
  have h2:=vok x
  split at h
  ·rename_i b e1
   rw[e1]at h2
   have:opd ae x.er= .v (.string b):=Yit h2
   simp only[YwS,YwX,this]
   exact Yn4 h (vok s) hr hk
  trivial
 case appb s x=>exact Yn6 h (vok s) (vok x) hr hk
 case appDb s x=>exact Yn7 h (vok s) (vok x) hr hk
 case litb xs=>
  split at h
  ·rename_i e els hc
   obtain⟨e1,e2⟩:=Yaa h
   simp only[Nat.ble_eq]at e1
   split at e2
   ·rename_i l hp
    obtain⟨e3,e4⟩:=Yaa e2
    obtain⟨va,us,k1,k2⟩:=Yn8 hc hp e3 e1 (YaN he xs) hr
    grind
   trivial
  trivial
 case bstr x=>exact Yn9 h (vok x) hr same
 case bld=>exact⟨_,_,rfl,hk _ _ _ _ h (Yob hr)⟩
 case isp ng x=>
  have h2:=vok x
  simp only[YwS,YwX]
  generalize opd ae x.er=ax at h2⊢
  split at h
  ·rename_i e1
   rw[e1]at h2;cases h2
   refine⟨.v (.bool !ng),by rfl,same _ _ h (.b _)⟩
  ·rename_i a p q e1
   rw[e1]at h2
   obtain⟨e2,e3⟩:=Yaa h
   cases h2 with
   |ptr _ _ _ y o h hi hp=>exact⟨.v (.bool ng),rfl,same _ _ e3 (.b _)⟩
   |ptrD _ _ _ _ h _=>simp_all
  trivial
 case isi ng x=>
  have h2:=vok x
  simp only[YwS,YwX]
  generalize opd ae x.er=ax at h2⊢
  split at h
  ·rename_i q e1
   rw[e1]at h2
   cases h2 with
   |eft=>exact⟨.v (.bool ng),by rfl,same _ _ (by cases ng<;>exact h) (.b _)⟩
   |eff=>exact⟨.v (.bool !ng),by rfl,same _ _ (by cases ng<;>exact h) (.b _)⟩
  trivial
 case sbyt x=>
  have h2:=vok x
  split at h
  ·rename_i b e1
   rw[e1]at h2
   have:opd ae x.er= .v (.string b):=Yit h2
   refine⟨.rd 1 (strA b),by simp only[YwS,YwX,this,pvF];rfl,same _ _ h (.l U8 (strL b) _ (rows_coe' (YaM b).rows))⟩
  trivial
 case add64 xs=>
  have h2:=YaN he xs
  split at h
  ·rename_i x y c e1
   obtain⟨e2,e3⟩:=Yah h
   rw[Yiu e1 h2]
   refine⟨.tup [.v (.int .u64 (YuA x y c).1),.v (.int .u64 (YuA x y c).2)],by simp only[pvF,if_pos e2],same _ _ e3 (.tp _ _ rfl (fun j c a h1 h2=> ?_))⟩
   match j,h1,h2 with
   |0,h1,h2=>simp at h1 h2;subst h1;subst h2;exact .i _ _
   |1,h1,h2=>simp at h1 h2;subst h1;subst h2;exact .i _ _
   |j+2,h1,h2=>trivial
  trivial
 case mkm o t V ag=>
  refine⟨_,_,?_,hk _ _ _ _ h (Yon o t V ag hr)⟩
  cases ag<;>rfl
 case mget o t V ag ok m k=>
  obtain⟨v,us,h1,h2⟩:=Yoj h (vok m) (vok k) hr (YcT (X:=X) (pl:=pl) (.cons t V)).2.2 same
  exact⟨v,us,h1,h2⟩
 case mput o t V ag m k v=>
  obtain⟨w,us,h1,h2⟩:=Yol h (vok m) (vok k) (vok v) hr hk
  grind
 case mdel o t V m k=>
  obtain⟨w,us,h1,h2⟩:=Yom h (vok m) (vok k) hr hk
  grind
 case mlen m=>
  have h2:=vok m
  split at h
  ·rename_i a e1
   rw[e1]at h2
   split at h
   ·rename_i o n c ver hole l ho
    obtain⟨y,e5,hp⟩:=YaB ho h2
    obtain⟨y',el,g1,g2,g3,g4,_⟩:=hr.obj a _ ho
    rw[hp]at g1;injection g1 with g1;subst g1
    have hyf:hf H y=some (some ⟨3,[[.v (.int .i64 n),.rd 3 el,.v (.bool false)]]⟩):=g2
    have hmo:mapO ⟨3,[[.v (.int .i64 n),.rd 3 el,.v (.bool false)]]⟩=some (n,el,[.v (.bool false)]):=rfl
    refine⟨.v (.int .i64 (el.length:Nat)),[],by simp only[YwS,YwX,e5,xF,hyf,hmo],same _ _ h ?_⟩
    rw[g4];exact .i _ _
   ·rename_i n c l tags ho
    obtain⟨e3,e4⟩:=Yaa h
    simp only[YxP,Nat.beq_eq]at e3
    obtain⟨y,e5,hp⟩:=YaB ho h2
    obtain⟨el,at',R,hy,hmo,hrow,_⟩:=YdN hr ho hp e3
    have hyf:hf H y=some (some ⟨tags.length+2,[.v (.int .i64 n)::R::at']⟩):=hy
    refine⟨.v (.int .i64 (el.length:Nat)),[],by simp only[YwS,YwX,e5,xF,hyf,hmo],same _ _ e4 ?_⟩
    rw[hrow.1];exact .i _ _
   trivial
  trivial
 case mrng m=>
  have h2:=vok m
  split at h
  ·rename_i a e1
   rw[e1]at h2
   split at h
   ·rename_i o n c ver hole l ho
    obtain⟨y,e5,hp⟩:=YaB ho h2
    obtain⟨y',el,g1,g2,g3,g4,_⟩:=hr.obj a _ ho
    rw[hp]at g1;injection g1 with g1;subst g1
    have hyf:hf H y=some (some ⟨3,[[.v (.int .i64 n),.rd 3 el,.v (.bool false)]]⟩):=g2
    have hmo:mapO ⟨3,[[.v (.int .i64 n),.rd 3 el,.v (.bool false)]]⟩=some (n,el,[.v (.bool false)]):=rfl
    obtain⟨k1,k2⟩:=Yas hr (.st [.np a,.i .i64 n,.i .i64 n,.l I64 [],.b false]) ⟨5,[[.np y,.v (.int .i64 n),.v (.int .i64 n),.rd 1 [],.v (.bool false)]]⟩
     (fun hx=>⟨H.length,[.np y,.v (.int .i64 n),.v (.int .i64 n),.rd 1 [],.v (.bool false)],by unfold plS;simp,by simp,by simp,CT.cons ((TR.np a y _ ho hp).ext hx) (CT.cons (.i _ _) (CT.cons (.i _ _) (CT.cons (show TR _ _ (.l I64 []) (.rd 1 [])from Ybn (c:=I64) (Rows.none _)) (CT.cons (.b _) CT.nil))))⟩)
    exact⟨.np H.length,_,by simp only[YwS,YwX,e5,xF,hyf,hmo];rfl,hk _ _ _ _ h ⟨_,.np X.length H.length _ (Yal X _) (by unfold plS;simp),⟨k1,k2⟩,.inr ⟨by simp,by unfold plS;simp⟩⟩⟩
   ·rename_i n c l tags ho
    obtain⟨e3,e4⟩:=Yaa h
    simp only[YxP,Nat.beq_eq]at e3
    obtain⟨y,e5,hp⟩:=YaB ho h2
    obtain⟨va,us,k1,k2⟩:=Yoo hr ho hp e3
    grind
   trivial
  trivial
 case ment o t V ag it=>
  obtain⟨w,us,h1,h2⟩:=Yop h (vok it) hr same
  grind
 case mnxt it=>cases h
 case cpy c d s=>
  have h2:=vok d
  split at h
  ·rename_i a e1
   rw[e1]at h2
   split at h
   ·rename_i c' l ho
    split at h
    ·rename_i m0 hs
     split at h
     ·rename_i m hm
      obtain⟨e3,e4⟩:=Yaa h
      obtain⟨va,us,k1,k2⟩:=Yoq hr ho h2 hs (vok s) hm (show 1<=c.width by simpa[Yxu]using e3)
      grind
     trivial
    trivial
   trivial
  trivial
 case sub64 xs=>
  have h2:=YaN he xs
  split at h
  ·rename_i x y c e1
   obtain⟨e2,e3⟩:=Yah h
   rw[Yiu e1 h2]
   refine⟨.tup [.v (.int .u64 (YuB x y c).1),.v (.int .u64 (YuB x y c).2)],by simp only[pvF,if_pos e2],same _ _ e3 (.tp _ _ rfl (fun j c a h1 h2=> ?_))⟩
   match j,h1,h2 with
   |0,h1,h2=>simp at h1 h2;subst h1;subst h2;exact .i _ _
   |1,h1,h2=>simp at h1 h2;subst h1;subst h2;exact .i _ _
   |j+2,h1,h2=>trivial
  trivial
end
end Go.Abs
namespace Go.Abs
open Go Go.RowKit
mutual
theorem SV.eq_of: ∀{x y:SV},x.eqb y=true->x=y
 | .i k,y,h=>by
   cases y<;>first| (simp[SV.eqb]at h;done)|skip
   simp only[SV.eqb,decide_eq_true_eq]at h;rw[h]
 | .b,y,h=>by cases y<;>first| (simp[SV.eqb]at h;done)|rfl
 | .s,y,h=>by cases y<;>first| (simp[SV.eqb]at h;done)|rfl
 | .u,y,h=>by cases y<;>first| (simp[SV.eqb]at h;done)|rfl
 | .nl,y,h=>by cases y<;>first| (simp[SV.eqb]at h;done)|rfl
 | .ef,y,h=>by cases y<;>first| (simp[SV.eqb]at h;done)|rfl
 | .l c,y,h=>by
   cases y<;>first| (simp[SV.eqb]at h;done)|skip
   rw[Cs.eq_of (show Cs.eqb c _=true from h)]
 | .e c,y,h=>by
   cases y<;>first| (simp[SV.eqb]at h;done)|skip
   rw[Cs.eq_of (show Cs.eqb c _=true from h)]
 | .np a,y,h=>by
   cases y<;>first| (simp[SV.eqb]at h;done)|skip
   rw[Yxt (show Yxr a _=true from h)]
 | .ref a,y,h=>by
   cases y<;>first| (simp[SV.eqb]at h;done)|skip
   rw[Yxt (show Yxr a _=true from h)]
 | .pre a,y,h=>by
   cases y<;>first| (simp[SV.eqb]at h;done)|skip
   rw[Yxt (show Yxr a _=true from h)]
 | .ptr a p q,y,h=>by
   cases y<;>first| (simp[SV.eqb]at h;done)|skip
   simp only[SV.eqb,YxL]at h
   rw[Yxt h.1.1,Yxt h.1.2,Yxt h.2]
 | .ag x,y,h=>by
   cases y<;>first| (simp[SV.eqb]at h;done)|skip
   rw[SV.eqs_of (show SV.eqbs x _=true from h)]
 | .tp x,y,h=>by
   cases y<;>first| (simp[SV.eqb]at h;done)|skip
   rw[SV.eqs_of (show SV.eqbs x _=true from h)]
 | .clo g x,y,h=>by
   cases y<;>first| (simp[SV.eqb]at h;done)|skip
   simp only[SV.eqb,YxL]at h
   rw[Yxt h.1,SV.eqs_of h.2]
theorem SV.eqs_of: ∀{x y:List SV},SV.eqbs x y=true->x=y
 | [],[],_=>rfl
 |a::r,a'::r',h=>by
  simp only[SV.eqbs,YxL]at h
  rw[SV.eq_of h.1,SV.eqs_of h.2]
 | [],_::_,h|_::_,[],h=>by simp[SV.eqbs]at h
end
theorem SO.eq_of{x y:SO}(h:x.eqb y=true):x=y:=by
 cases x<;>cases y<;>first| (simp[SO.eqb]at h;done)|skip
 ·rw[Cs.eq_of (show _=true from h)]
 ·simp only[SO.eqb,YxL,beq_iff_eq]at h
  rw[Cs.eq_of h.1,h.2.1,Cs.eq_of h.2.2]
 ·simp only[SO.eqb,YxL,decide_eq_true_eq]at h
  rw[h.1,Cs.eq_of h.2]
 ·rw[SV.eqs_of (show _=true from h)]
 ·rfl
 ·rfl
theorem SO.eqs_of: ∀{x y:List SO},SO.eqbs x y=true->x=y
 | [],[],_=>rfl
 |a::r,a'::r',h=>by
  simp only[SO.eqbs,YxL]at h
  rw[SO.eq_of h.1,SO.eqs_of h.2]
 | [],_::_,h|_::_,[],h=>by trivial
theorem YdS(c:Cs)(v:List c.den):asL c c v=some v:=by
 unfold asL Ty.cast
 rw[dif_pos (by simpa[Ty.eqb]using Cs.eqb_refl c)]
 rfl
mutual
theorem Yfp: ∀{tv:TV} {sv:SV} (r:List Lf),tv.sh=some sv->YtU sv (tv.lv++r)=some (tv,r)
 | .i k n,sv,r,h=>by simp only[TV.sh]at h;injection h with h;subst h;simp[TV.lv,YtU]
 | .b x,sv,r,h=>by simp only[TV.sh]at h;injection h with h;subst h;simp[TV.lv,YtU]
 | .ef x,sv,r,h=>by simp only[TV.sh]at h;injection h with h;subst h;simp[TV.lv,YtU]
 | .s x,sv,r,h=>by simp only[TV.sh]at h;injection h with h;subst h;simp[TV.lv,YtU]
 | .l c v,sv,r,h=>by simp only[TV.sh]at h;injection h with h;subst h;simp[TV.lv,YtU,YdS]
 | .u,sv,r,h=>by simp only[TV.sh]at h;injection h with h;subst h;simp[TV.lv,YtU]
 | .ref a,sv,r,h=>by simp only[TV.sh]at h;injection h with h;subst h;simp[TV.lv,YtU]
 | .pre a n,sv,r,h=>by simp only[TV.sh]at h;injection h with h;subst h;simp[TV.lv,YtU]
 | .ptr a p q,sv,r,h=>by simp only[TV.sh]at h;injection h with h;subst h;simp[TV.lv,YtU]
 | .np a,sv,r,h=>by simp only[TV.sh]at h;injection h with h;subst h;simp[TV.lv,YtU]
 | .ag x,sv,r,h=>by
   simp only[TV.sh]at h
   split at h
   ·rename_i y hy;injection h with h;subst h;simp only[TV.lv,YtU,Yb6 r hy]
   ·cases h
 | .tp x,sv,r,h=>by
   simp only[TV.sh]at h
   split at h
   ·rename_i y hy;injection h with h;subst h;simp only[TV.lv,YtU,Yb6 r hy]
   ·cases h
 | .clo g x,sv,r,h=>by
   simp only[TV.sh]at h
   split at h
   ·rename_i y hy;injection h with h;subst h;simp only[TV.lv,YtU,Yb6 r hy]
   ·cases h
 | .e c,sv,r,h=>by simp only[TV.sh]at h;injection h with h;subst h;simp[TV.lv,YtU]
 | .nl,sv,r,h=>by simp only[TV.sh]at h;injection h with h;subst h;simp[TV.lv,YtU]
 | .v _,_,_,h| .sub _ _ _,_,_,h| .pti _ _ _ _ _,_,_,h| .rp _,_,_,h| .lt _,_,_,h=>by simp[TV.sh]at h
theorem Yb6: ∀{vs:List TV} {svs:List SV} (r:List Lf),TV.shs vs=some svs->Yt9 svs (TV.lvs vs++r)=some (vs,r)
 | [],svs,r,h=>by simp only[TV.shs]at h;injection h with h;subst h;simp[TV.lvs,Yt9]
 |a::vs,svs,r,h=>by
  simp only[TV.shs]at h
  split at h
  ·rename_i x xs h1 h2
   injection h with h;subst h
   simp only[TV.lvs,Yt9,Yw9,Yfp (TV.lvs vs++r) h1,Yb6 r h2]
  ·cases h
end
theorem Yos{o:VObj}{so:SO}(r:List Lf)(h:o.sh=some so):YuQ so (o.lv++r)=some (o,r):=by
 cases o with
 |sq c l=>injection h with h;subst h;simp[VObj.lv,YuQ,YdS]
 |fm hd c ver hole l=>
  cases hole with
  |some i=>cases hd<;>cases h
  |none=>
   cases hd with
   |rw A nn=>
    obtain⟨h1,h2⟩:=Yaa h
    injection h2 with h2;subst h2
    have:=Yxt h1;subst this
    simp only[VObj.lv,YuQ,Yxg,Yxd,YdS]
   |mp o n=>
    obtain⟨h1,h2⟩:=Yaa h
    injection h2 with h2;subst h2
    have:=Yxt h1;subst this
    simp only[VObj.lv,YuQ,Yxg,Yxd,YdS]
 |st cs=>
  simp only[VObj.sh]at h
  split at h
  ·rename_i l hl;injection h with h;subst h;simp only[VObj.lv,YuQ,Yb6 r hl]
  trivial
 |sb s=>injection h with h;subst h;rfl
theorem Yot{o:VObj}(h:o.sh=some .dd):False:=by
 cases o with
 |sq c l=>simp[VObj.sh]at h
 |fm hd c ver hole l=>cases hd<;>cases hole with
  |none=>simp only[VObj.sh]at h;have:=(Yaa h).2;cases this
  |some i=>cases h
 |st cs=>simp only[VObj.sh]at h;grind
 |sb s=>cases h
theorem YdT: ∀{X:YtI} {so:List SO} (r:List Lf),shOs X=some so->Yt8 so (lvOs X++r)=some (X,r)
 | [],so,r,h=>by injection h with h;subst h;rfl
 |none::X,so,r,h=>by
  simp only[shOs]at h
  split at h
  ·rename_i xs h2
   injection h with h;subst h
   simp only[lvOs,Yt8,YdT r h2]
  trivial
 |some o::X,so,r,h=>by
  simp only[shOs]at h
  split at h
  ·rename_i x xs h1 h2
   injection h with h;subst h
   have hx:x≠ .dd:=fun e=>by subst e;exact Yot h1
   have:Yt8 (x::xs) (o.lv++lvOs X++r)=match YuQ x (o.lv++lvOs X++r)with|some (x,r)=>(match Yt8 xs r with|some (xs,r)=>some (some x::xs,r)|none=>none)|none=>none:=by cases x<;>first|rfl|trivial
   simp only[lvOs]
   rw[this]
   simp only[Yw9,Yos (lvOs X++r) h1,YdT r h2]
  trivial
theorem YdU: ∀l:List Lf,unp (Yut l).1 (Yut l).2=l
 | []=>rfl
 |a::r=>by
  have:=YdU r
  simp only[Yut,unp,Yba,YaS,this]
theorem YaV{g:Sg}{vs:List TV}{X:YtI}{x:g.c.den}(h:g.read vs X=some x):g.fill x=some ⟨zipE g.ts vs,X⟩:=by
 unfold Sg.read at h
 split at h
 ·rename_i svs sos h1 h2
  obtain⟨e1,e2⟩:=Yaa h
  simp at e1
  have q1:=SV.eqs_of e1.1;have q2:=SO.eqs_of e1.2
  have hu:=YdU (TV.lvs vs++lvOs X)
  generalize Yut (TV.lvs vs++lvOs X)=p at e2 hu
  obtain⟨c,z⟩:=p
  obtain⟨e,he⟩:=Cs.cast_some e2
  have hx:unp g.c x=TV.lvs vs++lvOs X:=by
   grind
  unfold Sg.fill
  rw[hx,<-q1,Yb6 _ h1]
  have:=YdT [] h2
  simp_all
 trivial
theorem Yb7: ∀{m:List Nat} {a i j:Nat},idxV m a i=some j->i<=j/\m[j-i]?=some a
 | [],a,i,j,h=>by cases h
 |x::r,a,i,j,h=>by
  simp only[idxV]at h
  cases hx:Yxr x a with
  |true=>
   simp_all
  |false=>
   rw[hx,cond_false]at h
   obtain⟨h1,h2⟩:=Yb7 h
   grind
theorem YbL{X:YtI}: ∀{l m:List Nat},m.Nodup->(YtK X m l).Nodup
 | [],m,h=>h
 |a::l,m,h=>by
  simp only[YtK]
  cases hc:((vget X a).isSome&& !(m.any (Yxr a)))with
  |false=>exact YbL h
  |true=>
   refine YbL ?_
   simp only[YxL,Bool.not_eq_true']at hc
   rw[List.nodup_append]
   refine⟨h,by simp,fun x hx y hy=> ?_⟩
   simp at hy
   subst hy
   intro e;subst e
   have:=List.any_eq_false.1 hc.2 x hx
   simp_all
theorem YcV{X:YtI}: ∀{d:Nat} {m:List Nat},m.Nodup->(YtO X d m).Nodup
 |0,m,h=>h
 |d+1,m,h=>by
  simp only[YtO]
  cases Yxr (YtK X m (m.flatMap fun a=>VObj.ids (vget X a))).length m.length with
  |true=>trivial
  |false=>exact YcV (YbL h)
theorem YcW{X:YtI}: ∀{l m:List Nat},(∀a∈m,∃o,vget X a=some o)-> ∀a∈YtK X m l,∃o,vget X a=some o
 | [],m,h=>h
 |b::l,m,h=>by
  simp only[YtK]
  cases hc:((vget X b).isSome&& !(m.any (Yxr b)))with
  |false=>exact YcW h
  |true=>
   simp at hc
   refine YcW (fun a ha=> ?_)
   rcases Yxi.1 ha with ha|ha
   ·simp_all
   ·simp at ha;subst ha;exact YxH.1 hc.1
theorem Yfq{X:YtI}: ∀{d:Nat} {m:List Nat},(∀a∈m,∃o,vget X a=some o)-> ∀a∈YtO X d m,∃o,vget X a=some o
 |0,m,h=>h
 |d+1,m,h=>by
  simp only[YtO]
  cases Yxr (YtK X m (m.flatMap fun a=>VObj.ids (vget X a))).length m.length with
  |true=>trivial
  |false=>exact Yfq (YcW h)
theorem YiG: ∀{m:List Nat} {a:Nat} (i:Nat),a∈m-> ∃j,idxV m a i=some j
 |x::m,a,i,h=>by
  simp only[idxV]
  cases hx:Yxr x a with
  |true=>simp
  |false=>
   rcases Yw2.1 h with e|h
   ·simp_all
   ·exact YiG (i+1) h
theorem YbM{m:List Nat}{a i:Nat}(h:a∉m):idxV m a i=none:=by
 cases hx:idxV m a i with
 |none=>rfl
 |some j=>exact absurd (YwQ (Yb7 hx).2) h
theorem YcX(X:YtI): ∀(l m:List Nat),m<+:YtK X m l
 | [],m=>List.prefix_refl _
 |a::l,m=>by
  simp only[YtK]
  cases((vget X a).isSome&& !(m.any (Yxr a)))with
  |true=>exact(List.prefix_append m [a]).trans (YcX X l _)
  |false=>exact YcX X l m
theorem Yfr(X:YtI): ∀(d:Nat) (m:List Nat),m<+:YtO X d m
 |0,m=>List.prefix_refl _
 |d+1,m=>by
  simp only[YtO]
  cases Yxr (YtK X m (m.flatMap fun a=>VObj.ids (vget X a))).length m.length with
  |true=>simp
  |false=>exact(YcX X _ m).trans (Yfr X d _)
theorem YdV(f:Nat->Option VObj): ∀(m:List Nat) (b:Nat),vget (m.map f) b=(m[b]?).bind f
 | [],b=>by rfl
 |a::m,0=>by rfl
 |a::m,b+1=>by simp only[YwS,vget,YdV f m b,List.getElem?_cons_succ]
theorem Yao(r:Nat->Option Nat): ∀l:List TV,TV.rens r l=l.map (TV.ren r)
 | []=>rfl
 |a::l=>by simp[TV.rens,Yao r l]
def plR(pl:Pl)(m:List Nat):Pl
 | .m b=>match m[b]? with|some a=>pl (.m a)|none=>none
 | .n b i=>match m[b]? with|some a=>pl (.n a i)|none=>none
section
variable{Fr:Nat->Prop}{H0:Heap}{X:YtI}{pl:Pl}{H:Heap}{m:List Nat}
abbrev renX(X:YtI)(m:List Nat):YtI:=m.map fun a=>(vget X a).map (VObj.ren fun a=>idxV m a 0)
theorem Yb8{b a:Nat}(h:m[b]?=some a):vget (renX X m) b=(vget X a).map (VObj.ren fun a=>idxV m a 0):=by
 rw[YdV,h];rfl
theorem Yb9(r:Nat->Option Nat)(o:VObj):lenO (o.ren r)=lenO o/\elN (o.ren r)=elN o:=by
 cases o with
 |fm hd _ _ _ _=>cases hd<;>exact⟨rfl,rfl⟩
 |_=>exact⟨rfl,rfl⟩
theorem TR.renG{X':YtI}{pl':Pl}{r:Nat->Option Nat}{g:Nat->VObj->VObj}(hg: ∀b o,lenO (g b o)=lenO o/\elN (g b o)=elN o)(look: ∀{a b:Nat},a<X.length->r a=some b->b<X'.length/\vget X' b=(vget X a).map (g b)/\pl' (.m b)=pl (.m a)){tv:TV}{av:AV}(h:TR X pl tv av):TR X' pl' (tv.ren r) av:=by
 induction h with
 |i k n=>exact .i k n
 |b x=>exact .b x
 |s x=>exact .s x
 |l c v a h=>exact .l c v a h
 |e c=>exact .e c
 |u a=>exact .u a
 |v x=>exact .u _
 |nl=>exact .nl
 |eft=>exact .eft
 |eff=>exact .eff
 |ref a x o n h hl hp=>
  simp only[TV.ren]
  split
  ·rename_i b hb
   obtain⟨h2,h1,h3⟩:=look (Yab h) hb
   exact .ref b x _ n (by simp_all) ((hg b o).1.trans hl) (h3.trans hp)
  ·exact .u _
 |refD a av h ha=>
  simp only[TV.ren]
  split
  ·rename_i b hb
   obtain⟨h2,h1,h3⟩:=look ha hb
   exact .refD b _ (by simp_all) h2
  ·exact .u _
 |pre a x k o n h hl hp h0 hm=>
  simp only[TV.ren]
  split
  ·rename_i b hb
   obtain⟨h2,h1,h3⟩:=look (Yab h) hb
   exact .pre b x k _ n (by simp_all) ((hg b o).1.trans hl) (h3.trans hp) h0 hm
  ·exact .u _
 |preD a x k h ha h0=>
  simp only[TV.ren]
  split
  ·rename_i b hb
   obtain⟨h2,h1,h3⟩:=look ha hb
   exact .preD b _ _ (by simp_all) h2 h0
  ·exact .u _
 |ptr a i j x o h hi hp=>
  simp only[TV.ren]
  split
  ·rename_i b hb
   obtain⟨h2,h1,h3⟩:=look (Yab h) hb
   exact .ptr b i j x _ (by rw[h1,h];rfl) (by rw[(hg b o).2];exact hi) (h3.trans hp)
  ·exact .u _
 |ptrD a i j av h ha=>
  simp only[TV.ren]
  split
  ·rename_i b hb
   obtain⟨h2,h1,h3⟩:=look ha hb
   exact .ptrD b _ _ _ (by simp_all) h2
  ·exact .u _
 |np a x o h hp=>
  simp only[TV.ren]
  split
  ·rename_i b hb
   obtain⟨h2,h1,h3⟩:=look (Yab h) hb
   exact .np b x _ (by rw[h1,h];rfl) (h3.trans hp)
  ·exact .u _
 |npD a av h ha=>
  simp only[TV.ren]
  split
  ·rename_i b hb
   obtain⟨h2,h1,h3⟩:=look ha hb
   exact .npD b _ (by simp_all) h2
  ·exact .u _
 |sub=>exact .u _
 |sube=>exact .u _
 |subD=>exact .u _
 |pti=>exact .u _
 |ptiD=>exact .u _
 |rp=>exact .u _
 |lt=>exact .u _
 |ag cs as hl h ih=>
  simp only[TV.ren,Yao]
  refine .ag _ _ (by grind) (fun j c a h1 h2=> ?_)
  grind
 |tp cs as hl h ih=>
  simp only[TV.ren,Yao]
  refine .tp _ _ (by grind) (fun j c a h1 h2=> ?_)
  grind
 |clo g cs as hl h ih=>
  simp only[TV.ren,Yao]
  refine .clo g _ _ (by grind) (fun j c a h1 h2=> ?_)
  grind
theorem TR.ren{tv:TV}{av:AV}(h:TR X pl tv av):TR (renX X m) (plR pl m) (tv.ren fun a=>idxV m a 0) av:=by
 refine h.renG (g:=fun _=>VObj.ren fun a=>idxV m a 0) (fun _=>Yb9 _) (fun{a b} _ hb=> ?_)
 obtain⟨_,h2⟩:=Yb7 hb
 simp only[Nat.sub_zero]at h2
 exact⟨by grind,Yb8 h2,by simp only[plR,h2]⟩
theorem Yfs(hr:HRel Fr H0 X pl H)(hm:m.Nodup):HRel Fr H0 (renX X m) (plR pl m) H:=by
 have up: ∀{p:Pos} {x},plR pl m p=some x-> ∃a,m[p.of]?=some a/\pl (match p with| .m _=>.m a| .n _ i=>.n a i)=some x:=by
  intro p x h
  cases p with
  |m b=>simp only[plR]at h;split at h;·exact⟨_,by trivial,h⟩
        trivial
  |n b i=>simp only[plR]at h;split at h;·exact⟨_,by trivial,h⟩
          trivial
 refine⟨fun b o' h1=> ?_,fun p q x hp hq=> ?_,fun p x hp=> ?_,hr.fr,fun p x hp=> ?_,hr.le⟩
 ·rw[YdV]at h1
  cases hb:m[b]? with
  |none=>simp_all
  |some a=>
   rw[hb]at h1
   simp at h1
   obtain⟨o,ho,rfl⟩:=h1
   have hob:=hr.obj a o ho
   have e1:plR pl m (.m b)=pl (.m a):=by simp only[plR,hb]
   have e2: ∀i,plR pl m (.n b i)=pl (.n a i):=fun i=>by simp only[plR,hb]
   cases o with
   |sq c l=>obtain⟨x,el,h1,h2,h3,h4⟩:=hob;exact⟨x,el,e1.trans h1,h2,h3,h4⟩
   |fm hd c ver hole l=>
    obtain⟨x,el,h1,h2,h3,h4,h6⟩:=hob
    refine⟨x,el,e1.trans h1,h2,h3,h4,fun i e v k1 k2=> ?_⟩
    obtain⟨d,r,q1,q2,q3⟩:=h6 i e v k1 k2
    refine⟨d,r,q1,q2,fun k3=> ?_⟩
    rw[e2];exact q3 k3
   |st cs=>
    obtain⟨x,e,h1,h2,h3,h4⟩:=hob
    refine⟨x,e,e1.trans h1,?_,?_,?_⟩
    ·simp only[Yao,YwY];exact h2
    ·simpa[Yao]using h3
    ·refine⟨by simp[Yao,h4.1],fun j c a h1 h2=> ?_⟩
     rw[Yao,YwR,YxE]at h1
     obtain⟨y,h1,rfl⟩:=h1
     exact(h4.2 j y a h1 h2).ren
   |sb s=>obtain⟨x,h1,h2⟩:=hob;exact⟨x,e1.trans h1,h2⟩
 ·obtain⟨a,h1,h2⟩:=up hp
  obtain⟨a',h3,h4⟩:=up hq
  have:=hr.inj _ _ _ h2 h4
  have nd: ∀{i j:Nat} {a:Nat},m[i]?=some a->m[j]?=some a->i=j:=fun hi hj=>by
   have g1:=YwP.1 hi
   have g2:=YwP.1 hj
   exact(List.getElem_inj (h₀:=g1.1) (h₁:=g2.1) hm).1 (by omega)
  cases p with
  |m b=>cases q with
   |m b'=>injection this with this;subst this;simp only[Pos.of]at h1 h3;grind
   |n b' i=>trivial
  |n b i=>cases q with
   |m b'=>trivial
   |n b' j=>injection this with this e;subst this;subst e;simp only[Pos.of]at h1 h3;grind
 ·obtain⟨a,h1,h2⟩:=up hp
  have:=hr.own _ _ h2
  cases p with
  |m b=>obtain⟨o,ho⟩:=this;exact⟨_,by rw[Yb8 (b:=b) (a:=a) h1,ho];rfl⟩
  |n b i=>obtain⟨hd,c,v,h,l,ho,k⟩:=this;exact⟨hd,c,0,h,l,by rw[Yb8 (b:=b) (a:=a) h1,ho];rfl,k⟩
 ·obtain⟨a,h1,h2⟩:=up hp
  exact hr.nfr _ _ h2
theorem YiH(f:Nat->TV): ∀(ts:List Nat) (t:Nat),YtT (zipE ts (ts.map f)) t=if t∈ts then f t else .u
 | [],t=>by rfl
 |s::ts,t=>by
  simp only[YwS,zipE,YtT]
  cases hb:Yxr s t with
  |true=>
   simp_all
  |false=>
   have hne:t≠s:=fun e=>by simp_all
   rw[cond_false,YiH f ts t]
   grind
theorem YdW(f:Option VObj->Option VObj)(hf:f none=none): ∀(X:YtI) (a:Nat),vget (X.map f) a=f (vget X a)
 | [],a=>by simp[vget,hf]
 |o::X,0=>rfl
 |o::X,a+1=>by exact YdW f hf X a
theorem Yft: ∀l:List TV,TV.nrms l=l.map TV.nrm
 | []=>rfl
 |a::r=>by simp[TV.nrms,Yft r]
mutual
theorem TR.nrm: ∀(v:TV) {a:AV},TR X pl v a->TR X pl v.nrm a
 | .e c,_,h=>by cases h;exact .l c [] _ (by simp only[YwX];exact .empRd _)
 | .ag x,_,h=>by
   cases h with
   |ag _ as hl hc=>have:=CT.nrm x ⟨hl,hc⟩;exact .ag _ _ this.1 this.2
 | .tp x,_,h=>by
   cases h with
   |tp _ as hl hc=>have:=CT.nrm x ⟨hl,hc⟩;exact .tp _ _ this.1 this.2
 | .clo g x,_,h=>by
   cases h with
   |clo _ _ as hl hc=>have:=CT.nrm x ⟨hl,hc⟩;exact .clo g _ _ this.1 this.2
 | .i _ _,_,h=>h
 | .b _,_,h=>h
 | .s _,_,h=>h
 | .l _ _,_,h=>h
 | .u,_,h=>h
 | .v _,_,h=>h
 | .nl,_,h=>h
 | .ef _,_,h=>h
 | .ref _,_,h=>h
 | .pre _ _,_,h=>h
 | .sub _ _ _,_,h=>h
 | .ptr _ _ _,_,h=>h
 | .np _,_,h=>h
 | .pti _ _ _ _ _,_,h=>h
 | .rp _,_,h=>h
 | .lt _,_,h=>h
theorem CT.nrm: ∀(l:List TV) {as:List AV},CT X pl l as->CT X pl (TV.nrms l) as
 | [],_,h=>h
 |v::l,as,h=>by
  obtain⟨a,r,rfl,h1,h2⟩:=h.inv
  exact .cons (TR.nrm v h1) (CT.nrm l h2)
end
theorem YdX(a:Nat):vget (nrmX X) a=(vget X a).map VObj.nrm:=by
 exact YdW _ rfl X a
theorem Yfu:Ext X pl (nrmX X) pl:=by
 refine⟨by simp[nrmX],fun a _=> ?_⟩
 rw[YdX]
 cases h:vget X a with
 |none=>simp
 |some o=>
  refine .inr ⟨o,o.nrm,rfl,rfl,?_,?_,rfl,?_,fun hd c ver hole l e=> ?_⟩
  ·cases o<;>rfl
  ·cases o<;>rfl
  ·cases o<;>rfl
  ·cases o with
   |sq _ _=>cases e
   |st _=>cases e
   |sb _=>cases e
   |fm hd0 c0 v0 h0 l0=>exact⟨hd,ver,hole,l,e,.inr ⟨rfl,fun h=>⟨h,rfl,fun i=>⟨rfl,rfl⟩⟩⟩⟩
theorem YiI(hr:HRel Fr H0 X pl H):HRel Fr H0 (nrmX X) pl H:=by
 refine⟨fun a o ho=> ?_,hr.inj,fun p x hp=> ?_,hr.fr,hr.nfr,hr.le⟩
 ·rw[YdX,YxE]at ho
  obtain⟨o0,h0,rfl⟩:=ho
  have:=hr.obj a o0 h0
  cases o0 with
  |sq c l=>trivial
  |fm hd c v h l=>exact this
  |sb s=>trivial
  |st cs=>
   obtain⟨x,e,e1,e2,e3,e4⟩:=this
   exact⟨x,e,e1,by rw[Yft,YwY];exact e2,by rw[Yft,YwY];exact e3,CT.nrm cs (e4.ext Yfu)⟩
 ·have:=hr.own p x hp
  cases p with
  |m a=>obtain⟨o,ho⟩:=this;exact⟨o.nrm,by rw[YdX,ho];rfl⟩
  |n a i=>obtain⟨hd,c,v,h,l,ho,k⟩:=this;exact⟨hd,c,v,h,l,by rw[YdX,ho];rfl,k⟩
theorem YcY{env:VEnv}{ae:Env}(he:ERel X pl env ae)(hr:HRel Fr H0 X pl H){kb:Nat}{ts:List Nat}{vs:List TV}{X':YtI}(hkb:kb<=X.length)(h:YuH kb ts ⟨env,X⟩=(vs,X')): ∃pl',ERel X' pl' (zipE ts vs) ae/\HRel Fr H0 X' pl' H/\kb<=X'.length/\ ∀i,i<kb-> ∀x,pl' (.m i)=some x->pl (.m i)=some x:=by
 unfold YuH at h
 simp only at h
 have he1: ∀t,TR (nrmX X) pl (YtT env t).nrm (YtM ae t):=fun t=>TR.nrm _ ((he t).ext Yfu)
 have hr:=YiI hr
 have hXl:(nrmX X).length=X.length:=by simp[nrmX]
 have hkb:kb<=(nrmX X).length:=by omega
 clear hXl he
 generalize nrmX X=X at h hr hkb he1
 have hnd:(YtO X 5 (YtK X (List.range (min kb X.length)) (TV.idss (ts.map fun t=>(YtT env t).nrm)))).Nodup:=YcV (YbL List.nodup_range)
 have hpre:List.range (min kb X.length)<+:YtO X 5 (YtK X (List.range (min kb X.length)) (TV.idss (ts.map fun t=>(YtT env t).nrm))):=(YcX _ _ _).trans (Yfr _ _ _)
 generalize(YtO X 5 (YtK X (List.range (min kb X.length)) (TV.idss (ts.map fun t=>(YtT env t).nrm))))=m at h hnd hpre
 injection h with h1 h2
 subst h1;subst h2
 obtain⟨tl,htl⟩:=hpre
 refine⟨plR pl m,fun t=> ?_,Yfs hr hnd,by grind,fun i hi x hx=> ?_⟩
 rotate_left
 ·have:m[i]?=some i:=by
   grind
  simpa only[plR,this]using hx
 rw[Yao,List.map_map,YiH]
 split
 ·exact(he1 t).ren
 ·exact .u _
theorem You{env:Env}{H:Heap}{b x es n j:Nat}{e:List AV}{av:AV}(hx:H[x]?=some (some ⟨n,[e]⟩))(hj:e[j]?=some av)(hes:(av= .emp/\0<es)\/av= .v (.slice none 0 0)):
  Wk ⟨env,H,b⟩ ⟨env,H.set x (some ⟨n,[e.set j (.ref H.length 0 0)]⟩)++[some ⟨es,[]⟩],b⟩:=by
 intro fm n0 w0 L0 a w hs
 obtain⟨h1,h2,h3,L,h4,h5,h6,h7⟩:=hs
 obtain⟨k1,k2⟩:=YbT h6 (nid:=H.length) (by simp[hf]) (es:=es) w0.heap.size (decide (es=0)) (fun h=>by simpa using h)
 have k2':LStep L (fun a=>if a=H.length then .nil (decide (es=0))else L a) w.heap.size:=(YbT h6 (nid:=H.length) (by simp[hf]) (es:=es) w.heap.size (decide (es=0)) (fun h=>by simpa using h)).1
 rw[hf_push]at k2
 have hxl:=(YwP.1 hx).1
 have hxn:x≠H.length:=by omega
 have hget: ∀c,hf (H.set x (some ⟨n,[e.set j (.ref H.length 0 0)]⟩)++[some ⟨es,[]⟩]) c=if c=x then some (some ⟨n,[e.set j (.ref H.length 0 0)]⟩)else hf (H++[some ⟨es,[]⟩]) c:=by
  intro c
  simp only[hf]
  by_cases ec:c=x
  ·subst ec;rw[if_pos rfl,YwU (by simpa using hxl),Yw4 hxl]
  ·rw[if_neg ec]
   by_cases hc:c<H.length
   ·rw[YwU (by simpa using hc),YwU hc,YwV (Ne.symm ec)]
   ·rw[Yw0 (by simp;omega),Yw0 (by omega)];simp
 have hxo:hf (H++[some ⟨es,[]⟩]) x=some (some ⟨n,[e]⟩):=by
  simp only[hf];rw[YwU hxl];exact hx
 refine⟨h1,h2,h3,_,h4,h5.trans k1,?_,fun s=>(h7 s).mono (Keep.refl _ _) k2'⟩
 refine⟨fun c q hq=> ?_,fun c hc'=> ?_,fun c=> ?_,k2.inj,k2.hid,fun c q g es' cap hq h0 hL=> ?_,fun c i g hc'=> ?_,k2.tab⟩
 rotate_left 4
 ·obtain⟨⟨q,hq⟩,k⟩:=k2.mps c i g hc'
  refine⟨?_,k⟩
  rw[hget]
  by_cases ec:c=x
  ·rw[if_pos ec];exact⟨_,rfl⟩
  ·rw[if_neg ec];exact⟨q,hq⟩
 rotate_left 3
 ·rw[hget]at hq
  by_cases ec:c=x
  ·subst ec
   rw[if_pos rfl]at hq;injection hq with hq;injection hq with hq;subst hq
   exact k2.byt c _ g es' cap hxo h0 hL
  ·rw[if_neg ec]at hq;exact k2.byt c q g es' cap hq h0 hL
 ·rw[hget]at hq
  by_cases ec:c=x
  ·subst ec
   rw[if_pos rfl]at hq;injection hq with hq;injection hq with hq;subst hq
   have hLc:(if c=H.length then Loc.nil (decide (es=0))else L c)=L c:=if_neg hxn
   have hob:ObjR fm w _ (if c=H.length then Loc.nil (decide (es=0))else L c) _:=k2.obj c _ hxo
   rw[hLc]at hob⊢
   revert hob
   cases hL:L c with
   |fresh=>exact id
   |dead=>exact id
   |hid g=>exact id
   |nil=>intro g1;cases g1.1
   |cells g es' cap=>
    rintro⟨g0,g1,g2,g3,g4,cur,ty,g5,g6,g7⟩
    refine⟨g0,g1,by simpa using g2,g3,fun e' he'=> ?_,cur,ty,g5,g6,fun i e' j' x' hi hj'=> ?_⟩
    ·simp at he';subst he';rw[Yw5];exact g4 e (Yxf.2 rfl)
    ·cases i with
     |succ i=>simp at hi
     |zero=>
      simp at hi;subst hi
      by_cases ej:j'=j
      ·subst ej
       have hjl:=(YwP.1 hj).1
       rw[Yw4 hjl]at hj';injection hj' with hj';subst hj'
       obtain⟨q1,q2⟩:=g7 0 e j' _ rfl hj
       refine⟨q1,?_⟩
       rcases hes with⟨rfl,hes⟩|rfl
       ·obtain⟨A,hA⟩:=YaK q2
        rw[hA]
        exact .refNil A H.length (decide (es=0)) (by simp) (fun h=>by simp at h;omega)
       ·rw[Yae q2]
        exact .refNil none H.length (decide (es=0)) (by simp) (fun _=>rfl)
      ·rw[YwV (Ne.symm ej)]at hj'
       exact g7 0 e j' x' rfl hj'
   |mp i g=>
    intro hm
    exfalso
    have nov: ∀x,(∀A n c,x≠ .slice A n c)-> ¬VR fm w (fun a=>if a=H.length then Loc.nil (decide (es=0))else L a) x av:=fun x hx hv=>by
     rcases hes with⟨rfl,_⟩|rfl
     ·obtain⟨A,hA⟩:=YaK hv;exact hx _ _ _ hA
     ·exact hx _ _ _ (Yae hv)
    have norow: ∀{wd:Nat} {el:List (List AV)},av≠ .rd wd el:=fun e=>by
     rcases hes with⟨rfl,_⟩|rfl<;>cases e
    have nou:av≠ .u:=fun e=>by
     rcases hes with⟨rfl,_⟩|rfl<;>cases e
    cases i with
    |true=>
     obtain⟨_,a0,s,t,S,tag,g',since,seen,stepped,_,h2,h3,h4,h5,h6,h7⟩:=hm
     injection h2 with h2 _
     subst h2
     match j,hj with
     |0,hj=>simp at hj;subst hj;exact nov _ (fun A n c e=>by cases e) h3
     |1,hj=>simp at hj;subst hj;exact nov _ (fun A n c e=>by cases e) h4
     |2,hj=>simp at hj;subst hj;exact nov _ (fun A n c e=>by cases e) h5
     |3,hj=>
      simp at hj;subst hj
      rcases h7 with e| ⟨wd,bl,e,_⟩
      ·exact nou e
      ·exact norow e
     |4,hj=>simp at hj;subst hj;exact nov _ (fun A n c e=>by cases e) h6
     |j+5,hj=>simp at hj
    |false=>
     obtain⟨_,ms,clock,c0,R,tags,_,h2,h3,h4,_,h5⟩:=hm
     injection h2 with h2 _
     subst h2
     match j,hj with
     |0,hj=>simp at hj;subst hj;exact nov _ (fun A n c e=>by cases e) h3
     |1,hj=>
      simp at hj;subst hj
      rcases h5 with e| ⟨wd,el,e,_⟩
      ·exact nou e
      ·exact norow e
     |j+2,hj=>
      simp at hj
      exact nov _ (fun A n c e=>by cases e) (h4 av (YwQ hj))
  ·rw[if_neg ec]at hq;exact k2.obj c q hq
 ·obtain⟨q,hq⟩:=k2.live c hc'
  rw[hget]
  by_cases ec:c=x
  ·rw[if_pos ec];exact⟨_,rfl⟩
  ·rw[if_neg ec];exact⟨q,hq⟩
 ·rw[hget,k2.fresh c]
  by_cases ec:c=x
  ·subst ec;rw[if_pos rfl,hxo];simp
  ·rw[if_neg ec]
theorem Yov(hr:HRel Fr H0 X pl H){a x j es:Nat}{cs:List TV}{e:List AV}{o:VObj}(ha:vget X a=some (.st cs))(hp:pl (.m a)=some x)(hx:H[x]?=some (some ⟨cs.length,[e]⟩))(hct:CT X pl cs e)(h0:0<cs.length)(hj:j<cs.length)(ho:lenO o=some 0)
  (hor: ∀{X':YtI} {pl':Pl} {H':Heap},pl' (.m X.length)=some H.length->(∀i,pl' (.n X.length i)=none)->H'[H.length]?=some (some ⟨es,[]⟩)->OR X' pl' H' X.length o):
  HRel Fr H0 (vset X a (some (.st (cs.set j (.ref X.length))))++[some o]) (plS pl (.m X.length) (some H.length)) (H.set x (some ⟨cs.length,[e.set j (.ref H.length 0 0)]⟩)++[some ⟨es,[]⟩])/\
   Ext X pl (vset X a (some (.st (cs.set j (.ref X.length))))++[some o]) (plS pl (.m X.length) (some H.length)):=by
 have hal:=Yab ha
 have hxl:=(YwP.1 hx).1
 have hXl:(vset X a (some (.st (cs.set j (.ref X.length))))).length=X.length:=Yac _ _ _
 have hgn:vget (vset X a (some (.st (cs.set j (.ref X.length))))++[some o]) X.length=some o:=by
  have:=Yal (vset X a (some (.st (cs.set j (.ref X.length))))) (some o);simp_all
 have hga:vget (vset X a (some (.st (cs.set j (.ref X.length))))++[some o]) a=some (.st (cs.set j (.ref X.length))):=by
  rw[Yap (by omega)];exact Yam _ hal
 have hgb: ∀b,b≠a->b≠X.length->vget (vset X a (some (.st (cs.set j (.ref X.length))))++[some o]) b=vget X b:=fun b h1 h2=>by
  by_cases hb:b<X.length
  ·rw[Yap (by omega),Yak _ (Ne.symm h1)]
  ·rw[Yar (by grind),Yar (by omega)]
 have hpn: ∀p:Pos,p≠ .m X.length->plS pl (.m X.length) (some H.length) p=pl p:=fun p h=>by unfold plS;simp_all
 have hpo: ∀p:Pos,p.of≠X.length->p≠ .m X.length:=fun p h e=>by subst e;trivial
 have hps:plS pl (.m X.length) (some H.length) (.m X.length)=some H.length:=by unfold plS;simp
 have hH': ∀{p:Pos} {z},p≠ .m a->pl p=some z->(H.set x (some ⟨cs.length,[e.set j (.ref H.length 0 0)]⟩)++[some ⟨es,[]⟩])[z]?=H[z]?:=fun h1 h2=>by
  rw[YwU (by simpa using hr.bd h2),YwV (fun e=>h1 (by subst e;exact hr.inj _ _ _ h2 hp))]
 have hxt:Ext X pl (vset X a (some (.st (cs.set j (.ref X.length))))++[some o]) (plS pl (.m X.length) (some H.length)):=by
  refine⟨by grind,fun b hb=> ?_⟩
  have hbn:b≠X.length:=by omega
  by_cases e1:b=a
  ·subst e1
   exact .inr ⟨_,_,ha,hga,rfl,rfl,hpn _ (hpo (.m b) hbn),rfl,fun hd c v h l e=>by cases e⟩
  ·rw[hgb b e1 hbn]
   cases h:vget X b with
   |none=>simp
   |some o1=>exact .inr ⟨o1,o1,rfl,rfl,rfl,rfl,hpn _ (hpo (.m b) hbn),rfl,fun hd' c' v' h' l' e=>⟨hd',v',h',l',e,.inr ⟨rfl,fun h=>⟨h,rfl,fun i=>⟨rfl,hpn _ (fun e=>by cases e)⟩⟩⟩⟩⟩
 refine⟨hr.build (fun b=>b=a\/b=X.length) hxt (fun b hb=>hgb b (fun e=>hb (.inl e)) (fun e=>hb (.inr e))) (fun p hb=>hpn p (hpo p (fun e=>hb (.inr e)))) (fun p z hb hz=>hH' (fun e=>by subst e;exact hb (.inl rfl)) hz)
  (fun b ob hb hob=> ?_) (fun p z hb hz=> ?_) (fun p z hb hz=> ?_) (fun p q z hb hb' hz hz'=> ?_) (fun z hz=> ?_) (by simp),hxt⟩
 ·by_cases e1:b=X.length
  ·subst e1
   rw[hgn]at hob;injection hob with hob;subst hob
   refine hor hps (fun i=> ?_) ?_
   ·rw[hpn _ (fun e=>by cases e)];exact hr.dead (Yar (Yxs _))
   simp
  ·have:=hb.resolve_right e1;subst this
   rw[hga]at hob;injection hob with hob;subst hob
   refine⟨x,e.set j (.ref H.length 0 0),(hpn _ (hpo (.m b) e1)).trans hp,?_,by simp_all,?_⟩
   ·grind
   ·refine⟨by simp[hct.1],fun i c av g1 g2=> ?_⟩
    by_cases ei:i=j
    ·subst ei
     rw[Yw4 hj]at g1
     rw[Yw4 (by grind)]at g2
     injection g1 with g1;injection g2 with g2;subst g1;subst g2
     exact .ref X.length H.length o 0 hgn ho hps
    ·rw[YwV (Ne.symm ei)]at g1 g2
     exact(hct.2 i c av g1 g2).ext hxt
 ·by_cases e1:p= .m X.length
  ·subst e1;exact⟨o,hgn⟩
  ·rw[hpn p e1]at hz
   have hl:=hr.own p z hz
   rcases hb with hb|hb
   ·cases p with
    |m b=>simp only[Pos.of]at hb;subst hb;exact⟨_,hga⟩
    |n b i=>simp only[Pos.of]at hb;subst hb;obtain⟨hd,c,v,h,l,k,_⟩:=hl;simp_all
   ·have:=hr.dead (p:=p) (by rw[hb];exact Yar (Yxs _))
    simp_all
 ·grind
 ·by_cases e1:p= .m X.length<;>by_cases e2:q= .m X.length
  ·simp_all
  ·grind
  ·grind
  ·rw[hpn p e1]at hz;rw[hpn q e2]at hz';exact hr.inj _ _ _ hz hz'
 ·have:=(hr.fr z hz).1;have:=hr.le
  rw[YwU (by grind),YwV (fun e=>hr.nfr _ _ hp (by simp_all))]
theorem YiJ(f:TV->TV)(hf:f .u= .u): ∀(env:VEnv) (t:Nat),YtT (env.map fun p=>(p.1,f p.2)) t=f (YtT env t)
 | [],t=>by simp[YtT,hf]
 | (s,v)::r,t=>by
   simp only[YwS,YtT]
   cases Yxr s t with
   |true=>rfl
   |false=>exact YiJ f hf r t
theorem Yow(a n:Nat):(rnM a n).Nodup:=by
 have hf: ∀b,b<n->(bif Yxr b a then n else b)≠a\/False:=fun b hb=>by
  cases h:Yxr b a with
  |true=>have:=Yxt h;grind
  |false=>exact .inl (fun e=>by simp_all)
 unfold rnM
 rw[List.nodup_append]
 refine⟨?_,by simp,fun x hx y hy=> ?_⟩
 ·rw[List.nodup_iff_pairwise_ne,List.pairwise_map]
  refine List.Pairwise.imp_of_mem (fun{x y} hx hy hne=> ?_) (List.nodup_iff_pairwise_ne.1 (List.nodup_range (n:=n)))
  cases h:Yxr x a<;>cases h':Yxr y a
  ·trivial
  ·grind
  ·grind
  simp_all
 grind
theorem YiK{env:VEnv}{ae:Env}(he:ERel X pl env ae)(hr:HRel Fr H0 X pl H)(a:Nat):
  ERel (rnV a ⟨env,X⟩).heap (plR pl (rnM a X.length)) (rnV a ⟨env,X⟩).env ae/\HRel Fr H0 (rnV a ⟨env,X⟩).heap (plR pl (rnM a X.length)) H/\X.length+1=(rnV a ⟨env,X⟩).heap.length/\ ∀i,i<X.length-> ∀x,plR pl (rnM a X.length) (.m i)=some x->pl (.m i)=some x:=by
 refine⟨fun t=> ?_,Yfs hr (Yow a X.length),by simp[rnV,rnM],fun i hi x hx=> ?_⟩
 ·show TR (renX X (rnM a X.length)) _ (YtT (env.map fun p=>(p.1,p.2.ren fun b=>idxV (rnM a X.length) b 0)) t) _
  rw[YiJ (fun v=>v.ren fun b=>idxV (rnM a X.length) b 0) rfl]
  exact(he t).ren
 ·have:(rnM a X.length)[i]?=some (bif Yxr i a then X.length else i):=by
   unfold rnM
   grind
  simp only[plR,this]at hx
  cases h:Yxr i a with
  |true=>
   have:=hr.dead (p:=.m X.length) (Yar (Yxs _))
   simp_all
  |false=>simp_all
theorem YiL{fm:FM}{w:World}{L:Nat->Loc}{H:Heap}{x es:Nat}{el:List (List AV)}(n:Nat)(hr:HR fm w L (hf H))(hx:H[x]?=some (some ⟨es,el⟩))
  (hL:(∃g es' cap,L x= .cells g es' cap)\/ ∃b,L x= .nil b):HR fm w L (hf (H.set x (some ⟨es,el.take n⟩))):=by
 have hget: ∀c,hf (H.set x (some ⟨es,el.take n⟩)) c=if c=x then some (some ⟨es,el.take n⟩)else hf H c:=by
  intro c
  simp only[hf]
  grind
 have hxo:hf H x=some (some ⟨es,el⟩):=hx
 refine⟨fun c q hq=> ?_,fun c hc'=> ?_,fun c=> ?_,hr.inj,hr.hid,fun c q g es' cap hq h0 hLc=> ?_,fun c i g hc'=> ?_,hr.tab⟩
 ·rw[hget]at hq
  by_cases ec:c=x
  ·subst ec
   rw[if_pos rfl]at hq;injection hq with hq;injection hq with hq;subst hq
   have hob:=hr.obj c _ hxo
   rcases hL with⟨g,es',cap,hL⟩| ⟨b,hL⟩
   ·rw[hL]at hob⊢
    obtain⟨g0,g1,g2,g3,g4,cur,ty,g5,g6,g7⟩:=hob
    refine⟨g0,g1,by grind,g3,fun e he=>g4 e (List.mem_of_mem_take he),cur,ty,g5,g6,fun i e j y hi hj=> ?_⟩
    grind
   ·rw[hL]at hob⊢
    have h0:el=[]:=hob.1
    simp_all
  ·rw[if_neg ec]at hq;exact hr.obj c q hq
 ·rw[hget]
  by_cases ec:c=x
  ·simp_all
  ·rw[if_neg ec];exact hr.live c hc'
 ·rw[hget]
  by_cases ec:c=x
  ·grind
  ·rw[if_neg ec];exact hr.fresh c
 ·rw[hget]at hq
  by_cases ec:c=x
  ·subst ec
   rw[if_pos rfl]at hq;injection hq with hq;injection hq with hq;subst hq
   exact hr.byt c _ g es' cap hxo h0 hLc
  ·rw[if_neg ec]at hq;exact hr.byt c q g es' cap hq h0 hLc
 ·obtain⟨⟨q,hq⟩,k⟩:=hr.mps c i g hc'
  grind
theorem YiM{fm:FM}{w:World}{L:Nat->Loc}{H:Heap}{x m:Nat}{o:AObj}{v:Value}(hr:HR fm w L (hf H))(hx:H[x]?=some (some o))(h:VR fm w L v (.ref x 0 m)):
  (∃g es' cap,L x= .cells g es' cap)\/ ∃b,L x= .nil b:=by
 generalize ha:AV.ref x 0 m=a at h
 cases h with
 |refAt g es cap a off len h hl=>simp_all
 |refNil A a b h hA=>simp_all
 |refDead A c a off len h hl=>
  injection ha with h1;subst h1
  have:=hr.obj x o hx
  rw[h]at this;trivial
 |_=>cases ha
theorem Yox{env:Env}{H:Heap}{b x es t m n:Nat}{el:List (List AV)}(hx:H[x]?=some (some ⟨es,el⟩))(ht:YtM env t= .ref x 0 m):
  Wk ⟨env,H,b⟩ ⟨env,H.set x (some ⟨es,el.take n⟩),b⟩:=by
 intro fm n0 w0 L0 a w hs
 obtain⟨h1,h2,h3,L,h4,h5,h6,h7⟩:=hs
 have:=h7 t
 simp only[ht]at this
 exact⟨h1,h2,h3,L,h4,h5,YiL n h6 hx (YiM h6 hx this),h7⟩
theorem Yoy{env:Env}{H:Heap}{b x es y k j m n:Nat}{el:List (List AV)}{e:List AV}(hx:H[x]?=some (some ⟨es,el⟩))(hy:H[y]?=some (some ⟨k,[e]⟩))(hj:e[j]?=some (.ref x 0 m)):
  Wk ⟨env,H,b⟩ ⟨env,H.set x (some ⟨es,el.take n⟩),b⟩:=by
 intro fm n0 w0 L0 a w hs
 obtain⟨h1,h2,h3,L,h4,h5,h6,h7⟩:=hs
 have nov: ∀{v:Value},(∀A b c,v≠ .slice A b c)-> ¬VR fm w L v (.ref x 0 m):=fun hv hr=>by
  generalize ha:AV.ref x 0 m=a at hr
  cases hr with
  |refAt g es cap a off len h hl=>simp_all
  |refNil A a b h hA=>simp_all
  |refDead A c a off len h hl=>simp_all
  |_=>cases ha
 refine⟨h1,h2,h3,L,h4,h5,YiL n h6 hx ?_,h7⟩
 have hob:=h6.obj y _ hy
 revert hob
 cases hL:L y with
 |fresh=>intro h;cases h
 |dead=>intro h;cases h
 |hid g=>intro h;cases h
 |nil=>intro g1;cases g1.1
 |cells g es' cap=>
  rintro⟨g0,g1,g2,g3,g4,cur,ty,g5,g6,g7⟩
  exact YiM h6 hx (g7 0 e j _ rfl hj).2
 |mp i g=>
  cases i with
  |false=>
   rintro⟨g0,es',clock,c0,R,tags,g1,g2,g3,g4,g5,g6⟩
   injection g2 with g2;subst g2
   cases j with
   |zero=>simp_all
   |succ j=>cases j with
    |zero=>simp_all
    |succ j=>
     have:=g4 _ (YwQ (show tags[j]?=some _ from hj))
     trivial
  |true=>
   rintro⟨g0,a0,s,t,S,tag,g',since,seen,stepped,g1,g2,g3,g4,g5,g6,g7⟩
   grind
theorem YiN{X:YtI}{pl:Pl}{H:Heap}(hr:HRel Fr H0 X pl H){b x m:Nat}{c:Cs}{l:List c.den}{el:List (List AV)}(hb:vget X b=some (.sq c l))(hp:pl (.m b)=some x)(hx:H[x]?=some (some ⟨c.width,el⟩))(hw:0<c.width)(hrow:Rows el c l):
  HRel Fr H0 (vset X b none++[some (.sq c (l.take m))]) (plS (plS pl (.m b) none) (.m X.length) (some x)) (H.set x (some ⟨c.width,el.take m⟩))/\
   Ext X pl (vset X b none++[some (.sq c (l.take m))]) (plS (plS pl (.m b) none) (.m X.length) (some x)):=by
 have hbl:=Yab hb
 have hxl:=(YwP.1 hx).1
 have hXl:(vset X b none).length=X.length:=Yac _ _ _
 have hgn:vget (vset X b none++[some (.sq c (l.take m))]) X.length=some (.sq c (l.take m)):=by
  have:=Yal (vset X b none) (some (.sq c (l.take m)));simp_all
 have hgb0:vget (vset X b none++[some (.sq c (l.take m))]) b=none:=by
  rw[Yap (by omega)];exact Yam _ hbl
 have hgb: ∀d,d≠b->d≠X.length->vget (vset X b none++[some (.sq c (l.take m))]) d=vget X d:=fun d h1 h2=>by
  by_cases hd:d<X.length
  ·rw[Yap (by omega),Yak _ (Ne.symm h1)]
  ·rw[Yar (by grind),Yar (by omega)]
 have hps:plS (plS pl (.m b) none) (.m X.length) (some x) (.m X.length)=some x:=by unfold plS;simp
 have hpb:plS (plS pl (.m b) none) (.m X.length) (some x) (.m b)=none:=by
  unfold plS;grind
 have hpn: ∀p:Pos,p≠ .m X.length->p≠ .m b->plS (plS pl (.m b) none) (.m X.length) (some x) p=pl p:=fun p h h'=>by unfold plS;simp_all
 have hxt:Ext X pl (vset X b none++[some (.sq c (l.take m))]) (plS (plS pl (.m b) none) (.m X.length) (some x)):=by
  refine⟨by grind,fun d hd=> ?_⟩
  have hdn:d≠X.length:=by omega
  by_cases e1:d=b
  ·simp_all
  ·rw[hgb d e1 hdn]
   cases h:vget X d with
   |none=>simp
   |some o1=>exact .inr ⟨o1,o1,rfl,rfl,rfl,rfl,hpn _ (fun e=>by simp_all) (fun e=>by simp_all),rfl,fun hd' c' v' h' l' e=>⟨hd',v',h',l',e,.inr ⟨rfl,fun h=>⟨h,rfl,fun i=>⟨rfl,hpn _ (fun e=>by cases e) (fun e=>by cases e)⟩⟩⟩⟩⟩
 refine⟨hr.build (fun d=>d=b\/d=X.length) hxt (fun d hd=>hgb d (fun e=>hd (.inl e)) (fun e=>hd (.inr e)))
  (fun p hd=>hpn p (fun e=>by subst e;exact hd (.inr rfl)) (fun e=>by subst e;exact hd (.inl rfl)))
  (fun p z hd hz=>by rw[YwV (fun e=>hd (by subst e;have:=hr.inj _ _ _ hz hp;subst this;exact .inl rfl))])
  (fun d ob hd hob=> ?_) (fun p z hd hz=> ?_) (fun p z hd hz=> ?_) (fun p q z hd hd' hz hz'=> ?_) (fun z hz=> ?_) (by simp),hxt⟩
 ·rcases hd with rfl|rfl
  ·simp_all
  ·rw[hgn]at hob;injection hob with hob;subst hob
   refine⟨x,el.take m,hps,by simp_all,hw,by simp[hrow.1],fun i e v h1 h2=> ?_⟩
   rw[Yw8]at h1 h2
   split at h1
   ·rename_i hi;rw[if_pos hi]at h2;exact hrow.2 i e v h1 h2
   trivial
 ·by_cases e1:p= .m X.length
  ·subst e1;exact⟨_,hgn⟩
  ·by_cases e2:p= .m b
   ·simp_all
   ·rw[hpn p e1 e2]at hz
    rcases hd with hd|hd
    ·exact absurd (Yih hr hb hz hd) e2
    ·have:=hr.dead (p:=p) (by rw[hd];exact Yar (Yxs _))
     simp_all
 ·by_cases e1:p= .m X.length
  ·subst e1;rw[hps]at hz;injection hz with hz;subst hz;exact .inl ⟨.m b,hp,.inl rfl⟩
  grind
 ·have key: ∀(p q:Pos) (z:Nat),p≠ .m X.length->q= .m X.length->plS (plS pl (.m b) none) (.m X.length) (some x) p=some z->plS (plS pl (.m b) none) (.m X.length) (some x) q=some z->False:=by
   intro p q z h1 h2 h3 h4
   subst h2;rw[hps]at h4;injection h4 with h4;subst h4
   by_cases e2:p= .m b
   ·simp_all
   ·rw[hpn p h1 e2]at h3;exact e2 (hr.inj _ _ _ h3 hp)
  by_cases e1:p= .m X.length<;>by_cases e2:q= .m X.length
  ·simp_all
  ·grind
  ·grind
  ·by_cases e3:p= .m b
   ·simp_all
   ·by_cases e4:q= .m b
    ·simp_all
    ·rw[hpn p e1 e3]at hz;rw[hpn q e2 e4]at hz';exact hr.inj _ _ _ hz hz'
 ·rw[YwV (fun e=>hr.nfr _ _ hp (by simp_all))]
theorem Yoz{X:YtI}{pl:Pl}{H:Heap}(hr:HRel Fr H0 X pl H){a j y:Nat}{cs:List TV}{e:List AV}{v:TV}{av:AV}(ha:vget X a=some (.st cs))(hp:pl (.m a)=some y)(hy:H[y]?=some (some ⟨cs.length,[e]⟩))(hct:CT X pl cs e)
  (hj:e[j]?=some av) (hv: ∀{X'},Ext X pl X' pl->TR X' pl v av):HRel Fr H0 (vset X a (some (.st (cs.set j v)))) pl H/\Ext X pl (vset X a (some (.st (cs.set j v)))) pl:=by
 have hal:=Yab ha
 have hga:vget (vset X a (some (.st (cs.set j v)))) a=some (.st (cs.set j v)):=Yam _ hal
 have hgb: ∀b,b≠a->vget (vset X a (some (.st (cs.set j v)))) b=vget X b:=fun b h1=>Yak _ (Ne.symm h1)
 have hxt:Ext X pl (vset X a (some (.st (cs.set j v)))) pl:=by
  refine⟨by rw[Yac];omega,fun b hb=> ?_⟩
  by_cases e1:b=a
  ·subst e1;exact .inr ⟨_,_,ha,hga,rfl,rfl,rfl,rfl,fun hd c v h l e=>by cases e⟩
  ·rw[hgb b e1]
   cases h:vget X b with
   |none=>simp
   |some o1=>grind
 have h0:0<cs.length:=by rw[hct.1];grind
 refine⟨hr.build (fun b=>b=a) hxt (fun b hb=>hgb b hb) (fun _ _=>rfl) (fun _ _ _ _=>rfl) (fun b ob hb hob=> ?_) (fun p z hb hz=> ?_) (fun p z hb hz=>.inl ⟨p,hz,hb⟩) (fun p q z _ _ h1 h2=>hr.inj _ _ _ h1 h2) (fun _ _=>rfl) (Yxs _),hxt⟩
 ·subst hb
  rw[hga]at hob;injection hob with hob;subst hob
  refine⟨y,e,hp,by simp_all,by simp_all,by simp[hct.1],fun i c q g1 g2=> ?_⟩
  by_cases ei:i=j
  ·grind
  ·rw[YwV (Ne.symm ei)]at g1
   exact(hct.2 i c q g1 g2).ext hxt
 ·have hl:=hr.own p z hz
  cases p with
  |m b=>simp only[Pos.of]at hb;subst hb;exact⟨_,hga⟩
  |n b i=>simp only[Pos.of]at hb;subst hb;obtain⟨hd,c,v,h,l,k,_⟩:=hl;simp_all
theorem YoA{X:YtI}{pl:Pl}{H:Heap}(hr:HRel Fr H0 X pl H){a:Nat}{A:Cs}{c:Cs}{ver:Nat}{hole:Option Nat}{l:List (sn c A).den}(ha:vget X a=some (.fm (.rw A true) c ver hole l)):
  HRel Fr H0 (vset X a (some (.fm (.rw A false) c ver hole l))) pl H/\Ext X pl (vset X a (some (.fm (.rw A false) c ver hole l))) pl:=by
 have hal:=Yab ha
 have hga:vget (vset X a (some (.fm (.rw A false) c ver hole l))) a=some (.fm (.rw A false) c ver hole l):=Yam _ hal
 have hgb: ∀b,b≠a->vget (vset X a (some (.fm (.rw A false) c ver hole l))) b=vget X b:=fun b h1=>Yak _ (Ne.symm h1)
 have hxt:Ext X pl (vset X a (some (.fm (.rw A false) c ver hole l))) pl:=by
  refine⟨by rw[Yac];omega,fun b hb=> ?_⟩
  by_cases e1:b=a
  ·subst e1
   refine .inr ⟨_,_,ha,hga,rfl,rfl,rfl,rfl,fun hd1 c1 v1 h1 l1 e=> ?_⟩
   injection e with e0 e1 e2 e3 e4
   subst e0;subst e1;subst e2;subst e3
   have e4:=eq_of_heq e4;subst e4
   exact⟨_,_,_,_,rfl,.inr ⟨rfl,fun h=>⟨h,rfl,fun i=>⟨rfl,rfl⟩⟩⟩⟩
  ·rw[hgb b e1]
   cases h:vget X b with
   |none=>simp
   |some o=>exact .inr ⟨o,o,rfl,rfl,rfl,rfl,rfl,rfl,fun hd' c' v' h' l' e=>⟨hd',v',h',l',e,.inr ⟨rfl,fun h=>⟨h,rfl,fun j=>⟨rfl,rfl⟩⟩⟩⟩⟩
 refine⟨hr.build (fun b=>b=a) hxt (fun b hb=>hgb b hb) (fun _ _=>rfl) (fun _ _ _ _=>rfl) (fun b ob hb hob=> ?_) (fun p z hb hz=> ?_) (fun p z hb hz=>.inl ⟨p,hz,hb⟩) (fun p q z _ _ h1 h2=>hr.inj _ _ _ h1 h2) (fun _ _=>rfl) (Yxs _),hxt⟩
 ·subst hb
  rw[hga]at hob;injection hob with hob;subst hob
  obtain⟨x,el,h1,h2,h3,h4,h6⟩:=hr.obj _ _ ha
  refine⟨x,el,h1,h2,h3,h4,fun i e v k1 k2=> ?_⟩
  obtain⟨d,r,q1,q2,q3⟩:=h6 i e v k1 k2
  refine⟨d,r,q1,q2,fun k3=> ?_⟩
  rcases q3 k3 with q| ⟨q,_⟩
  ·exact .inl q
  ·cases q
 ·rcases Ybd hr ha hz hb with rfl| ⟨j,rfl,k1,k2⟩
  ·exact⟨_,hga⟩
  ·exact⟨_,_,_,_,_,hga,k1,k2⟩
theorem YaG{base:Nat}: ∀{ws:List (Nat×Option Nat×Bool)} {s:VSt} {pl:Pl} {st:ASt},st.base=base->ERel s.heap pl s.env st.env->HRel Fr H0 s.heap pl st.heap->
  ∃st' pl',Wk st st'/\st'.base=base/\ERel (ownV ws s).heap pl' (ownV ws s).env st'.env/\HRel Fr H0 (ownV ws s).heap pl' st'.heap/\s.heap.length<=(ownV ws s).heap.length/\ ∀i,i<s.heap.length-> ∀x,pl' (.m i)=some x->pl (.m i)=some x
 | [],s,pl,st,hb,he,hr=>⟨st,pl,.refl _,hb,he,hr,Yxs _,fun _ _ _ h=>h⟩
 | (t,some j,w)::r,s,pl,st,hb0,he,hr=>by
   have hb:=hb0
   obtain⟨env,X⟩:=s
   obtain⟨ae,H,b0⟩:=st
   have rest:=YaG (ws:=r) (s:=⟨env,X⟩) (st:=⟨ae,H,b0⟩) hb he hr
   have step: ∀{a:Nat} {cs:List TV} {c0:Cs} (o:VObj) (es:Nat),vget X a=some (.st cs)->((cs[j]?=some (.e c0)/\0<es)\/cs[j]?=some (.v (.slice none 0 0)))->lenO o=some 0->
     (∀{X':YtI} {pl':Pl} {H':Heap},pl' (.m X.length)=some H.length->(∀i,pl' (.n X.length i)=none)->H'[H.length]?=some (some ⟨es,[]⟩)->OR X' pl' H' X.length o)->
     ∃st' pl',Wk ⟨ae,H,b0⟩ st'/\st'.base=base/\ERel (ownV r ⟨env,vset X a (some (.st (cs.set j (.ref X.length))))++[some o]⟩).heap pl' (ownV r ⟨env,vset X a (some (.st (cs.set j (.ref X.length))))++[some o]⟩).env st'.env/\HRel Fr H0 (ownV r ⟨env,vset X a (some (.st (cs.set j (.ref X.length))))++[some o]⟩).heap pl' st'.heap/\X.length<=(ownV r ⟨env,vset X a (some (.st (cs.set j (.ref X.length))))++[some o]⟩).heap.length/\ ∀i,i<X.length-> ∀x,pl' (.m i)=some x->pl (.m i)=some x:=by
    intro a cs c0 o es ha hj ho hor
    obtain⟨x,e,e1,e2,e3,e4⟩:=hr.obj a _ ha
    obtain⟨av,h1,hes,hjl⟩: ∃av,e[j]?=some av/\ ((av= .emp/\0<es)\/av= .v (.slice none 0 0))/\j<cs.length:=by
     rcases hj with⟨hj,hes⟩|hj
     ·obtain⟨av,h1,h2⟩:=e4.get hj
      cases h2
      grind
     ·obtain⟨av,h1,h2⟩:=e4.get hj
      cases h2
      grind
    obtain⟨k1,k2⟩:=Yov hr ha e1 e2 e4 e3 hjl ho hor
    obtain⟨st',pl',g1,g2,g3,g4,g5,g6⟩:=YaG (ws:=r) (s:=⟨env,vset X a (some (.st (cs.set j (.ref X.length))))++[some o]⟩) (st:=⟨ae,H.set x (some ⟨cs.length,[e.set j (.ref H.length 0 0)]⟩)++[some ⟨es,[]⟩],b0⟩) hb (he.ext k2) k1
    have hlx:X.length+1=(vset X a (some (.st (cs.set j (.ref X.length))))++[some o]).length:=by simp[Yac]
    simp only at g5 g6
    exact⟨st',pl',(You e2 h1 hes).trans g1,g2,g3,g4,by omega,fun i hi z hz=>by
     have:=g6 i (by omega) z hz
     unfold plS at this;grind⟩
   unfold ownV
   simp only
   split
   ·split
    ·rename_i a _ _ _ _ cs ha
     split
     ·rename_i c hj
      cases hw:Yxu 0 c.width with
      |false=>trivial
      |true=>
       rw[cond_true]
       have hw':0<c.width:=by simp_all
       exact step (.sq c []) c.width ha (.inl ⟨hj,hw'⟩) rfl (fun h1 _ h3=>⟨H.length,[],h1,h3,hw',rfl,fun i e v h=>by simp⟩)
     ·rename_i c0 hj
      split
      ·rename_i A c hun
       cases hw:Yxu 0 c.width with
       |false=>exact rest
       |true=>
        rw[cond_true]
        have hw':0<c.width:=by simp_all
        exact step (.fm (.rw A true) c 0 none []) (A.width+1) ha (.inl ⟨hj,by omega⟩) rfl (fun h1 _ h3=>⟨H.length,[],h1,h3,hw',rfl,fun i e v h=>by simp at h⟩)
      ·exact rest
     ·rename_i hj
      exact step (c0:=.nil) (.sb (YxW #[])) 0 ha (.inr hj) rfl (fun h1 _ h3=>⟨H.length,h1,by rw[show strA (YxW #[])=[] by simp[strA,Ya0]];exact h3⟩)
     ·rename_i b n hj
      split
      ·rename_i c l hb
       obtain⟨y,e,e1,e2,e3,e4⟩:=hr.obj a _ ha
       obtain⟨x,el,d1,d2,d3,d4⟩:=hr.obj b _ hb
       obtain⟨av,h1,h2⟩:=e4.get hj
       cases h2 with
       |preD _ _ _ h _ _=>simp_all
       |pre _ x' _ o n' h hn hp h0 hm=>
        rw[hb]at h;injection h with h;subst h
        rw[d1]at hp;injection hp with hp;subst hp
        injection hn with hn;subst hn
        obtain⟨k1,k2⟩:=YiN (m:=n.toNat) hr hb d1 d2 d3 d4
        have hab:a≠b:=fun e=>by simp_all
        have hal:=Yab ha
        have hbl:=Yab hb
        have hXl:(vset X b none).length=X.length:=Yac _ _ _
        have hga:vget (vset X b none++[some (.sq c (l.take n.toNat))]) a=some (.st cs):=by
         rw[Yap (by omega),Yak _ (Ne.symm hab)];exact ha
        have hgn:vget (vset X b none++[some (.sq c (l.take n.toNat))]) X.length=some (.sq c (l.take n.toNat)):=by
         have:=Yal (vset X b none) (some (.sq c (l.take n.toNat)));simp_all
        have hpa:plS (plS pl (.m b) none) (.m X.length) (some x) (.m a)=some y:=by
         unfold plS;grind
        have hxy:x≠y:=fun e=>by subst e;have:=hr.inj _ _ _ d1 e1;simp_all
        obtain⟨f1,f2⟩:=Yoz (j:=j) (v:=.ref X.length) k1 hga hpa (by simp_all) (e4.ext k2) h1 (fun{X'} hx=>by
         refine TR.ext hx ?_
         have:=TR.ref (X:=vset X b none++[some (.sq c (l.take n.toNat))]) (pl:=plS (plS pl (.m b) none) (.m X.length) (some x)) X.length x _ _ hgn rfl (by unfold plS;simp)
         simp_all)
        obtain⟨st',pl',g1,g2,g3,g4,g5,g6⟩:=YaG (ws:=r) (s:=⟨env,vset (vset X b none++[some (.sq c (l.take n.toNat))]) a (some (.st (cs.set j (.ref X.length))))⟩) (st:=⟨ae,H.set x (some ⟨c.width,el.take n.toNat⟩),b0⟩) hb0 ((he.ext k2).ext f2) f1
        have hlx:X.length+1=(vset (vset X b none++[some (.sq c (l.take n.toNat))]) a (some (.st (cs.set j (.ref X.length))))).length:=by simp[Yac]
        simp only at g5 g6
        exact⟨st',pl',(Yoy d2 e2 h1).trans g1,g2,g3,g4,by omega,fun i hi z hz=>by
         have:=g6 i (by omega) z hz
         unfold plS at this;grind⟩
      trivial
     trivial
    trivial
   ·rename_i a hva
    split
    ·rename_i A c v h l hoa
     obtain⟨f1,f2⟩:=YoA hr hoa
     obtain⟨st',pl',g1,g2,g3,g4,g5,g6⟩:=YaG (ws:=r) (s:=⟨env,vset X a (some (.fm (.rw A false) c v h l))⟩) (st:=⟨ae,H,b0⟩) hb (he.ext f2) f1
     rw[show(VSt.heap ⟨env,vset X a (some (.fm (.rw A false) c v h l))⟩).length=X.length from Yac _ _ _]at g5 g6
     exact⟨st',pl',g1,g2,g3,g4,g5,g6⟩
    ·obtain⟨q1,q2,q3,q4⟩:=YiK he hr a
     obtain⟨st',pl',g1,g2,g3,g4,g5,g6⟩:=YaG (ws:=r) (s:=rnV a ⟨env,X⟩) (st:=⟨ae,H,b0⟩) hb q1 q2
     grind
   trivial
 | (t,none,w)::r,s,pl,st,hb,he,hr=>by
   obtain⟨env,X⟩:=s
   obtain⟨ae,H,b0⟩:=st
   have step: ∀(o:VObj) (es:Nat),0<es->YtM ae t= .emp->lenO o=some 0->(Ext X pl (X++[some o]) (plS pl (.m X.length) (some H.length))->OR (X++[some o]) (plS pl (.m X.length) (some H.length)) (H++[some ⟨es,[]⟩]) X.length o)->
     ∃st' pl',Wk ⟨ae,H,b0⟩ st'/\st'.base=base/\ERel (ownV r ⟨(t,.ref X.length)::env,X++[some o]⟩).heap pl' (ownV r ⟨(t,.ref X.length)::env,X++[some o]⟩).env st'.env/\HRel Fr H0 (ownV r ⟨(t,.ref X.length)::env,X++[some o]⟩).heap pl' st'.heap/\X.length<=(ownV r ⟨(t,.ref X.length)::env,X++[some o]⟩).heap.length/\ ∀i,i<X.length-> ∀x,pl' (.m i)=some x->pl (.m i)=some x:=by
    intro o es hes hl ho hor
    obtain⟨k1,k2⟩:=Yas hr o ⟨es,[]⟩ hor
    have hE:ERel (X++[some o]) (plS pl (.m X.length) (some H.length)) ((t,.ref X.length)::env) ((t,.ref H.length 0 0)::ae):=by
     intro t'
     simp only[YtT,YtM]
     have e0:(t==t')=Yxr t t':=by rw[YxN,beq_iff_eq,Nat.beq_eq]
     rw[e0]
     cases Yxr t t' with
     |true=>exact .ref X.length H.length o 0 (Yal _ _) ho (by unfold plS;simp)
     |false=>exact(he t').ext k2
    obtain⟨st',pl',h1,h2,h3,h4,g5,g6⟩:=YaG (ws:=r) (s:=⟨(t,.ref X.length)::env,X++[some o]⟩) (st:=⟨(t,.ref H.length 0 0)::ae,H++[some ⟨es,[]⟩],b0⟩) hb hE k1
    simp only[Yxl,Yxe,List.length_nil]at g5 g6
    exact⟨st',pl',(Ynq hl hes).trans h1,h2,h3,h4,by omega,fun i hi z hz=>by
     have:=g6 i (by omega) z hz
     unfold plS at this;grind⟩
   have rest:=fun(he':ERel X pl env ae)=>YaG (ws:=r) (s:=⟨env,X⟩) (st:=⟨ae,H,b0⟩) hb he' hr
   have ht:=he t
   unfold ownV
   simp only at ht⊢
   cases hbig:Yxu 999999 t with
   |true=>
    rw[cond_true]
    obtain⟨q1,q2,q3,q4⟩:=YiK he hr (Nat.sub t 1000000)
    obtain⟨st',pl',g1,g2,g3,g4,g5,g6⟩:=YaG (ws:=r) (s:=rnV (Nat.sub t 1000000) ⟨env,X⟩) (st:=⟨ae,H,b0⟩) hb q1 q2
    grind
   |false=>
   rw[cond_false]
   split
   ·rename_i c hv
    rw[hv]at ht
    cases hw:Yxu 0 c.width with
    |false=>simp_all
    |true=>
     rw[cond_true]
     have hw':0<c.width:=by simp_all
     generalize hl:YtM ae t=av at ht
     cases ht
     exact step (.sq c []) c.width hw' hl rfl (fun _=>⟨H.length,[],by unfold plS;simp,by simp,hw',rfl,fun i e v h=>by simp⟩)
   ·rename_i c0 hv
    rw[hv]at ht
    split
    ·rename_i A c hun
     cases hw:Yxu 0 c.width with
     |false=>exact rest he
     |true=>
      rw[cond_true]
      have hw':0<c.width:=by simp_all
      generalize hl:YtM ae t=av at ht
      cases ht
      exact step (.fm (.rw A true) c 0 none []) (A.width+1) (by omega) hl rfl (fun _=>⟨H.length,[],by unfold plS;simp,by simp[Yb3],hw',rfl,fun i e v h=>by simp at h⟩)
    ·exact rest he
   ·rename_i a n hv
    rw[hv]at ht
    split
    ·rename_i c l hb'
     obtain⟨x,el,d1,d2,d3,d4⟩:=hr.obj a _ hb'
     generalize hl:YtM ae t=av at ht
     cases ht with
     |preD _ _ _ h _ _=>simp_all
     |pre _ x' _ o n' h hn hp h0 hm=>
      rw[hb']at h;injection h with h;subst h
      rw[d1]at hp;injection hp with hp;subst hp
      injection hn with hn;subst hn
      obtain⟨k1,k2⟩:=YiN (m:=n.toNat) hr hb' d1 d2 d3 d4
      have hXl:(vset X a none).length=X.length:=Yac _ _ _
      have hgn:vget (vset X a none++[some (.sq c (l.take n.toNat))]) X.length=some (.sq c (l.take n.toNat)):=by
       have:=Yal (vset X a none) (some (.sq c (l.take n.toNat)));simp_all
      have hE:ERel (vset X a none++[some (.sq c (l.take n.toNat))]) (plS (plS pl (.m a) none) (.m X.length) (some x)) ((t,.ref X.length)::env) ae:=by
       intro t'
       simp only[YtT]
       cases e:Yxr t t' with
       |true=>
        have:=Yxt e;subst this
        rw[cond_true,hl]
        have:=TR.ref (X:=vset X a none++[some (.sq c (l.take n.toNat))]) (pl:=plS (plS pl (.m a) none) (.m X.length) (some x)) X.length x _ _ hgn rfl (by unfold plS;simp)
        simp_all
       |false=>exact(he t').ext k2
      have hbl:=Yab hb'
      obtain⟨st',pl',g1,g2,g3,g4,g5,g6⟩:=YaG (ws:=r) (s:=⟨(t,.ref X.length)::env,vset X a none++[some (.sq c (l.take n.toNat))]⟩) (st:=⟨ae,H.set x (some ⟨c.width,el.take n.toNat⟩),b0⟩) hb hE k1
      simp only[Yxl,Yxe,List.length_nil,hXl]at g5 g6
      exact⟨st',pl',(Yox d2 hl).trans g1,g2,g3,g4,by omega,fun i hi z hz=>by
       have:=g6 i (by omega) z hz
       unfold plS at this;grind⟩
    simp_all
   simp_all
end
end Go.Abs
namespace Go.Abs
open Go Go.RowKit
mutual
inductive RefIn(A:Nat->Prop):AV->Prop
 |ref (a off len:Nat) (h:A a):RefIn A (.ref a off len)
 |ptr (a i j:Nat) (h:A a):RefIn A (.ptr a i j)
 |np (a:Nat) (h:A a):RefIn A (.np a)
 |v (x:Value):RefIn A (.v x)
 |u:RefIn A .u
 |emp:RefIn A .emp
 |rd (es:Nat) (l:List (List AV)) (h: ∀e∈l,∀x∈e,RefIn A x):RefIn A (.rd es l)
 |rp (cs:List AV) (h: ∀x∈cs,RefIn A x):RefIn A (.rp cs)
 |agg (cs:List AV) (h: ∀x∈cs,RefIn A x):RefIn A (.agg cs)
 |tup (cs:List AV) (h: ∀x∈cs,RefIn A x):RefIn A (.tup cs)
 |clo (f:Nat) (cs:List AV) (h: ∀x∈cs,RefIn A x):RefIn A (.clo f cs)
 |er:RefIn A .er
end
theorem YdY{A:Nat->Prop}{a:AV}(h:NR a):RefIn A a:=by
 induction h with
 |v x=>exact .v x
 |u=>exact .u
 |emp=>exact .emp
 |rd es l h ih=>exact .rd es l ih
 |rp cs h ih=>exact .rp cs ih
 |agg cs h ih=>exact .agg cs ih
 |tup cs h ih=>exact .tup cs ih
 |clo f cs h ih=>exact .clo f cs ih
 |er=>exact .er
theorem YiO{A B:Nat->Prop}(hAB: ∀x,A x->B x){a:AV}(h:RefIn A a):RefIn B a:=by
 induction h with
 |ref a off len h=>exact .ref a off len (hAB a h)
 |ptr a i j h=>exact .ptr a i j (hAB a h)
 |np a h=>exact .np a (hAB a h)
 |v x=>exact .v x
 |u=>exact .u
 |emp=>exact .emp
 |rd es l h ih=>exact .rd es l ih
 |rp cs h ih=>exact .rp cs ih
 |agg cs h ih=>exact .agg cs ih
 |tup cs h ih=>exact .tup cs ih
 |clo f cs h ih=>exact .clo f cs ih
 |er=>exact .er
theorem Yfv{ρ:Nat->Nat}{Fz:Nat->Prop}{H H':HF}{A:Nat->Prop}(hA: ∀x,A x->ρ x=x/\ ∃o,H' x=some (some o)){a:AV}(h:RefIn A a):Cz ρ Fz H H' a a:=by
 have list: ∀{cs:List AV},(∀x∈cs,Cz ρ Fz H H' x x)-> ∀(j:Nat) (x x':AV),cs[j]?=some x->cs[j]?=some x'->Cz ρ Fz H H' x x':=by
  grind
 induction h with
 |ref a off len h=>
  obtain⟨h1,o,h2⟩:=hA a h
  have:=Cz.ref (ρ:=ρ) (Fz:=Fz) (H:=H) (H':=H') a off len o h2
  simp_all
 |ptr a i j h=>
  obtain⟨h1,o,h2⟩:=hA a h
  have:=Cz.ptr (ρ:=ρ) (Fz:=Fz) (H:=H) (H':=H') a i j o h2
  simp_all
 |np a h=>
  obtain⟨h1,o,h2⟩:=hA a h
  have:=Cz.np (ρ:=ρ) (Fz:=Fz) (H:=H) (H':=H') a o h2
  simp_all
 |v x=>exact .v x
 |u=>exact .u _
 |emp=>exact .emp
 |rd es l h ih=>
  refine .rd es l l rfl (fun i e e' h1 h2=>by simp_all) (fun i e e' j x x' h1 h2 h3 h4=> ?_)
  grind
 |rp cs h ih=>exact .rp cs cs rfl (list ih)
 |agg cs h ih=>exact .agg cs cs rfl (list ih)
 |tup cs h ih=>exact .tup cs cs rfl (list ih)
 |clo f cs h ih=>exact .clo f cs cs rfl (list ih)
 |er=>exact .er
def FrOK(Fr:Nat->Prop)(H:Heap):Prop:= ∀x,Fr x->(∃o,H[x]?=some (some o))/\ ∀o,H[x]?=some (some o)-> ∀e∈o.el,∀c∈e,RefIn Fr c
theorem YcZ{P:TV->AV->AV->Prop}: ∀(cs:List TV) (as:List AV),cs.length=as.length->(∀(j:Nat) (c:TV) (a:AV),cs[j]?=some c->as[j]?=some a-> ∃a',P c a a')->
  ∃as':List AV,as'.length=as.length/\ ∀(j:Nat) (c:TV) (a a':AV),cs[j]?=some c->as[j]?=some a->as'[j]?=some a'->P c a a'
 | [],[],_,_=>⟨[],rfl,fun j c a a' h=>by simp⟩
 |c::cs,a::as,hl,h=>by
  obtain⟨as',h1,h2⟩:=YcZ cs as (by simp_all) (fun j c a k1 k2=>h (j+1) c a k1 k2)
  obtain⟨a',h3⟩:=h 0 c a rfl rfl
  refine⟨a'::as',by grind,fun j c1 a1 a2 k1 k2 k3=> ?_⟩
  grind
 | [],_::_,hl,_=>by trivial
 |_::_,[],hl,_=>by trivial
theorem Ybo(X:YtI)(F:List Nat): ∀l:List TV,Yvp X F l=l.map (frzA X F)
 | []=>rfl
 |a::r=>by simp[Yvp,Ybo X F r]
theorem YiP(X:YtI): ∀F:List Nat,(Yvh X F).length=X.length
 | []=>rfl
 |a::r=>by simp only[Yvh];rw[Yac,YiP X r]
theorem YiQ(X:YtI): ∀(F:List Nat) (a:Nat),vget (Yvh X F) a=if a∈F then none else vget X a
 | [],a=>by rfl
 |b::r,a=>by
  simp only[Yvh]
  by_cases e:b=a
  ·subst e
   rw[if_pos (Yw6 ..)]
   by_cases hb:b< (Yvh X r).length
   ·exact Yam _ hb
   ·exact Yar (by rw[Yac];omega)
  ·rw[Yak _ e,YiQ X r a]
   grind
theorem any_mem{F:List Nat}{a:Nat}:F.any (Yxr a)=true↔a∈F:=by
 simp
theorem YoB{ρ:Nat->Nat}{Fz:Nat->Prop}{H H1 H2:HF}(hl: ∀a o,H1 a=some (some o)-> ∃o',H2 a=some (some o')){a b:AV}(h:Cz ρ Fz H H1 a b):Cz ρ Fz H H2 a b:=by
 induction h with
 |u a=>exact .u a
 |v x=>exact .v x
 |emp=>exact .emp
 |empRd es=>exact .empRd es
 |rd es l l' hl hz h ih=>exact .rd es l l' hl hz ih
 |rp cs cs' hl h ih=>exact .rp cs cs' hl ih
 |agg cs cs' hl h ih=>exact .agg cs cs' hl ih
 |tup cs cs' hl h ih=>exact .tup cs cs' hl ih
 |clo f cs cs' hl h ih=>exact .clo f cs cs' hl ih
 |ref a off len o h=>obtain⟨o',h'⟩:=hl a o h;exact .ref a off len o' h'
 |ptr a i j o h=>obtain⟨o',h'⟩:=hl a o h;exact .ptr a i j o' h'
 |np a o h=>obtain⟨o',h'⟩:=hl a o h;exact .np a o' h'
 |er=>exact .er
 |frz i off len o l' hz ho hle hl hlz h ih=>exact .frz i off len o l' hz ho hle hl hlz ih
section
variable{Fr:Nat->Prop}{H0:Heap}{X:YtI}{pl:Pl}{H:Heap}{F:List Nat}
abbrev frzX(X:YtI)(F:List Nat):YtI:=Yvh (X.map (frzO X F)) F
def plF(pl:Pl)(F:List Nat):Pl:=fun p=>if p.of∈F then none else pl p
theorem Ybp(a:Nat):vget (frzX X F) a=if a∈F then none else frzO X F (vget X a):=by
 rw[YiQ,YdW _ rfl]
theorem Yca:(frzX X F).length=X.length:=by rw[YiP];simp
theorem YiR{el:List (List AV)}{c:Cs}{l:List c.den}(h:Rows el c l){Fz:Nat->Prop}{h0 h1:HF}{k:Nat}(hk:k<=l.length):
  (∀(i:Nat) (e e':List AV),el[0+i]?=some e->((l.take k).map c.enc)[i]?=some e'->e.length=e'.length)/\
  (∀(i:Nat) (e e':List AV) (j:Nat) (x x':AV),el[0+i]?=some e->((l.take k).map c.enc)[i]?=some e'->e[j]?=some x->e'[j]?=some x'->Cz id Fz h0 h1 x x'):=by
 have key: ∀{i:Nat} {e e':List AV},el[0+i]?=some e->((l.take k).map c.enc)[i]?=some e'-> ∃v,CC e (c.enc v)/\e'=c.enc v:=by
  intro i e e' h1 h2
  rw[YwR,YxE]at h2
  obtain⟨v,h2,rfl⟩:=h2
  rw[Yw8]at h2
  split at h2
  ·rw[Yxx]at h1;exact⟨v,h.2 i e v h1 h2,rfl⟩
  trivial
 refine⟨fun i e e' h1 h2=> ?_,fun i e e' j x x' h1 h2 h3 h4=> ?_⟩
 ·obtain⟨v,hv,rfl⟩:=key h1 h2;exact hv.1
 ·obtain⟨v,hv,rfl⟩:=key h1 h2
  exact YaY (hv.2 j x x' h3 h4) (YaL c v x' (YwQ h4))
theorem YdZ{Fz:Nat->Prop}{h1:HF}{a x:Nat}{c:Cs}{l:List c.den}(hr:HRel Fr H0 X pl H)(ho:vget X a=some (.sq c l))(hp:pl (.m a)=some x)(hz:Fz x){k:Nat}(hk:k<=l.length):
  Cz id Fz (hf H) h1 (.ref x 0 k) (.rd c.width ((l.take k).map c.enc)):=by
 obtain⟨x',el,e1,e2,e3,e4⟩:=hr.obj a _ ho
 rw[hp]at e1;injection e1 with e1;subst e1
 have:=YiR (Fz:=Fz) (h0:=hf H) (h1:=h1) e4 hk
 have:=Cz.frz (ρ:=id) (Fz:=Fz) (H:=hf H) (H':=h1) x 0 k ⟨c.width,el⟩ _ hz e2 (by simp[e4.1];omega) (by simp_all) this.1 this.2
 rwa[show wd (AObj.es ⟨c.width,el⟩)=c.width from Yay e3]at this
theorem YiS{el:List (List AV)}{c:Cs}{l:List c.den}(h:Rows el c l){Fz:Nat->Prop}{h0 h1:HF}{x:Nat}{o:AObj}(ho:h0 x=some (some o))(he:o.el=el)(hw:wd o.es=c.width)(hz:Fz x):
  Cz id Fz h0 h1 (.ref x 0 l.length) (.rd c.width (l.map c.enc)):=by
 have:=YiR (Fz:=Fz) (h0:=h0) (h1:=h1) h (k:=l.length) (Yxs _)
 rw[Yxo]at this
 subst he
 rw[<-hw]
 exact .frz x 0 l.length o _ hz ho (by rw[h.1];omega) (by simp) this.1 this.2
theorem YiT{Fz:Nat->Prop}{h1:HF}{a x:Nat}{s:ByteArray}(hr:HRel Fr H0 X pl H)(ho:vget X a=some (.sb s))(hp:pl (.m a)=some x)(hz:Fz x):
  Cz id Fz (hf H) h1 (.ref x 0 s.size) (.rd U8.width ((strL s).map U8.enc)):=by
 obtain⟨x',e1,e2⟩:=hr.obj a _ ho
 rw[hp]at e1;injection e1 with e1;subst e1
 have hL:(strL s).length=s.size:=by rw[<-(YaM s).1];exact strA_len' s
 rw[<-hL]
 exact YiS (YaM s).rows e2 rfl rfl hz
theorem YoC(hr:HRel Fr H0 X pl H){a:Nat}{s:ByteArray}(ha:vget X a=some (.sb s)){p:Pos}{x:Nat}(hp:pl p=some x)(hpa:p.of=a):p= .m a:=by
 have:=hr.own p x hp
 cases p with
 |m b=>simp only[Pos.of]at hpa;rw[hpa]
 |n b i=>
  simp only[Pos.of]at hpa;subst hpa
  obtain⟨hd',c',v,h,l',k,_⟩:=this
  simp_all
theorem Yd0{Fz:Nat->Prop}{h1:HF}{a x:Nat}{A:Cs}{nn:Bool}{c:Cs}{ver:Nat}{l:List (sn c A).den}(hr:HRel Fr H0 X pl H)(ho:vget X a=some (.fm (.rw A nn) c ver none l))(hp:pl (.m a)=some x)(hz: ∀p y,p.of=a->pl p=some y->Fz y){k:Nat}(hk:k<=l.length):
  Cz id Fz (hf H) h1 (.ref x 0 k) (.rd (sn c A).width ((l.take k).map (sn c A).enc)):=by
 obtain⟨x',el,e1,e2,e3,e4,e6⟩:=hr.obj a _ ho
 rw[hp]at e1;injection e1 with e1;subst e1
 have key: ∀{i:Nat} {e e':List AV},el[0+i]?=some e->((l.take k).map (sn c A).enc)[i]?=some e'->e.length=e'.length/\ ∀(j:Nat) (z z':AV),e[j]?=some z->e'[j]?=some z'->Cz id Fz (hf H) h1 z z':=by
  intro i e e' k1 k2
  rw[YwR,YxE]at k2
  obtain⟨v,k2,rfl⟩:=k2
  rw[Yw8]at k2
  split at k2
  ·rw[Yxx]at k1
   obtain⟨d,r,rfl,q2,q3⟩:=YaT (e6 i e v k1 k2) (by simp)
   rw[Yh8]
   have hdl:=q2.1
   refine⟨by simp only[Yxl,Yxn];rw[hdl],fun j z z' h1' h2'=> ?_⟩
   by_cases hj:j<d.length
   ·rw[YwU hj]at h1'
    rw[YwU (by rw[<-hdl];exact hj)]at h2'
    exact YaY (q2.2 j z z' h1' h2') (YaL A _ z' (YwQ h2'))
   ·rw[Yw0 (by omega)]at h1'
    rw[Yw0 (by rw[<-hdl];omega),<-hdl]at h2'
    have hj0:j-d.length=0:=by
     have:=(YwP.1 h1').1
     simp at this;omega
    rw[hj0]at h1' h2'
    injection h1' with h1';injection h2' with h2';subst h1';subst h2'
    rcases q3 with⟨y,el',g1,g2,g3,g4⟩| ⟨g0,g1,g2,g3⟩
    ·rw[g2]
     exact YiS (o:=⟨c.width,el'⟩) g4 g3 rfl (Yay e3) (hz _ y rfl g1)
    ·rw[g3,show ow c A v=[]from g2];exact .empRd _
  ·cases k2
 rw[<-show wd (A.width+1)=(sn c A).width by rw[Yh7];exact Yay (by omega)]
 exact .frz x 0 k ⟨A.width+1,el⟩ _ (hz _ x rfl hp) e2 (by show 0+k<=el.length;rw[e4];omega) (by simp[Nat.min_eq_left hk]) (fun i e e' k1 k2=>(key k1 k2).1) (fun i e e' j z z' k1 k2 k3 k4=>(key k1 k2).2 j z z' k3 k4)
theorem YiU(hr:HRel Fr H0 X pl H){a x:Nat}{hd:Hd}{c:Cs}{ver:Nat}{l:List (sn c hd.A).den}(hX:vget X a=some (.fm hd c ver none l))(hp:pl (.m a)=some x){ob:AObj}(hH:H[x]?=some (some ob)):
  ∀e∈ob.el,∀z∈e,RefIn (fun y=> ∃i,pl (.n a i)=some y) z:=by
 obtain⟨x',el,e1,e2,e3,e4,e6⟩:=hr.obj a _ hX
 rw[hp]at e1;injection e1 with e1;subst e1
 rw[hH]at e2;injection e2 with e2;injection e2 with e2;subst e2
 have key: ∀e∈el,∀z∈e,RefIn (fun y=> ∃i,pl (.n a i)=some y) z:=by
  intro e he z hz
  obtain⟨i,hi⟩:=YwW.1 he
  have hil:i<l.length:=by rw[<-e4];exact(YwP.1 hi).1
  obtain⟨d,r,rfl,q2,q3⟩:=YaT (e6 i e l[i] hi (YwO hil)) (by simp)
  rcases Yxi.1 hz with hz|hz
  ·obtain⟨j,hj⟩:=YwW.1 hz
   obtain⟨z',hz'⟩:=Yai q2.1.symm hj
   exact YdY (YbV (q2.2 j z z' hj hz') (YaL hd.A _ z' (YwQ hz')))
  ·simp only[Yxf]at hz;subst hz
   rcases q3 with⟨y,el',g1,g2,_⟩| ⟨_,_,_,g3⟩
   ·rw[g2];exact .ref _ _ _ ⟨i,g1⟩
   ·rw[g3];exact .emp
 cases hd with
 |rw A nn=>exact key
 |mp o n=>
  intro e he z hz
  simp only[Hd.obj,Yxf]at he;subst he
  simp only[Yw2,List.not_mem_nil,or_false]at hz
  rcases hz with rfl|rfl|rfl
  ·exact .v _
  ·exact .rd _ _ key
  ·exact .v _
theorem YiV(hr:HRel Fr H0 X pl H){a x k:Nat}{hd:Hd}{c:Cs}{ver:Nat}{hole:Option Nat}{l:List (sn c hd.A).den}(hX:vget X a=some (.fm hd c ver hole l))(hp:pl (.n a k)=some x):k<l.length/\hole≠some k/\ ∃el,H[x]?=some (some ⟨c.width,el⟩)/\Rows el c (owI hd c l k):=by
 rcases Ybd hr hX hp rfl with e| ⟨j,e,hk,hkh⟩
 ·cases e
 injection e with _ e;subst e
 obtain⟨x',el,e1,e2,e3,e4,e6⟩:=hr.obj a _ hX
 obtain⟨d,r,_,_,q⟩:=YaT (e6 k _ _ (YwO (by omega:k<el.length)) (YaA hk)) hkh
 rcases q with⟨y,el',g1,g2,g3,g4⟩| ⟨_,g1,_⟩
 ·rw[hp]at g1;injection g1 with g1;subst g1
  exact⟨hk,hkh,el',g3,g4⟩
 ·rw[hp]at g1;cases g1
theorem YiW(hr:HRel Fr H0 X pl H)(hF: ∀a∈F,Yvi X a=true){h1:HF}(hl: ∀p x,plF pl F p=some x-> ∃o,h1 x=some (some o)){tv:TV}{av:AV}(h:TR X pl tv av):
  ∃av',Cz id (fun x=> ∃p:Pos,p.of∈F/\pl p=some x) (hf H) h1 av av'/\TR (frzX X F) (plF pl F) (frzA X F tv) av':=by
 have hseq: ∀{a:Nat} {o:VObj},a∈F->vget X a=some o->(∃c l,o= .sq c l)\/(∃A nn c v l,o= .fm (.rw A nn) c v none l)\/ ∃s,o= .sb s:=by
  intro a o h1 h2
  have:=hF a h1
  unfold Yvi at this
  rw[h2]at this
  split at this
  ·rename_i e;injection e with e;exact .inl ⟨_,_,e⟩
  ·rename_i e;injection e with e;exact .inr (.inl ⟨_,_,_,_,_,e⟩)
  ·rename_i e;injection e with e;exact .inr (.inr ⟨_,e⟩)
  ·cases this
 have keep: ∀{a:Nat} {o:VObj},a∉F->vget X a=some o-> ∃o',vget (frzX X F) a=some o'/\lenO o'=lenO o/\elN o'=elN o:=by
  intro a o h1 h2
  rw[Ybp,if_neg h1,h2]
  cases o with
  |sq c l=>exact⟨_,rfl,rfl,rfl⟩
  |fm hd c v hole l=>exact⟨_,rfl,rfl,rfl⟩
  |st cs=>exact⟨_,rfl,rfl,rfl⟩
  |sb s=>exact⟨_,rfl,rfl,rfl⟩
 have dead: ∀{a:Nat},a∈F->vget (frzX X F) a=none:=fun h=>by rw[Ybp,if_pos h]
 have plk: ∀{p:Pos},p.of∉F->plF pl F p=pl p:=fun h=>by unfold plF;simp_all
 induction h with
 |i k n=>exact⟨_,.v _,.i k n⟩
 |b x=>exact⟨_,.v _,.b x⟩
 |s x=>exact⟨_,.v _,.s x⟩
 |l c v a h=>exact⟨.rd c.width (v.map c.enc),YaY h (YcL (.l c) v),.l c v _ (.refl _)⟩
 |e c=>exact⟨_,.emp,.e c⟩
 |u a=>exact⟨.u,.u _,.u _⟩
 |v x=>exact⟨_,.v _,.v x⟩
 |nl=>exact⟨_,.v _,.nl⟩
 |eft=>exact⟨_,.er,.eft⟩
 |eff=>exact⟨_,.v _,.eff⟩
 |ref a x o n h hn hp=>
  by_cases ha:a∈F
  ·have hm:F.any (Yxr a)=true:=any_mem.2 ha
   rcases hseq ha h with⟨c,l,rfl⟩| ⟨A,nn,c,v,l,rfl⟩| ⟨s,rfl⟩
   ·simp only[lenO]at hn;injection hn with hn;subst hn
    refine⟨_,YdZ hr h hp ⟨.m a,ha,hp⟩ (Yxs _),?_⟩
    simp only[frzA,frzT,hm,cond_true,h,Yxo]
    exact .l c l _ (.refl _)
   ·simp only[lenO]at hn;injection hn with hn;subst hn
    refine⟨_,Yd0 hr h hp (fun p y e e2=>⟨p,by simp_all,e2⟩) (Yxs _),?_⟩
    simp only[frzA,frzT,hm,cond_true,h,Yxo]
    exact .l (sn c A) l _ (.refl _)
   ·simp only[lenO]at hn;injection hn with hn;subst hn
    refine⟨_,YiT hr h hp ⟨.m a,ha,hp⟩,?_⟩
    simp only[frzA,frzT,hm,cond_true,h]
    exact .l U8 _ _ (.refl _)
  ·have hm:F.any (Yxr a)=false:=by
    cases hq:F.any (Yxr a)with
    |false=>rfl
    |true=>simp_all
   obtain⟨o',k1,k2,k3⟩:=keep ha h
   have hp':plF pl F (.m a)=some x:=(plk (p:=.m a) ha).trans hp
   obtain⟨q,hq⟩:=hl _ _ hp'
   refine⟨_,.ref x 0 n q hq,?_⟩
   simp only[frzA,frzT,hm,cond_false]
   exact .ref a x o' n k1 (k2.trans hn) hp'
 |refD a av h ha=>
  refine⟨.u,.u _,?_⟩
  have hnF:a∉F:=fun hm=>by have:=hF a hm;unfold Yvi at this;simp_all
  have hm:F.any (Yxr a)=false:=by
   cases hq:F.any (Yxr a)with
   |false=>rfl
   |true=>simp_all
  simp only[frzA,frzT,hm,cond_false]
  exact .refD a _ (by rw[Ybp,if_neg hnF,h];rfl) (by rw[Yca];exact ha)
 |pre a x m o n h hn hp h0 hm'=>
  by_cases ha:a∈F
  ·have hm:F.any (Yxr a)=true:=any_mem.2 ha
   rcases hseq ha h with⟨c,l,rfl⟩| ⟨A,nn,c,v,l,rfl⟩| ⟨s,rfl⟩
   ·simp only[lenO]at hn;injection hn with hn;subst hn
    refine⟨_,YdZ hr h hp ⟨.m a,ha,hp⟩ hm',?_⟩
    simp only[frzA,frzT,hm,cond_true,h]
    exact .l c _ _ (.refl _)
   ·simp only[lenO]at hn;injection hn with hn;subst hn
    refine⟨_,Yd0 hr h hp (fun p y e e2=>⟨p,by simp_all,e2⟩) hm',?_⟩
    simp only[frzA,frzT,hm,cond_true,h]
    exact .l (sn c A) _ _ (.refl _)
   ·refine⟨.u,.u _,?_⟩
    simp only[frzA,frzT,hm,cond_true,h]
    exact .u _
  ·have hm:F.any (Yxr a)=false:=by
    cases hq:F.any (Yxr a)with
    |false=>rfl
    |true=>simp_all
   obtain⟨o',k1,k2,k3⟩:=keep ha h
   have hp':plF pl F (.m a)=some x:=(plk (p:=.m a) ha).trans hp
   obtain⟨q,hq⟩:=hl _ _ hp'
   refine⟨_,.ref x 0 m.toNat q hq,?_⟩
   simp only[frzA,frzT,hm,cond_false,h]
   exact .pre a x m o' n k1 (k2.trans hn) hp' h0 hm'
 |preD a x m h ha h0=>
  refine⟨.u,.u _,?_⟩
  cases hq:F.any (Yxr a)<;>simp only[frzA,frzT,hq,cond_false,cond_true,h]<;>exact .u _
 |ptr a i j x o h hi hp=>
  by_cases ha:a∈F
  ·exact⟨.u,.u _,.ptrD a i j _ (dead ha) (by rw[Yca];exact Yab h)⟩
  ·obtain⟨o',k1,k2,k3⟩:=keep ha h
   have hp':plF pl F (.m a)=some x:=(plk (p:=.m a) ha).trans hp
   obtain⟨q,hq⟩:=hl _ _ hp'
   exact⟨_,.ptr x i j q hq,.ptr a i j x o' k1 (by omega) hp'⟩
 |ptrD a i j av h ha=>
  refine⟨.u,.u _,.ptrD a i j _ ?_ (by rw[Yca];exact ha)⟩
  rw[Ybp,h];split<;>rfl
 |np a x o h hp=>
  by_cases ha:a∈F
  ·exact⟨.u,.u _,.npD a _ (dead ha) (by rw[Yca];exact Yab h)⟩
  ·obtain⟨o',k1,k2,k3⟩:=keep ha h
   have hp':plF pl F (.m a)=some x:=(plk (p:=.m a) ha).trans hp
   obtain⟨q,hq⟩:=hl _ _ hp'
   exact⟨_,.np x q hq,.np a x o' k1 hp'⟩
 |npD a av h ha=>
  refine⟨.u,.u _,.npD a _ ?_ (by rw[Yca];exact ha)⟩
  rw[Ybp,h];split<;>rfl
 |sub=>exact⟨.u,.u _,.u _⟩
 |sube=>exact⟨.u,.u _,.u _⟩
 |subD=>exact⟨.u,.u _,.u _⟩
 |pti=>exact⟨.u,.u _,.u _⟩
 |ptiD=>exact⟨.u,.u _,.u _⟩
 |rp=>exact⟨.u,.u _,.u _⟩
 |lt=>exact⟨.u,.u _,.u _⟩
 |ag cs as hl' h ih=>
  obtain⟨as',k1,k2⟩:=YcZ cs as hl' ih
  refine⟨.agg as',.agg _ _ k1.symm (fun j x x' h1 h2=> ?_),?_⟩
  ·obtain⟨c,hc⟩:=Yai hl' h1
   grind
  ·simp only[frzA,Ybo]
   refine .ag _ _ (by simp_all) (fun j c a h1 h2=> ?_)
   grind
 |tp cs as hl' h ih=>
  obtain⟨as',k1,k2⟩:=YcZ cs as hl' ih
  refine⟨.tup as',.tup _ _ k1.symm (fun j x x' h1 h2=> ?_),?_⟩
  ·obtain⟨c,hc⟩:=Yai hl' h1
   grind
  ·simp only[frzA,Ybo]
   refine .tp _ _ (by simp_all) (fun j c a h1 h2=> ?_)
   grind
 |clo g cs as hl' h ih=>
  obtain⟨as',k1,k2⟩:=YcZ cs as hl' ih
  refine⟨.clo g as',.clo _ _ _ k1.symm (fun j x x' h1 h2=> ?_),?_⟩
  ·obtain⟨c,hc⟩:=Yai hl' h1
   grind
  ·simp only[frzA,Ybo]
   refine .clo g _ _ (by simp_all) (fun j c a h1 h2=> ?_)
   grind
def FrzS(X:YtI)(pl:Pl)(H:Heap)(F:List Nat)(h1:HF)(x:Nat)(o':AObj):Prop:=
 (∃a cs e e',a∉F/\vget X a=some (.st cs)/\pl (.m a)=some x/\H[x]?=some (some ⟨cs.length,[e]⟩)/\0<cs.length/\cs.length=e.length/\o'=⟨cs.length,[e']⟩/\e'.length=e.length/\
  ∀(j:Nat) (c:TV) (a1 a2:AV),cs[j]?=some c->e[j]?=some a1->e'[j]?=some a2->Cz id (fun x=> ∃p:Pos,p.of∈F/\pl p=some x) (hf H) h1 a1 a2/\TR (frzX X F) (plF pl F) (frzA X F c) a2)\/
 (∃p:Pos,p.of∉F/\pl p=some x/\ (∀a cs,p= .m a->vget X a≠some (.st cs))/\H[x]?=some (some o'))
theorem YoD{env:VEnv}{ae:Env}{b:Nat}(hFr:FrOK Fr H0)(he:ERel X pl env ae)(hr:HRel Fr H0 X pl H)(hF: ∀a∈F,Yvi X a=true)(hnh: ∀{a hd c v h l},vget X a=some (.fm hd c v h l)->h=none):
  ∃ae' H',Wk ⟨ae,H,b⟩ ⟨ae',H',b⟩/\ERel (frzX X F) (plF pl F) (env.map fun p=>(p.1,frzA X F p.2)) ae'/\HRel Fr H0 (frzX X F) (plF pl F) H':=by
 classical
 let h1:HF:=fun x=>if∃p,plF pl F p=some x then some (some ⟨1,[]⟩)else none
 have hl: ∀p x,plF pl F p=some x-> ∃o,h1 x=some (some o):=fun p x h=>⟨_,if_pos ⟨p,h⟩⟩
 have ex: ∀x,(∃p,plF pl F p=some x)-> ∃o',FrzS X pl H F h1 x o':=by
  rintro x ⟨p,hp⟩
  have hpF:p.of∉F/\pl p=some x:=by
   unfold plF at hp
   split at hp
   ·cases hp
   ·exact⟨by assumption,hp⟩
  obtain⟨o,ho⟩:=hr.lt hpF.2
  by_cases hs: ∃a cs,p= .m a/\vget X a=some (.st cs)
  ·obtain⟨a,cs,rfl,hX⟩:=hs
   obtain⟨x',e,e1,e2,e3,e4⟩:=hr.obj a _ hX
   rw[hpF.2]at e1;injection e1 with e1;subst e1
   obtain⟨e',k1,k2⟩:=YcZ (P:=fun c a1 a2=>Cz id (fun x=> ∃p:Pos,p.of∈F/\pl p=some x) (hf H) h1 a1 a2/\TR (frzX X F) (plF pl F) (frzA X F c) a2) cs e e4.1 (fun j c a g1 g2=>YiW hr hF hl (e4.2 j c a g1 g2))
   exact⟨_,.inl ⟨a,cs,e,e',hpF.1,hX,hpF.2,e2,e3,e4.1,rfl,k1,k2⟩⟩
  ·exact⟨o,.inr ⟨p,hpF.1,hpF.2,fun a cs e1 e2=>hs ⟨a,cs,e1,e2⟩,ho⟩⟩
 let obj:Nat->Option AObj:=fun x=>if Fr x then(H[x]?).join else if h: ∃p,plF pl F p=some x then some (Classical.choose (ex x h))else none
 let H':Heap:=(List.range H.length).map obj
 have hget: ∀{p x},plF pl F p=some x-> ∃o',H'[x]?=some (some o')/\FrzS X pl H F h1 x o':=by
  intro p x hp
  have hx: ∃p,plF pl F p=some x:=⟨p,hp⟩
  have hlt:x<H.length:=by
   unfold plF at hp
   split at hp
   ·cases hp
   ·exact hr.bd hp
  refine⟨Classical.choose (ex x hx),?_,Classical.choose_spec (ex x hx)⟩
  show((List.range H.length).map obj)[x]?=_
  rw[YwR,Yxb hlt]
  have hnf: ¬Fr x:=by
   unfold plF at hp
   split at hp
   ·cases hp
   ·exact hr.nfr _ _ hp
  simp only[YxF,obj,if_neg hnf,dif_pos hx]
 have hfrH: ∀{x},Fr x->H'[x]?=H[x]?:=by
  intro x hx
  have h1:=hr.fr x hx
  have hlt:x<H.length:=Yxw h1.1 hr.le
  obtain⟨⟨o,ho⟩,_⟩:=hFr x hx
  show((List.range H.length).map obj)[x]?=_
  rw[YwR,Yxb hlt]
  simp only[YxF,obj,if_pos hx,h1.2,ho,Option.join_some]
 have hinv: ∀{x o'},H'[x]?=some (some o')-> ¬Fr x->(∃p,plF pl F p=some x)/\FrzS X pl H F h1 x o':=by
  intro x o' h hnf
  have hlt:x<H.length:=by have:=(YwP.1 h).1;simpa[H']using this
  have h':obj x=some o':=by
   have:((List.range H.length).map obj)[x]?=some (some o'):=h
   rw[YwR,Yxb hlt]at this
   simpa using this
  simp only[obj,if_neg hnf]at h'
  split at h'
  ·rename_i hx;injection h' with h';subst h';exact⟨hx,Classical.choose_spec (ex x hx)⟩
  ·cases h'
 have hlen:H'.length=H.length:=by simp[H']
 have hlive: ∀a o,h1 a=some (some o)-> ∃o',hf H' a=some (some o'):=by
  intro a o h
  simp only[h1]at h
  split at h
  ·rename_i hp;obtain⟨p,hp⟩:=hp;obtain⟨o',h2,_⟩:=hget hp;exact⟨o',h2⟩
  ·cases h
 have hp2: ∀{p:Pos} {x},plF pl F p=some x->p.of∉F/\pl p=some x:=by
  intro p x hp
  unfold plF at hp
  split at hp
  ·cases hp
  ·exact⟨by assumption,hp⟩
 have hsame: ∀{p:Pos} {x},plF pl F p=some x->(∀a cs,p= .m a->vget X a≠some (.st cs))->H'[x]?=H[x]?:=by
  intro p x hp hns
  obtain⟨o',k1,k2⟩:=hget hp
  rcases k2 with⟨a,cs,e,e',_,hX,hpa,_⟩| ⟨q,_,_,_,hH⟩
  ·have:=hr.inj _ _ _ (hp2 hp).2 hpa
   exact absurd hX (hns a cs this)
  ·rw[k1,hH]
 have hcell: ∀{a:Nat} {o:VObj},(∀cs,o≠ .st cs)->vget X a=some o-> ∀{x:Nat} {ob:AObj},(∃p:Pos,p.of=a/\pl p=some x)->H[x]?=some (some ob)->a∉F->
   ∀e∈ob.el,∀z∈e,Cz id (fun x=> ∃p:Pos,p.of∈F/\pl p=some x) (hf H) (hf H') z z:=by
  rintro a o hns hX x ob ⟨p,hpa,hp⟩ hH haF e he z hz
  obtain⟨i,hi⟩:=YwW.1 he
  have hil:=(YwP.1 hi).1
  have hrow: ∀{el:List (List AV)} {c:Cs} {l:List c.den},Rows el c l->el[i]?=some e->Cz id (fun x=> ∃p:Pos,p.of∈F/\pl p=some x) (hf H) (hf H') z z:=by
   intro el c l hrw h1
   have hil:=(YwP.1 h1).1
   have hil2:i<l.length:=by rw[<-hrw.1];exact hil
   have hcc:=hrw.2 i e l[i] h1 (YwO hil2)
   obtain⟨j,hj⟩:=YwW.1 hz
   obtain⟨z',hz'⟩:=Yai hcc.1.symm hj
   exact YhZ (YbV (hcc.2 j z z' hj hz') (YaL c _ z' (YwQ hz')))
  cases o with
  |st cs=>exact absurd rfl (hns cs)
  |sb s=>
   have:=YoC hr hX hp hpa;subst this
   obtain⟨x',e1,e2⟩:=hr.obj a _ hX
   rw[hp]at e1;injection e1 with e1;subst e1
   rw[hH]at e2;injection e2 with e2;injection e2 with e2;subst e2
   exact hrow (YaM s).rows hi
  |sq c l=>
   have:=Yih hr hX hp hpa;subst this
   obtain⟨x',el,e1,e2,e3,e4⟩:=hr.obj a _ hX
   rw[hp]at e1;injection e1 with e1;subst e1
   rw[hH]at e2;injection e2 with e2;injection e2 with e2;subst e2
   exact hrow e4 hi
  |fm hd c ver hole l=>
   have hh:=hnh hX
   subst hh
   rcases Ybd hr hX hp hpa with rfl| ⟨k,rfl,hk,hkh⟩
   ·refine Yfv (fun y hy=> ?_) (YiU hr hX hp hH e he z hz)
    obtain⟨i,hi⟩:=hy
    obtain⟨q,hq,_⟩:=hget (p:=.n a i) (x:=y) ((if_neg haF).trans hi)
    exact⟨rfl,q,hq⟩
   ·obtain⟨_,_,el',g3,g4⟩:=YiV hr hX hp
    rw[hH]at g3;injection g3 with g3;injection g3 with g3;subst g3
    exact hrow g4 hi
 have hczl: ∀{a b},Cz id (fun x=> ∃p:Pos,p.of∈F/\pl p=some x) (hf H) h1 a b->Cz id (fun x=> ∃p:Pos,p.of∈F/\pl p=some x) (hf H) (hf H') a b:=fun h=>YoB hlive h
 have hHR:HRel (fun _=>False) [] (frzX X F) (plF pl F) H':=by
  refine⟨fun a o h2=> ?_,fun p q x k1 k2=>hr.inj _ _ _ (hp2 k1).2 (hp2 k2).2,fun p x k1=> ?_,fun x h=>h.elim,fun _ _ _ h=>h,Yxz _⟩
  ·rw[Ybp]at h2
   split at h2
   ·cases h2
   ·rename_i haF
    cases hX:vget X a with
    |none=>rw[hX]at h2;cases h2
    |some o0=>
     rw[hX]at h2
     have hpl: ∀p:Pos,p.of=a->plF pl F p=pl p:=fun p e=>by unfold plF;rw[if_neg (by rw[e];exact haF)]
     have hob:=hr.obj a o0 hX
     cases o0 with
     |sb s=>
      simp only[frzO]at h2;injection h2 with h2;subst h2
      obtain⟨x,e1,e2⟩:=hob
      exact⟨x,(hpl _ rfl).trans e1,(hsame ((hpl _ rfl).trans e1) (fun a' cs e=>by injection e with e;subst e;rw[hX];simp)).trans e2⟩
     |sq c l=>
      simp only[frzO]at h2;injection h2 with h2;subst h2
      obtain⟨x,el,e1,e2,e3,e4⟩:=hob
      exact⟨x,el,(hpl _ rfl).trans e1,(hsame ((hpl _ rfl).trans e1) (fun a' cs e=>by injection e with e;subst e;rw[hX];simp)).trans e2,e3,e4⟩
     |fm hd c v hole l=>
      simp only[frzO]at h2;injection h2 with h2;subst h2
      obtain⟨x,el,e1,e2,e3,e4,e6⟩:=hob
      refine⟨x,el,(hpl _ rfl).trans e1,(hsame ((hpl _ rfl).trans e1) (fun a' cs e=>by injection e with e;subst e;rw[hX];simp)).trans e2,e3,e4,fun i e v' k1 k2=> ?_⟩
      obtain⟨d,r,q1,q2,q3⟩:=e6 i e v' k1 k2
      refine⟨d,r,q1,q2,fun k3=> ?_⟩
      rcases q3 k3 with⟨y,el',g1,g2,g3,g4⟩| ⟨g0,g1,g2,g3⟩
      ·exact .inl ⟨y,el',(hpl _ rfl).trans g1,g2,(hsame ((hpl _ rfl).trans g1) (fun a' cs e=>by cases e)).trans g3,g4⟩
      ·exact .inr ⟨g0,(hpl _ rfl).trans g1,g2,g3⟩
     |st cs=>
      simp only[frzO]at h2;injection h2 with h2;subst h2
      obtain⟨x,e,e1,e2,e3,e4⟩:=hob
      obtain⟨o',k1,k2⟩:=hget ((hpl (.m a) rfl).trans e1)
      rcases k2 with⟨a',cs',e0,e',q1,q2,q3,q4,q5,q6,q7,q8,q9⟩| ⟨p,q1,q2,q3,_⟩
      ·have:=hr.inj _ _ _ e1 q3;injection this with this;subst this
       rw[hX]at q2;injection q2 with q2;injection q2 with q2;subst q2
       refine⟨x,e',(hpl _ rfl).trans e1,by rw[k1,q7];simp[Ybo],by simpa[Ybo]using e3,by simp[Ybo,q8,q6],fun j c a2 g1 g2=> ?_⟩
       rw[Ybo,YwR,YxE]at g1
       obtain⟨y,g1,rfl⟩:=g1
       obtain⟨z,hz⟩:=Yai (l:=e0) q8.symm g2
       exact(q9 j y z a2 g1 hz g2).2
      ·have:=hr.inj _ _ _ e1 q2;subst this;exact absurd hX (q3 a cs rfl)
  ·obtain⟨k2,k3⟩:=hp2 k1
   have:=hr.own p x k3
   cases p with
   |m a=>
    obtain⟨o,ho⟩:=this
    have:frzO X F (some o)=some (match frzO X F (some o)with|some o'=>o'|none=>o):=by cases o<;>rfl
    exact⟨_,by rw[Ybp,if_neg (show¬a∈F from k2),ho];exact this⟩
   |n a i=>
    obtain⟨hd,c,v,h,l,ho,k⟩:=this
    exact⟨hd,c,v,h,l,by rw[Ybp,if_neg (show¬a∈F from k2),ho];rfl,k⟩
 have henv: ∀env':VEnv,(∃ae',∀t,(∃a,YtT env' t=a)->Cz id (fun x=> ∃p:Pos,p.of∈F/\pl p=some x) (hf H) (hf H') (YtM ae t) (YtM ae' t)/\TR (frzX X F) (plF pl F) (YtT (env'.map fun p=>(p.1,frzA X F p.2)) t) (YtM ae' t))\/ ¬ERel X pl env' ae:=by
  intro env'
  by_cases hE:ERel X pl env' ae
  ·refine .inl ?_
   have hch: ∀t,∃av',Cz id (fun x=> ∃p:Pos,p.of∈F/\pl p=some x) (hf H) h1 (YtM ae t) av'/\TR (frzX X F) (plF pl F) (frzA X F (YtT env' t)) av':=fun t=>YiW hr hF hl (hE t)
   refine⟨(env'.map (·.1)).map fun t=>(t,Classical.choose (hch t)),fun t _=> ?_⟩
   have hl1: ∀ts:List Nat,YtM (ts.map fun t=>(t,Classical.choose (hch t))) t=if t∈ts then Classical.choose (hch t)else .u:=by
    intro ts
    induction ts with
    |nil=>rfl
    |cons s ts ih=>
     simp only[YwS,YtM]
     by_cases e:s=t
     ·subst e;simp
     ·have:(s==t)=false:=by simp[e]
      rw[this,cond_false,ih];simp[Ne.symm e]
   have hl2: ∀en:VEnv,YtT (en.map fun p=>(p.1,frzA X F p.2)) t=if t∈en.map (·.1)then frzA X F (YtT en t)else .u:=by
    intro en
    induction en with
    |nil=>rfl
    |cons s en ih=>
     obtain⟨s,v⟩:=s
     simp only[YwS,YtT]
     cases hb:Yxr s t with
     |true=>have:=Yxt hb;subst this;simp
     |false=>
      have hne:t≠s:=fun e=>by subst e;rw[Nat.beq_refl]at hb;cases hb
      rw[cond_false,cond_false,ih];simp[hne]
   rw[hl1,hl2]
   split
   ·exact⟨hczl (Classical.choose_spec (hch t)).1,(Classical.choose_spec (hch t)).2⟩
   ·exact⟨.u _,.u _⟩
  ·exact .inr hE
 obtain⟨ae',hae⟩:=(henv env).resolve_right (fun h=>h he)
 refine⟨ae',H',?_,fun t=>(hae t ⟨_,rfl⟩).2,⟨hHR.obj,hHR.inj,hHR.own,fun x h=>⟨(hr.fr x h).1,(hfrH h).trans (hr.fr x h).2⟩,fun p x h=>hr.nfr p x (hp2 h).2,by rw[hlen];exact hr.le⟩⟩
 refine Yni id (fun x=> ∃p:Pos,p.of∈F/\pl p=some x) ⟨fun a b _ _ _ _ h=>h,fun a _=>⟨rfl,fun h=> ?_⟩,fun x o' hx=> ?_⟩ rfl (fun t=>(hae t ⟨_,rfl⟩).1)
 ·simp only[hf]at h⊢
  intro hn
  rw[List.getElem?_eq_none_iff,hlen]at hn
  exact h (Yw7 hn)
 ·by_cases hfx:Fr x
  ·have hx':H'[x]?=some (some o'):=hx
   rw[hfrH hfx]at hx'
   refine⟨fun⟨q,q1,q2⟩=>hr.nfr q x q2 hfx,o',hx',rfl,rfl,fun i e e' k1 k2=> ?_⟩
   rw[k1]at k2;injection k2 with k2;subst k2
   refine⟨rfl,fun j z z' h3 h4=> ?_⟩
   rw[h3]at h4;injection h4 with h4;subst h4
   refine Yfv (A:=Fr) (fun y hy=> ?_) ((hFr x hfx).2 o' ((hr.fr x hfx).2.symm.trans hx') e (YwQ k1) z (YwQ h3))
   obtain⟨⟨o,ho⟩,_⟩:=hFr y hy
   exact⟨rfl,o,(hfrH hy).trans ((hr.fr y hy).2.trans ho)⟩
  obtain⟨⟨p,hp⟩,hS⟩:=hinv hx hfx
  obtain⟨g1,g2⟩:=hp2 hp
  refine⟨fun⟨q,q1,q2⟩=>by have:=hr.inj _ _ _ g2 q2;subst this;exact g1 q1,?_⟩
  rcases hS with⟨a,cs,e,e',q1,q2,q3,q4,q5,q6,q7,q8,q9⟩| ⟨q,q1,q2,q3,q4⟩
  ·refine⟨_,q4,by rw[q7],by rw[q7];rfl,fun i e1 e2 k1 k2=> ?_⟩
   rw[q7]at k2
   cases i with
   |succ i=>simp at k1
   |zero=>
    simp at k1 k2;subst k1;subst k2
    refine⟨q8.symm,fun j z z' h3 h4=> ?_⟩
    obtain⟨c,hc⟩:=Yai (l:=cs) q6 h3
    exact hczl (q9 j c z z' hc h3 h4).1
  ·refine⟨o',q4,rfl,rfl,fun i e1 e2 k1 k2=> ?_⟩
   rw[k1]at k2;injection k2 with k2;subst k2
   refine⟨rfl,fun j z z' h3 h4=> ?_⟩
   rw[h3]at h4;injection h4 with h4;subst h4
   have hlv:=hr.own q x q2
   have: ∃o,vget X q.of=some o/\ ∀cs,o≠ .st cs:=by
    cases q with
    |m a=>obtain⟨o,ho⟩:=hlv;exact⟨o,ho,fun cs e=>q3 a cs rfl (by rw[ho,e])⟩
    |n a i=>obtain⟨hd,c,v,h,l,ho,_⟩:=hlv;exact⟨_,ho,fun cs e=>by cases e⟩
   obtain⟨o,ho,hns⟩:=this
   exact hcell hns ho ⟨q,rfl,q2⟩ q4 q1 e1 (YwQ k1) z (YwQ h3)
end
end Go.Abs
namespace Go.Abs
open Go Go.RowKit
mutual
def avT:TV->AV
 | .i k n=>.v (.int k n)
 | .b x=>.v (.bool x)
 | .s x=>.v (.string x)
 | .l c v=>.rd c.width (v.map c.enc)
 | .ag x=>.agg (avTs x)
 | .tp x=>.tup (avTs x)
 | .clo g x=>.clo g (avTs x)
 | .ef x=>efA x
 |_=>.u
def avTs:List TV->List AV
 | []=>[]
 |a::r=>avT a::avTs r
end
theorem YbN: ∀l:List TV,avTs l=l.map avT
 | []=>rfl
 |a::r=>by simp[avTs,YbN r]
mutual
theorem Yfw: ∀v:TV,NR (avT v)
 | .i _ _| .b _| .s _=>.v _
 | .l c v=>YcL (.l c) v
 | .ag x=>.agg _ (fun a h=>Ycb x a h)
 | .tp x=>.tup _ (fun a h=>Ycb x a h)
 | .clo g x=>.clo g _ (fun a h=>Ycb x a h)
 | .ef x=>by cases x;exact .v _;exact .er
 | .e _| .u| .v _| .nl| .ref _| .pre _ _| .sub _ _ _| .ptr _ _ _| .np _| .pti _ _ _ _ _| .rp _| .lt _=>.u
theorem Ycb: ∀(l:List TV) (a:AV),a∈avTs l->NR a
 | [],a,h=>by simp[avTs]at h
 |v::r,a,h=>by
  simp only[avTs,Yw2]at h
  rcases h with rfl|h
  ·exact Yfw v
  ·exact Ycb r a h
end
section
variable{Fr:Nat->Prop}{H0:Heap}{X:YtI}{pl:Pl}{H:Heap}
theorem Yfx{P:AV->AV->Prop}{cs:List TV}{as:List AV}(hl:cs.length=as.length)(h: ∀(j:Nat) (c:TV) (a:AV),cs[j]?=some c->as[j]?=some a->P a (avT c)):
  as.length=(avTs cs).length/\ ∀(j:Nat) (x x':AV),as[j]?=some x->(avTs cs)[j]?=some x'->P x x':=by
 refine⟨by simp[YbN,hl],fun j x x' h1 h2=> ?_⟩
 rw[YbN,YwR,YxE]at h2
 grind
theorem Yd1{l:List TV}(h:YtZ l=true): ∀(j:Nat) (c:TV),l[j]?=some c->YuI c=true:=by
 induction l with
 |nil=>simp
 |cons a r ih=>
  simp only[YtZ,YxL]at h
  grind
theorem YiX{v:TV}{a:AV}(h:TR X pl v a):YuI v=true->Coe a (avT v):=by
 induction h with
 |i k n=>exact fun _=>.refl _
 |b x=>exact fun _=>.refl _
 |eft=>exact fun _=>.refl _
 |eff=>exact fun _=>.refl _
 |s x=>exact fun _=>.refl _
 |l c v a h=>exact fun _=>h
 |ag cs as hl h ih=>
  intro hd
  have:=Yfx (P:=Coe) hl (fun j c a h1 h2=>ih j c a h1 h2 (Yd1 hd j c h1))
  exact .agg _ _ this.1 this.2
 |tp cs as hl h ih=>
  intro hd
  have:=Yfx (P:=Coe) hl (fun j c a h1 h2=>ih j c a h1 h2 (Yd1 hd j c h1))
  exact .tup _ _ this.1 this.2
 |clo g cs as hl h ih=>
  intro hd
  have:=Yfx (P:=Coe) hl (fun j c a h1 h2=>ih j c a h1 h2 (Yd1 hd j c h1))
  exact .clo g _ _ this.1 this.2
 |_=>intro hd;cases hd
mutual
theorem Yfy: ∀v:TV,YuI v=true->TR X pl v (avT v)
 | .i _ _,_=>.i _ _
 | .b _,_=>.b _
 | .ef _,_=>.ef _
 | .s _,_=>.s _
 | .l c v,_=>.l c v _ (.refl _)
 | .ag x,h=>by have:=Yc0 x h;exact .ag _ _ this.1 this.2
 | .tp x,h=>by have:=Yc0 x h;exact .tp _ _ this.1 this.2
 | .clo g x,h=>by have:=Yc0 x h;exact .clo g _ _ this.1 this.2
 | .e _,h| .u,h| .v _,h| .nl,h| .ref _,h| .pre _ _,h| .sub _ _ _,h| .ptr _ _ _,h| .np _,h| .pti _ _ _ _ _,h| .rp _,h| .lt _,h=>by cases h
theorem Yc0: ∀l:List TV,YtZ l=true->CT X pl l (avTs l)
 | [],_=>.nil
 |a::r,h=>by
  simp only[YtZ,YxL]at h
  exact .cons (Yfy a h.1) (Yc0 r h.2)
end
def FnE.R(e:FnE)(args:List AV)(r:AV):Prop:=
 ∃x y vs v,e.F x=some y/\e.args.read vs []=some x/\YtZ vs=true/\args=avTs vs/\YtU e.res (unp e.co y)=some (v,[])/\YuI v=true/\r=avT v
structure TOKP(T:Tabs)(C:Ctx):Prop where
 pf:C.pf=T.pf
 fn: ∀e∈T.fs,T.pf e.g=true-> ∀args r,e.R args r->C.C e.g args [] r []
def Ywr:SV->Bool
 | .i _| .b| .s=>true
 |_=>false
theorem YwH{sv:SV}{l r:List Lf}{v:TV}(hs:Ywr sv=true)(h:YtU sv l=some (v,r)): ∃x,avT v= .v x:=by
 cases sv with
 |i k=>
  cases l with
  |nil=>trivial
  |cons f fs=>
   obtain⟨t,z⟩:=f
   cases t with
   |i k'=>
    obtain⟨_,h3⟩:=Yaa h
    injection h3 with h3;injection h3 with h3 _;subst h3;exact⟨_,rfl⟩
   |_=>trivial
 |b=>
  cases l with
  |nil=>trivial
  |cons f fs=>
   obtain⟨t,z⟩:=f
   cases t with
   |b=>
    have h3:some (TV.b z,fs)=some (v,r):=by trivial
    injection h3 with h3;injection h3 with h3 _;subst h3;exact⟨_,rfl⟩
   |_=>trivial
 |s=>
  cases l with
  |nil=>trivial
  |cons f fs=>
   obtain⟨t,z⟩:=f
   cases t with
   |s=>
    have h3:some (TV.s z,fs)=some (v,r):=by trivial
    injection h3 with h3;injection h3 with h3 _;subst h3;exact⟨_,rfl⟩
   |_=>trivial
 |_=>cases hs
theorem YoE{sv:SV}{l r:List Lf}{v:TV}(hs:YwC sv=true)(h:YtU sv l=some (v,r)):Scal (avT v):=by
 have one:Ywr sv=true->Scal (avT v):=fun h1=>by
  obtain⟨x,hx⟩:=YwH h1 h
  rw[hx];exact .v x
 cases sv with
 |i k=>exact one rfl
 |b=>exact one rfl
 |s=>exact one rfl
 |tp l'=>
  have key: ∀(ss:List SV) (l r:List Lf) (vs:List TV),(∀y∈ss,Ywr y=true)->Yt9 ss l=some (vs,r)-> ∀a∈avTs vs,∃x,a= .v x:=by
   intro ss
   induction ss with
   |nil=>intro l r vs _ h;injection h with h;injection h with h _;subst h;intro a ha;trivial
   |cons y ss ih=>
    intro l r vs hs h
    simp only[Yt9]at h
    split at h
    ·rename_i x r1 h1
     split at h
     ·rename_i xs r2 h2
      injection h with h;injection h with h _;subst h
      intro a ha
      simp only[avTs,Yw2]at ha
      rcases ha with rfl|ha
      ·exact YwH (hs y (Yw6 ..)) h1
      grind
     trivial
    trivial
  simp only[YtU]at h
  split at h
  ·rename_i vs r1 h1
   injection h with h;injection h with h _;subst h
   exact .tup _ (key l' l r1 vs (fun y hs'=>Yw1.1 (show l'.all _=true from hs) y hs') h1)
  trivial
 |_=>cases hs
theorem YiY(hr:HRel Fr H0 X pl H){v w:TV}{a:AV}(h:ldT X v=some w)(ht:TR X pl v a): ∃b,Bor1 (hf H) a b/\TR X pl w b:=by
 cases v<;>try trivial
 case ref x=>
  simp only[ldT]at h
  split at h
  ·rename_i c l ho
   injection h with h;subst h
   obtain⟨y,n,rfl,hp,hn⟩:=Yan ho ht
   injection hn with hn;subst hn
   obtain⟨y',el,e1,e2,e3,e4⟩:=hr.obj x _ ho
   rw[hp]at e1;injection e1 with e1;subst e1
   refine⟨_,.inr ⟨y,0,l.length,⟨c.width,el⟩,rfl,e2,by simp[e4.1],rfl⟩,.l c l _ ?_⟩
   simp only[List.drop_zero,Yay e3]
   rw[<-e4.1,Yxo];exact YcU e4
  ·rename_i s ho
   injection h with h;subst h
   obtain⟨y,n,rfl,hp,hn⟩:=Yan ho ht
   injection hn with hn;subst hn
   obtain⟨y',e1,e2⟩:=hr.obj x _ ho
   rw[hp]at e1;injection e1 with e1;subst e1
   refine⟨_,.inr ⟨y,0,s.size,⟨0,strA s⟩,rfl,e2,by simp[strA_len'],rfl⟩,.l U8 (strL s) _ ?_⟩
   simp
   rw[<-strA_len',Yxo];exact rows_coe' (YaM s).rows
  trivial
 case pre x n=>
  simp only[ldT]at h
  split at h
  ·rename_i c l ho
   injection h with h;subst h
   obtain⟨y,k,rfl,hp,hn,h0,hm⟩:=Yb4 ho ht
   injection hn with hn;subst hn
   obtain⟨y',el,e1,e2,e3,e4⟩:=hr.obj x _ ho
   rw[hp]at e1;injection e1 with e1;subst e1
   refine⟨_,.inr ⟨y,0,n.toNat,⟨c.width,el⟩,rfl,e2,by rw[e4.1,Yxx];exact hm,rfl⟩,.l c _ _ ?_⟩
   simp only[List.drop_zero,Yay e3]
   refine YcU ⟨by simp[e4.1],fun i e v h1 h2=> ?_⟩
   rw[Yw8]at h1 h2
   split at h1
   ·rename_i hi;rw[if_pos hi]at h2;exact e4.2 i e v h1 h2
   trivial
  trivial
 case sub x ver i=>
  simp only[ldT]at h
  split at h
  ·rename_i hd c ver' l ho
   have e1:=Yxt (Yaa h).1
   replace h:=(Yaa h).2
   subst e1
   injection h with h;subst h
   rcases YbG ho ht with⟨y,rfl,hi,hp⟩| ⟨rfl,hp,h0⟩
   ·obtain⟨x',el0,_,_,k3,_⟩:=hr.obj x _ ho
    obtain⟨el,g3,g4⟩:=YcO hr ho hi hp
    refine⟨_,.inr ⟨y,0,(owI hd c l i).length,⟨c.width,el⟩,rfl,g3,by simp[g4.1],rfl⟩,.l c _ _ ?_⟩
    simp only[List.drop_zero,Yay k3]
    rw[<-g4.1,Yxo];exact YcU g4
   ·rw[h0]
    exact⟨.emp,.inl rfl,.l c [] _ (by exact .empRd _)⟩
  ·cases h
theorem YiZ(hr:HRel Fr H0 X pl H): ∀{cs ds:List TV} {t:Bool} {as:List AV},ldC X cs=(ds,t)->CT X pl cs as-> ∃bs,All2 (Bor1 (hf H)) as bs/\CT X pl ds bs/\ (t=false->bs=as)
 | [],ds,t,as,h,hc=>by
   injection h with h1 h2;subst h1;subst h2
   have:=hc.1
   cases as with
   |nil=>exact⟨[],trivial,.nil,fun _=>rfl⟩
   |cons _ _=>trivial
 |a::r,ds,t,as,h,hc=>by
  obtain⟨b,bs,rfl,h1,h2⟩:=hc.inv
  cases hq:ldC X r with
  |mk xs t'=>
   obtain⟨cs',k1,k2,k3⟩:=YiZ hr hq h2
   simp only[ldC,hq]at h
   split at h
   ·rename_i x hx
    injection h with e1 e2;subst e1;subst e2
    obtain⟨b',g1,g2⟩:=YiY hr hx h1
    exact⟨b'::cs',⟨g1,k1⟩,.cons g2 k2,fun h=>by cases h⟩
   ·split at h
    ·injection h with e1 e2;subst e1;subst e2
     cases h1
     exact⟨.emp::cs',⟨.inl rfl,k1⟩,.cons (.l _ _ _ (by exact .empRd _)) k2,fun h=>by grind⟩
    ·injection h with e1 e2;subst e1;subst e2
     exact⟨b::cs',⟨.inl rfl,k1⟩,.cons h1 k2,fun h=>by grind⟩
theorem Yfz(hr:HRel Fr H0 X pl H): ∀{cs ds:List TV} {t:Bool} {as:List AV},ldL X cs=(ds,t)->CT X pl cs as-> ∃bs,All2 (Bor (hf H)) as bs/\CT X pl ds bs/\ (t=false->bs=as)
 | [],ds,t,as,h,hc=>by
   injection h with h1 h2;subst h1;subst h2
   have:=hc.1
   cases as with
   |nil=>exact⟨[],trivial,.nil,fun _=>rfl⟩
   |cons _ _=>trivial
 |a::r,ds,t,as,h,hc=>by
  obtain⟨b,bs,rfl,h1,h2⟩:=hc.inv
  cases hq:ldL X r with
  |mk xs t'=>
   obtain⟨cs',k1,k2,k3⟩:=Yfz hr hq h2
   simp only[ldL,hq]at h
   split at h
   ·rename_i x hx
    injection h with e1 e2;subst e1;subst e2
    obtain⟨b',g1,g2⟩:=YiY hr hx h1
    exact⟨b'::cs',⟨.inl g1,k1⟩,.cons g2 k2,fun h=>by cases h⟩
   ·split at h
    ·rename_i ys hys
     injection h with e1 e2;subst e1;subst e2
     cases h1 with
     |ag _ zs hl hz=>
      cases hc2:ldC X ys with
      |mk ws t2=>
       obtain⟨us,g1,g2,g3⟩:=YiZ hr hc2 ⟨hl,hz⟩
       refine⟨.agg us::cs',⟨.inr ⟨zs,us,rfl,rfl,g1⟩,k1⟩,.cons (.ag _ _ g2.1 g2.2) k2,fun h=> ?_⟩
       simp_all
    ·injection h with e1 e2;subst e1;subst e2
     cases h1
     exact⟨.emp::cs',⟨.inl (.inl rfl),k1⟩,.cons (.l _ _ _ (by exact .empRd _)) k2,fun h=>by grind⟩
    ·injection h with e1 e2;subst e1;subst e2
     exact⟨b::cs',⟨.inl (.inl rfl),k1⟩,.cons h1 k2,fun h=>by grind⟩
theorem Yi0{vs:List TV}: ∀{as:List AV},CT X pl vs as->YtZ vs=true->All2 Coe as (avTs vs):=by
 induction vs with
 |nil=>intro as h _;have:=h.1;cases as with
  |nil=>trivial
  |cons _ _=>trivial
 |cons v vs ih=>
  intro as h hd
  obtain⟨a,r,rfl,h1,h2⟩:=h.inv
  simp only[YtZ,YxL]at hd
  exact⟨YiX h1 hd.1,ih h2 hd.2⟩
theorem Yi1{g:Nat}{svs:List SV}: ∀{l:List FnE} {e:FnE},YvZ g svs l=some e->e∈l/\e.g=g/\svs=e.args.vs
 | [],e,h=>by cases h
 |a::l,e,h=>by
  simp only[YvZ]at h
  cases hc:(Yxr a.g g&&SV.eqbs svs a.args.vs)with
  |true=>
   rw[hc,cond_true]at h;injection h with h;subst h
   simp only[YxL]at hc
   exact⟨Yw6 ..,Yxt hc.1,SV.eqs_of hc.2⟩
  |false=>
   rw[hc,cond_false]at h
   obtain⟨h1,h2⟩:=Yi1 h
   simp_all
variable{β:Type}{r:β}
theorem YoF{T:Tabs}{C:Ctx}(hT:TOKP T C){g:Nat}{args:List TV}{as:List AV}{K:TV->YtI->Option β}(hp:T.pf g=true)(h:YvL T g args X K=some r)(hc:CT X pl args as)(hr:HRel Fr H0 X pl H){KA:AV->Heap->Prop}
  (hk: ∀v va,K v X=some r->TR X pl v va->KA va H):Yvc C g as H KA:=by
 unfold YvL at h
 cases hl:ldL X args with
 |mk ds lent=>
  rw[hl]at h
  simp only at h
  split at h
  ·rename_i svs hs
   split at h
   ·rename_i e hf
    obtain⟨e1,e2⟩:=Yaa h
    simp at e1
    obtain⟨hm,hg,hsv⟩:=Yi1 hf
    split at e2
    ·rename_i x hx
     cases hy:e.F x with
     |none=>simp_all
     |some y=>
      rw[hy]at e2
      simp at e2
      split at e2
      ·rename_i v hv
       obtain⟨hd,e3⟩:=Yaa e2
       obtain⟨bs,g1,g2,g3⟩:=Yfz hr hl hc
       refine .inl ⟨by rw[hT.pf];exact hp,bs,avTs ds,avT v,g1,?_,Yi0 g2 e1.1,?_,hk _ _ e3 (Yfy v hd)⟩
       ·cases lent with
        |false=>simp_all
        |true=>exact .inr (YoE (by simp_all) hv)
       ·rw[<-hg]
        exact hT.fn e hm (by simp_all) _ _ ⟨x,y,ds,v,hy,hx,e1.1,rfl,hv,hd,rfl⟩
      trivial
    trivial
   trivial
  trivial
end
end Go.Abs
namespace Go.Abs
open Go Go.RowKit
def seqN(X:YtI)(a:Nat):Nat:=match vget X a with|some o=>(lenO o).getD 0|none=>0
mutual
def encT(X:YtI)(pl:Pl):TV->AV
 | .i k n=>.v (.int k n)
 | .b x=>.v (.bool x)
 | .s x=>.v (.string x)
 | .l c v=>.rd c.width (v.map c.enc)
 | .ref a=>match pl (.m a)with|some x=>.ref x 0 (seqN X a)|none=>.u
 | .ptr a i j=>match pl (.m a)with|some x=>.ptr x i j|none=>.u
 | .np a=>match pl (.m a)with|some x=>.np x|none=>.u
 | .e _=>.emp
 | .nl=>.v (.pointer none)
 | .ef x=>efA x
 | .ag x=>.agg (YuS X pl x)
 | .tp x=>.tup (YuS X pl x)
 | .clo g x=>.clo g (YuS X pl x)
 |_=>.u
def YuS(X:YtI)(pl:Pl):List TV->List AV
 | []=>[]
 |a::r=>encT X pl a::YuS X pl r
end
theorem YfA(X:YtI)(pl:Pl): ∀l:List TV,YuS X pl l=l.map (encT X pl)
 | []=>rfl
 |a::r=>by simp[YuS,YfA X pl r]
def encR(pl:Pl)(a:Nat)(hd:Hd)(c:Cs)(l:List (sn c hd.A).den):List (List AV):=
 (List.range l.length).map fun i=>hd.A.enc (daI hd c l i)++[.ref ((pl (.n a i)).getD 0) 0 (owI hd c l i).length]
def encO(X:YtI)(pl:Pl)(a:Nat):AObj:=
 match vget X a with
 |some (.sq c l)=>⟨c.width,l.map c.enc⟩
 |some (.st cs)=>⟨cs.length,[YuS X pl cs]⟩
 |some (.sb s)=>⟨0,strA s⟩
 |some (.fm hd c _ _ l)=>hd.obj (encR pl a hd c l)
 |_=>⟨1,[]⟩
def encP(X:YtI)(pl:Pl):Pos->AObj
 | .m a=>encO X pl a
 | .n a i=>match vget X a with
   |some (.fm hd c _ _ l)=>⟨c.width,(owI hd c l i).map c.enc⟩
   |_=>⟨1,[]⟩
def memN:Option VObj->Nat
 |some (.fm _ _ _ _ l)=>l.length
 |_=>0
def offN:YtI->Nat->Nat
 | [],_=>0
 |_::_,0=>0
 |o::r,i+1=>memN o+offN r i
theorem Yc1: ∀(X:YtI) (a:Nat),a<X.length->offN X (a+1)=offN X a+memN (vget X a)
 |o::r,0,_=>by cases r<;>simp[offN,vget]
 |o::r,a+1,h=>by
  have:=Yc1 r a (by simpa using h)
  simp only[offN,vget]at this⊢
  omega
theorem YfB(X:YtI): ∀{a b:Nat},a<=b->b<=X.length->offN X a<=offN X b:=by
 intro a b h hb
 induction b with
 |zero=>have:a=0:=by omega
        subst this;exact Yxs _
 |succ b ih=>
  by_cases e:a=b+1
  ·subst e;exact Yxs _
  ·have:=ih (by omega) (by omega)
   rw[Yc1 X b (by omega)];omega
theorem YoG(X:YtI){a i:Nat}(hi:i<memN (vget X a))(ha:a<X.length):offN X a+i<offN X X.length:=by
 have:=YfB X (a:=a+1) (b:=X.length) (by omega) (Yxs _)
 rw[Yc1 X a ha]at this;omega
theorem YoH(X:YtI){a b i j:Nat}(hi:i<memN (vget X a))(hj:j<memN (vget X b))(ha:a<X.length)(hb:b<X.length)(h:offN X a+i=offN X b+j):a=b/\i=j:=by
 rcases Nat.lt_trichotomy a b with e|e|e
 ·have:=YfB X (a:=a+1) (b:=b) (by omega) (by omega)
  rw[Yc1 X a ha]at this;omega
 ·subst e;exact⟨rfl,by omega⟩
 ·have:=YfB X (a:=b+1) (b:=a) (by omega) (by omega)
  rw[Yc1 X b hb]at this;omega
def plI(pls:Pl)(k n:Nat)(X:YtI):Pl
 | .m i=>match vget X i with
   |some _=>if i<k then pls (.m i)else some (n+(i-k))
   |none=>none
 | .n a i=>if i<memN (vget X a)then some (n+(X.length-k)+(offN X a+i))else none
open Classical in
noncomputable def Yub(Kp:Nat->Prop)(H:Heap)(k:Nat)(X:YtI)(pl:Pl):Heap:=
 (List.range (H.length+(X.length-k)+offN X X.length)).map fun x=>if Kp x then(H[x]?).join else if h: ∃p,pl p=some x then some (encP X pl (Classical.choose h))else none
def FnE.RI(e:FnE)(args:List AV)(H:Heap)(r:AV)(H':Heap):Prop:=
 ∃(x:e.args.c.den) (y:e.co.den) (vs:List TV) (Xs:YtI) (pls:Pl) (Kp:Nat->Prop) (v:TV) (l:List Lf) (X2:YtI),e.F x=some y/\e.args.read vs Xs=some x/\noFm Xs=true/\CT Xs pls vs args/\HRel Kp H Xs pls H/\FrOK Kp H/\
  (∀i o,vget Xs i=some o-> ∃z,pls (.m i)=some z)/\
  YtU e.res (unp e.co y)=some (v,l)/\Yt8 e.os l=some (X2,[])/\Xs.length<=X2.length/\wfT X2 v=true/\wfX X2 X2=true/\ (∀i,i<Xs.length-> ∀o,vget X2 i=some o-> ∃z,pls (.m i)=some z)/\
  r=encT X2 (plI pls Xs.length H.length X2) v/\H'=Yub Kp H Xs.length X2 (plI pls Xs.length H.length X2)
section
variable{Fr:Nat->Prop}{H0:Heap}
theorem YoI{X:YtI}{a i:Nat}(h:i<memN (vget X a)):a<X.length:=by
 cases ho:vget X a with
 |none=>rw[ho]at h;exact absurd h (Nat.not_lt_zero _)
 |some o=>exact Yab ho
theorem Ycc{Xs:YtI}{pls:Pl}{H:Heap}{Kp:Nat->Prop}(hr:HRel Kp H Xs pls H){X2:YtI}{i x:Nat}(hp:plI pls Xs.length H.length X2 (.m i)=some x):(pls (.m i)=some x\/(H.length<=x/\x=H.length+(i-Xs.length)/\Xs.length<=i))/\x<H.length+(X2.length-Xs.length):=by
 simp only[plI]at hp
 split at hp
 ·rename_i o ho
  have:=Yab ho
  split at hp
  ·exact⟨.inl hp,by have:=hr.bd hp;omega⟩
  ·injection hp with hp;exact⟨.inr ⟨by omega,hp.symm,by omega⟩,by omega⟩
 ·cases hp
theorem Ybe{pls:Pl}{k n:Nat}{X2:YtI}{a i x:Nat}(hp:plI pls k n X2 (.n a i)=some x):i<memN (vget X2 a)/\x=n+(X2.length-k)+(offN X2 a+i)/\a<X2.length:=by
 simp only[plI]at hp
 split at hp
 ·rename_i hi
  injection hp with hp
  exact⟨hi,hp.symm,YoI hi⟩
 ·cases hp
theorem Yd2{Xs:YtI}{pls:Pl}{H:Heap}{Kp:Nat->Prop}(hr:HRel Kp H Xs pls H){X2:YtI}{p q:Pos}{x:Nat}(hp:plI pls Xs.length H.length X2 p=some x)(hq:plI pls Xs.length H.length X2 q=some x):p=q:=by
 cases p with
 |n a i=>cases q with
  |n b j=>
   obtain⟨h1,h2,h3⟩:=Ybe hp
   obtain⟨g1,g2,g3⟩:=Ybe hq
   obtain⟨rfl,rfl⟩:=YoH X2 h1 g1 h3 g3 (by omega)
   rfl
  |m j=>
   obtain⟨h1,h2,h3⟩:=Ybe hp
   have:=(Ycc hr hq).2;omega
 |m i=>cases q with
  |n b j=>
   obtain⟨h1,h2,h3⟩:=Ybe hq
   have:=(Ycc hr hp).2;omega
  |m j=>
   rcases(Ycc hr hp).1 with h| ⟨h1,h2,h3⟩<;>rcases(Ycc hr hq).1 with g| ⟨g1,g2,g3⟩
   ·exact hr.inj _ _ _ h g
   ·have:=hr.bd h;omega
   ·have:=hr.bd g;omega
   ·rw[show i=j by omega]
theorem Yi2{pls:Pl}{k n:Nat}{X2:YtI}{p:Pos}{x:Nat}(hp:plI pls k n X2 p=some x): ∃o,vget X2 p.of=some o:=by
 cases p with
 |m i=>
  simp only[plI]at hp
  split at hp
  ·rename_i o ho;exact⟨o,ho⟩
  ·cases hp
 |n a i=>
  obtain⟨h1,_,_⟩:=Ybe hp
  cases ho:vget X2 a with
  |none=>rw[ho]at h1;exact absurd h1 (Nat.not_lt_zero _)
  |some o=>exact⟨o,ho⟩
theorem YfC{Xs:YtI}{pls:Pl}{H:Heap}{Kp:Nat->Prop}(hr:HRel Kp H Xs pls H){X2:YtI}(hlen:Xs.length<=X2.length){p:Pos}{x:Nat}(hp:plI pls Xs.length H.length X2 p=some x):
  (Yub Kp H Xs.length X2 (plI pls Xs.length H.length X2))[x]?=some (some (encP X2 (plI pls Xs.length H.length X2) p)):=by
 have hx:x<H.length+(X2.length-Xs.length)+offN X2 X2.length/\ ¬Kp x:=by
  cases p with
  |m i=>
   obtain⟨h1,h2⟩:=Ycc hr hp
   refine⟨by omega,?_⟩
   rcases h1 with h| ⟨h1,_,_⟩
   ·exact hr.nfr _ _ h
   ·intro hk;have:=(hr.fr x hk).1;omega
  |n a i=>
   obtain⟨h1,h2,h3⟩:=Ybe hp
   have:=YoG X2 h1 h3
   exact⟨by omega,fun hk=>by have:=(hr.fr x hk).1;omega⟩
 unfold Yub
 have hex: ∃p,plI pls Xs.length H.length X2 p=some x:=⟨p,hp⟩
 have:=Yd2 hr (Classical.choose_spec hex) hp
 rw[YwR,Yxb hx.1]
 simp only[YxF,if_neg hx.2,dif_pos hex,this]
theorem Yd3{Xs:YtI}{pls:Pl}{H:Heap}{Kp:Nat->Prop}(hr:HRel Kp H Xs pls H){X2:YtI}{x:Nat}(hk:Kp x):(Yub Kp H Xs.length X2 (plI pls Xs.length H.length X2))[x]?=H[x]?:=by
 have hx:=(hr.fr x hk).1
 unfold Yub
 rw[YwR,Yxb (by omega)]
 simp only[YxF,if_pos hk,YwO hx,Option.join_some]
theorem Yi3{Xs:YtI}{pls:Pl}{H:Heap}{Kp:Nat->Prop}{X2:YtI}{x:Nat}{o:AObj}(h:(Yub Kp H Xs.length X2 (plI pls Xs.length H.length X2))[x]?=some (some o)):
  (Kp x/\H[x]?=some (some o))\/(∃p,plI pls Xs.length H.length X2 p=some x/\o=encP X2 (plI pls Xs.length H.length X2) p):=by
 have hx:=(YwP.1 h).1
 unfold Yub at h hx
 simp only[YwY,List.length_range]at hx
 rw[YwR,Yxb hx]at h
 simp only[YxF,Option.some.injEq]at h
 split at h
 ·rename_i hk
  refine .inl ⟨hk,?_⟩
  cases hh:H[x]? with
  |none=>rw[hh]at h;cases h
  |some y=>rw[hh]at h;simpa using h
 ·split at h
  ·rename_i hp
   injection h with h
   exact .inr ⟨_,Classical.choose_spec hp,h.symm⟩
  ·cases h
theorem Yc2(Kp:Nat->Prop)(H:Heap)(k:Nat)(X:YtI)(pl:Pl):(Yub Kp H k X pl).length=H.length+(X.length-k)+offN X X.length:=by simp[Yub]
mutual
theorem Yi4{X:YtI}{pl:Pl}(hal: ∀i o,vget X i=some o-> ∃z,pl (.m i)=some z): ∀v:TV,wfT X v=true->TR X pl v (encT X pl v)
 | .i k n,_=>.i k n
 | .b x,_=>.b x
 | .s x,_=>.s x
 | .l c w,_=>.l c w _ (.refl _)
 | .u,_=>.u _
 | .nl,_=>.nl
 | .ef x,_=>.ef x
 | .e c,_=>.e c
 | .ref a,h=>by
   simp only[wfT]at h
   split at h
   ·rename_i c l ho
    obtain⟨z,hz⟩:=hal a _ ho
    simp only[encT,hz,seqN,ho,lenO,YxI]
    exact .ref a z _ l.length ho rfl hz
   ·rename_i s ho
    obtain⟨z,hz⟩:=hal a _ ho
    simp only[encT,hz,seqN,ho,lenO,YxI]
    exact .ref a z _ s.size ho rfl hz
   ·rename_i A nn c v hole l ho
    obtain⟨z,hz⟩:=hal a _ ho
    simp only[encT,hz,seqN,ho,lenO,YxI]
    exact .ref a z _ l.length ho rfl hz
   ·cases h
 | .ptr a i j,h=>by
   simp only[wfT,YxL]at h
   have hi:=Yxt h.1;subst hi
   have h2:=h.2
   split at h2
   ·rename_i cs ho
    obtain⟨z,hz⟩:=hal a _ ho
    simp only[encT,hz]
    exact .ptr a 0 j z _ ho (by simp[elN]) hz
   ·cases h2
 | .np a,h=>by
   simp only[wfT]at h
   split at h
   ·rename_i cs ho
    obtain⟨z,hz⟩:=hal a _ ho
    simp only[encT,hz]
    exact .np a z _ ho hz
   ·rename_i o n c v hole l ho
    obtain⟨z,hz⟩:=hal a _ ho
    simp only[encT,hz]
    exact .np a z _ ho hz
   ·cases h
 | .ag x,h=>by have:=Yc3 hal x h;exact .ag _ _ this.1 this.2
 | .tp x,h=>by have:=Yc3 hal x h;exact .tp _ _ this.1 this.2
 | .clo g x,h=>by have:=Yc3 hal x h;exact .clo g _ _ this.1 this.2
 | .v _,h| .pre _ _,h| .sub _ _ _,h| .pti _ _ _ _ _,h| .rp _,h| .lt _,h=>by cases h
theorem Yc3{X:YtI}{pl:Pl}(hal: ∀i o,vget X i=some o-> ∃z,pl (.m i)=some z): ∀l:List TV,wfTs X l=true->CT X pl l (YuS X pl l)
 | [],_=>.nil
 |a::r,h=>by
  simp only[wfTs,YxL]at h
  exact .cons (Yi4 hal a h.1) (Yc3 hal r h.2)
end
theorem Ycd{X:YtI}: ∀{Y:YtI} {i:Nat} {o:VObj},wfX X Y=true->vget Y i=some o->(∃c l,o= .sq c l/\0<c.width)\/(∃cs,o= .st cs/\0<cs.length/\wfTs X cs=true)\/(∃s,o= .sb s)\/ ∃hd c v l,o= .fm hd c v none l/\0<c.width/\hd.nn=true
 | [],i,o,_,h=>by cases h
 |p::r,i,o,hw,h=>by
  have hr:wfX X r=true:=by
   cases p with
   |none=>exact hw
   |some q=>cases q with
    |sq c l=>simp only[wfX,YxL]at hw;exact hw.2
    |st cs=>simp only[wfX,YxL]at hw;exact hw.2
    |sb s=>exact hw
    |fm _ _ _ _ _=>simp only[wfX,YxL]at hw;exact hw.2
  cases i with
  |succ i=>exact Ycd hr h
  |zero=>
   subst h
   cases o with
   |sq c l=>simp only[wfX,YxL]at hw;exact .inl ⟨c,l,rfl,by simp_all⟩
   |st cs=>simp only[wfX,YxL]at hw;simp_all
   |sb s=>simp
   |fm hd c v hole l=>
    simp only[wfX,YxL]at hw
    have h0:0<c.width:=by have:=hw.1.1;simp_all
    cases hole with
    |none=>exact .inr (.inr (.inr ⟨hd,c,v,l,rfl,h0,hw.1.2.1⟩))
    |some _=>cases hw.1.2.2
end
end Go.Abs
namespace Go.Abs
open Go Go.RowKit
structure TOK(T:Tabs)(C:Ctx):Prop where
 p:TOKP T C
 fnI: ∀e∈T.fs,T.pf e.g=false-> ∀args H r H',e.RI args H r H'->C.C e.g args H r H'
section
variable{Fr:Nat->Prop}{H0:Heap}{X:YtI}{pl:Pl}{H:Heap}{m:List Nat}
def reB:Option VObj->VObj->VObj
 |some (.fm _ _ v _ _),.fm hd c _ h l=>.fm hd c (v+1) h l
 |_,o=>o
theorem YoJ(p o:Option VObj):YwD p o=o.map (reB p):=by
 cases p with
 |none=>cases o<;>rfl
 |some p=>cases p<;>cases o with
  |none=>rfl
  |some o=>cases o<;>rfl
theorem Yi5(p:Option VObj)(o:VObj):lenO (reB p o)=lenO o/\elN (reB p o)=elN o:=by
 cases p with
 |none=>cases o<;>exact⟨rfl,rfl⟩
 |some p=>cases p<;>cases o with
  |fm hd _ _ _ _=>cases hd<;>exact⟨rfl,rfl⟩
  |_=>exact⟨rfl,rfl⟩
theorem YoK{X:YtI}{pl:Pl}{H:Heap}{a:Nat}(p:Option VObj){o:VObj}(h:OR X pl H a o):OR X pl H a (reB p o):=by
 cases p with
 |none=>cases o<;>exact h
 |some p=>cases p<;>cases o<;>exact h
theorem YoL(o:VObj):reB none o=o:=by cases o<;>rfl
theorem Yce(r:Nat->Option Nat): ∀(X:YtI) (m:List Nat) (Y:YtI),(Yvj r X m Y).length=X.length
 |X,[],Y=>by cases Y<;>rfl
 |X,a::m,[]=>rfl
 |X,a::m,o::Y=>by simp only[Yvj];rw[Yce r _ m Y,Yac]
theorem YfD(r:Nat->Option Nat){b:Nat}: ∀{X:YtI} {m:List Nat} {Y:YtI},b∉m->vget (Yvj r X m Y) b=vget X b
 |X,[],Y,_=>by cases Y<;>rfl
 |X,a::m,[],_=>rfl
 |X,a::m,o::Y,h=>by
  simp at h
  simp only[Yvj];rw[YfD r h.2,Yak _ (Ne.symm h.1)]
theorem Yi6(r:Nat->Option Nat){b:Nat}: ∀{X:YtI} {m:List Nat} {Y:YtI} {i:Nat},m.Nodup->m[i]?=some b->b<X.length->i<Y.length->vget (Yvj r X m Y) b=(vget Y i).map fun o=>reB (vget X b) (o.ren r)
 |X,[],Y,i,_,h,_,_=>by grind
 |X,a::m,[],i,_,_,_,h=>by grind
 |X,a::m,o::Y,i,hn,h,hb,hi=>by
  obtain⟨h1,h2⟩:=List.nodup_cons.1 hn
  simp only[Yvj]
  cases i with
  |zero=>
   simp at h;subst h
   rw[YfD r h1,Yam _ hb,YoJ,Option.map_map];rfl
  |succ i=>
   simp at h hi
   have hne:a≠b:=fun e=>h1 (by subst e;exact YwQ h)
   rw[Yi6 r h2 h (by rw[Yac];exact hb) hi,Yak _ hne];rfl
theorem Yi7: ∀(Y:YtI) (n i:Nat),vget (Y.drop n) i=vget Y (n+i)
 |Y,0,i=>by simp
 | [],n+1,i=>by rfl
 |o::Y,n+1,i=>by rw[List.drop_succ_cons,Yi7 Y n i,show n+1+i=(n+i)+1 by omega];rfl
theorem YoM{A B:YtI}{b:Nat}(h:A.length<=b):vget (A++B) b=vget B (b-A.length):=by
 induction A generalizing b with
 |nil=>rfl
 |cons o A ih=>
  cases b with
  |zero=>grind
  |succ b=>simp only[Yxg,vget];simp_all
theorem YoN(r:Nat->Option Nat){Y:YtI}{b i:Nat}(hn:m.Nodup)(h:m[i]?=some b)(hb:b<X.length)(hi:i<Y.length):vget (Yt4 m r X Y) b=(vget Y i).map fun o=>reB (vget X b) (o.ren r):=by
 unfold Yt4
 rw[Yap (by rw[Yce];exact hb),Yi6 r hn h hb hi]
theorem Yi8(r:Nat->Option Nat){Y:YtI}{b:Nat}(hm:b∉m)(hb:b<X.length):vget (Yt4 m r X Y) b=vget X b:=by
 unfold Yt4
 rw[Yap (by rw[Yce];exact hb),YfD r hm]
theorem YoO(r:Nat->Option Nat){Y:YtI}{b:Nat}(hb:X.length<=b):vget (Yt4 m r X Y) b=(vget Y (m.length+(b-X.length))).map (VObj.ren r):=by
 unfold Yt4
 rw[YoM (by rw[Yce];exact hb),Yce,YdW _ rfl,Yi7]
theorem YoP(r:Nat->Option Nat)(Y:YtI):(Yt4 m r X Y).length=X.length+(Y.length-m.length):=by
 unfold Yt4;simp[Yce]
mutual
theorem Yd4{A:Nat->Prop}(hA: ∀a x,(vget X a).isSome=true->a∉m->pl (.m a)=some x->A x): ∀(v:TV) {a:AV},clT X m v=true->TR X pl v a->RefIn A a
 | .i _ _,_,_,ht=>by cases ht;exact .v _
 | .b _,_,_,ht=>by cases ht;exact .v _
 | .s _,_,_,ht=>by cases ht;exact .v _
 | .l c w,_,_,ht=>by
   cases ht with
   |l _ _ _ hc=>exact YdY (YbV hc (YcL (.l c) w))
 | .e _,_,_,ht=>by cases ht;exact .emp
 | .v _,_,_,ht=>by cases ht;exact .v _
 | .nl,_,_,ht=>by cases ht;exact .v _
 | .ef x,_,_,ht=>by
   cases ht with
   |eft=>exact .er
   |eff=>exact .v _
 | .ref x,_,h,ht=>by
   simp only[clT,YxL,Bool.not_eq_true']at h
   obtain⟨o,ho⟩:=YxH.1 h.1
   obtain⟨y,n,rfl,hp,_⟩:=Yan ho ht
   exact .ref _ _ _ (hA x y h.1 (fun hm=>by rw[any_mem.2 hm]at h;cases h.2) hp)
 | .pre x n,_,h,ht=>by
   simp only[clT,YxL,Bool.not_eq_true']at h
   obtain⟨o,ho⟩:=YxH.1 h.1
   obtain⟨y,n,rfl,hp,_⟩:=Yb4 ho ht
   exact .ref _ _ _ (hA x y h.1 (fun hm=>by rw[any_mem.2 hm]at h;cases h.2) hp)
 | .ptr x i j,_,h,ht=>by
   simp only[clT,YxL,Bool.not_eq_true']at h
   obtain⟨o,ho⟩:=YxH.1 h.1
   obtain⟨y,rfl,hp,_⟩:=Ybm ho ht
   exact .ptr _ _ _ (hA x y h.1 (fun hm=>by rw[any_mem.2 hm]at h;cases h.2) hp)
 | .np x,_,h,ht=>by
   simp only[clT,YxL,Bool.not_eq_true']at h
   obtain⟨o,ho⟩:=YxH.1 h.1
   obtain⟨y,rfl,hp⟩:=YaB ho ht
   exact .np _ (hA x y h.1 (fun hm=>by rw[any_mem.2 hm]at h;cases h.2) hp)
 | .ag x,_,h,ht=>by
   cases ht with
   |ag _ as hl hc=>exact .agg _ (Yd5 hA x h ⟨hl,hc⟩)
 | .tp x,_,h,ht=>by
   cases ht with
   |tp _ as hl hc=>exact .tup _ (Yd5 hA x h ⟨hl,hc⟩)
 | .clo g x,_,h,ht=>by
   cases ht with
   |clo _ _ as hl hc=>exact .clo _ _ (Yd5 hA x h ⟨hl,hc⟩)
 | .u,_,h,_| .sub _ _ _,_,h,_| .pti _ _ _ _ _,_,h,_| .rp _,_,h,_| .lt _,_,h,_=>by cases h
theorem Yd5{A:Nat->Prop}(hA: ∀a x,(vget X a).isSome=true->a∉m->pl (.m a)=some x->A x): ∀(l:List TV) {as:List AV},clTs X m l=true->CT X pl l as-> ∀a∈as,RefIn A a
 | [],as,_,hc=>by
   have:=hc.1
   cases as with
   |nil=>intro a h;cases h
   |cons _ _=>simp at this
 |v::l,as,h,hc=>by
  obtain⟨a,r,rfl,h1,h2⟩:=hc.inv
  simp only[clTs,YxL]at h
  intro b hb
  rcases Yw2.1 hb with rfl|hb
  ·exact Yd4 hA v h.1 h1
  ·exact Yd5 hA l h.2 h2 b hb
end
theorem YfE{Y:YtI}: ∀{Z:YtI} {i b:Nat} {o:VObj},clX Y m Z i=true->vget Z b=some o->i+b∉m-> ∀cs,o= .st cs-> ∀v∈cs,isU v=true\/clT Y m v=true
 | [],i,b,o,_,h,_=>by cases h
 |p::Z,i,b,o,hc,hg,hm=>by
  simp only[clX,YxL]at hc
  cases b with
  |succ b=>exact YfE hc.2 hg (by grind)
  |zero=>
   subst hg
   have h1:=hc.1
   rw[YxP]at h1
   have h2:=h1.resolve_left (fun h=>hm (any_mem.1 h))
   intro cs e v hv
   subst e
   simpa using Yw1.1 h2 v hv
section
open Classical
noncomputable def clA0(K:Nat->Prop)(c:AV):AV:=if RefIn K c then c else .u
noncomputable def clA(K:Nat->Prop):AV->AV
 | .rd es l=>.rd es (l.map (·.map (clA0 K)))
 |c=>clA0 K c
noncomputable def clnH(K:Nat->Prop)(H:Heap):Heap:=H.mapIdx fun x o=>if K x then o.map (fun o=>⟨o.es,o.el.map (·.map (clA K))⟩)else o
end
theorem Yi9(K:Nat->Prop)(c:AV):RefIn K (clA0 K c):=by
 unfold clA0;split
 ·assumption
 ·exact .u
theorem YfF{K:Nat->Prop}{c:AV}(h:RefIn K c):clA0 K c=c:=if_pos h
theorem YoQ(K:Nat->Prop)(c:AV):RefIn K (clA K c):=by
 unfold clA;split
 ·exact .rd _ _ (fun e he x hx=>by
   obtain⟨e0,_,rfl⟩:=Yw3.1 he
   obtain⟨x0,_,rfl⟩:=Yw3.1 hx
   exact Yi9 K x0)
 ·exact Yi9 K c
theorem Yc4{K:Nat->Prop}{c:AV}(h:RefIn K c):clA K c=c:=by
 unfold clA;split
 ·rename_i es l
  cases h with
  |rd _ _ h=>
   congr 1
   refine(List.map_congr_left fun e he=> ?_).trans (List.map_id _)
   exact(List.map_congr_left fun x hx=>YfF (h e he x hx)).trans (List.map_id _)
 ·exact YfF h
theorem YoR(K:Nat->Prop)(c:AV):FgA c (clA K c):=by
 have h0: ∀c,FgC c (clA0 K c):=fun c=>by
  unfold clA0;split
  ·exact .inl rfl
  ·exact .inr rfl
 unfold clA;split
 ·refine .inr ⟨_,_,_,rfl,rfl,by simp,fun i e e' h1 h2=> ?_⟩
  rw[YwR,h1]at h2;injection h2 with h2;subst h2
  refine⟨by simp,fun j x x' h3 h4=> ?_⟩
  rw[YwR,h3]at h4;injection h4 with h4;subst h4
  exact h0 x
 ·exact .inl (h0 _)
theorem Ybq(K:Nat->Prop)(H:Heap)(x:Nat):(K x->(clnH K H)[x]?=(H[x]?).map fun o=>o.map fun o=>(⟨o.es,o.el.map (·.map (clA K))⟩:AObj))/\ (¬K x->(clnH K H)[x]?=H[x]?):=by
 constructor
 ·intro h;simp only[clnH,List.getElem?_mapIdx,if_pos h]
 ·intro h;simp only[clnH,List.getElem?_mapIdx,if_neg h];cases H[x]?<;>rfl
theorem YfG(K:Nat->Prop)(H:Heap):(clnH K H).length=H.length:=by simp[clnH]
theorem YoS(K:Nat->Prop)(H:Heap):YvD H (clnH K H):=by
 refine⟨YfG K H,fun a=> ?_⟩
 by_cases h:K a
 ·rw[(Ybq K H a).1 h]
  cases hx:H[a]? with
  |none=>exact .inl rfl
  |some o=>
   cases o with
   |none=>exact .inl rfl
   |some o=>
    refine .inr ⟨o,_,rfl,rfl,rfl,by simp,fun i e e' h1 h2=> ?_⟩
    simp only[YwR,h1,YxF]at h2
    injection h2 with h2;subst h2
    refine⟨by simp,fun j x x' h3 h4=> ?_⟩
    rw[YwR,h3]at h4;injection h4 with h4;subst h4
    exact YoR K x
 ·exact .inl ((Ybq K H a).2 h)
theorem Ycf{K:Nat->Prop}{H:Heap}{x:Nat}(h: ∀o,H[x]?=some (some o)->K x-> ∀e∈o.el,∀c∈e,RefIn K c):(clnH K H)[x]?=H[x]?:=by
 by_cases hk:K x
 ·rw[(Ybq K H x).1 hk]
  cases hx:H[x]? with
  |none=>rfl
  |some o=>
   cases o with
   |none=>rfl
   |some o=>
    simp only[YxF]
    congr 2
    obtain⟨es,el⟩:=o
    congr 1
    refine(List.map_congr_left fun e he=> ?_).trans (List.map_id _)
    exact(List.map_congr_left fun c hc=>Yc4 (h _ hx hk e he c hc)).trans (List.map_id _)
 ·exact(Ybq K H x).2 hk
theorem Yd6{K:Nat->Prop}{el:List (List AV)}{c:Cs}{l:List c.den}(h:Rows el c l): ∀e∈el,∀z∈e,RefIn K z:=by
 intro e he z hz
 obtain⟨i,hi⟩:=YwW.1 he
 have hil:i<l.length:=by rw[<-h.1];exact(YwP.1 hi).1
 have hcc:=h.2 i e l[i] hi (YwO hil)
 obtain⟨j,hj⟩:=YwW.1 hz
 obtain⟨z',hz'⟩:=Yai hcc.1.symm hj
 exact YdY (YbV (hcc.2 j z z' hj hz') (YaL c _ z' (YwQ hz')))
theorem YoT{K:Nat->Prop}{d:List AV}{c:Cs}{v:c.den}(h:CC d (c.enc v)): ∀z∈d,RefIn K z:=fun z hz=>by
 obtain⟨j,hj⟩:=YwW.1 hz
 obtain⟨z',hz'⟩:=Yai h.1.symm hj
 exact YdY (YbV (h.2 j z z' hj hz') (YaL c _ z' (YwQ hz')))
def Yt6(Fr:Nat->Prop)(m:List Nat)(pl:Pl)(x:Nat):Prop:=Fr x\/ ∃p:Pos,p.of∉m/\pl p=some x
theorem YoU(hr:HRel Fr H0 X pl H){a:Nat}(ha:a∉m){hd:Hd}{c:Cs}{hole:Option Nat}{i:Nat}{e:List AV}{v:(sn c hd.A).den}{g:AV->AV}(hg0: ∀z,RefIn (Yt6 Fr m pl) z->g z=z)(h:ElR pl H a hd c hole i e v):
  ElR pl (clnH (Yt6 Fr m pl) H) a hd c hole i (e.map g) v:=by
 obtain⟨d,r,rfl,h1,h2⟩:=h
 have hd':d.map g=d:=(List.map_congr_left fun z hz=>hg0 z (YoT h1 z hz)).trans (List.map_id _)
 refine⟨d,g r,by rw[Yxk,hd'];rfl,h1,fun hh=> ?_⟩
 rcases h2 hh with⟨y,el',g1,rfl,g3,g4⟩| ⟨g1,g2,g3,rfl⟩
 ·refine .inl ⟨y,el',g1,hg0 _ (.ref _ _ _ (.inr ⟨.n a i,ha,g1⟩)),?_,g4⟩
  rw[Ycf (fun o ho _=>by rw[g3]at ho;injection ho with ho;injection ho with ho;subst ho;exact Yd6 g4)]
  exact g3
 ·exact .inr ⟨g1,g2,g3,hg0 _ .emp⟩
theorem YoV(hr:HRel Fr H0 X pl H)(hfr:FrOK Fr H0)(hcl:clX X m X 0=true):
  HRel Fr H0 X pl (clnH (Yt6 Fr m pl) H)/\FrOK (Yt6 Fr m pl) (clnH (Yt6 Fr m pl) H)/\ ∀b x,b∉m->okO (vget X b)=true->pl (.m b)=some x->(clnH (Yt6 Fr m pl) H)[x]?=H[x]?:=by
 have hnk: ∀{p:Pos} {x},p.of∈m->pl p=some x-> ¬Yt6 Fr m pl x:=by
  rintro p x hp hx (h| ⟨q,h1,h2⟩)
  ·exact hr.nfr _ _ hx h
  ·have:=hr.inj _ _ _ hx h2;subst this;exact h1 hp
 have hin: ∀{p:Pos} {x},p.of∈m->pl p=some x->(clnH (Yt6 Fr m pl) H)[x]?=H[x]?:=fun hp hx=>(Ybq _ _ _).2 (hnk hp hx)
 have hrow: ∀{x:Nat} {n:Nat} {el:List (List AV)} {c:Cs} {l:List c.den},H[x]?=some (some ⟨n,el⟩)->Rows el c l->(clnH (Yt6 Fr m pl) H)[x]?=H[x]?:=fun{x n el c l} hx hw=>
  Ycf (fun o ho _=>by rw[hx]at ho;injection ho with ho;injection ho with ho;subst ho;exact Yd6 hw)
 have hA: ∀a x,(vget X a).isSome=true->a∉m->pl (.m a)=some x->Yt6 Fr m pl x:=fun a x _ h1 h2=>.inr ⟨.m a,h1,h2⟩
 have hobj: ∀a o,vget X a=some o->OR X pl (clnH (Yt6 Fr m pl) H) a o:=by
  intro a o ho
  have hob:=hr.obj a o ho
  cases o with
  |sq c l=>obtain⟨x,el,h1,h2,h3,h4⟩:=hob;exact⟨x,el,h1,by rw[hrow h2 h4];exact h2,h3,h4⟩
  |sb s=>obtain⟨x,h1,h2⟩:=hob;exact⟨x,h1,by rw[hrow h2 (YaM s).rows];exact h2⟩
  |st cs=>
   obtain⟨x,e,h1,h2,h3,h4⟩:=hob
   by_cases hm:a∈m
   ·exact⟨x,e,h1,by rw[hin (p:=.m a) hm h1];exact h2,h3,h4⟩
   ·refine⟨x,e.map (clA (Yt6 Fr m pl)),h1,?_,h3,by rw[YwY];exact h4.1,fun j v z' k1 k2=> ?_⟩
    ·rw[(Ybq _ _ _).1 (hA a x (by rw[ho];rfl) hm h1),h2];rfl
    ·rw[YwR,YxE]at k2
     obtain⟨z,k2,rfl⟩:=k2
     have ht:=h4.2 j v z k1 k2
     rcases YfE hcl ho (by rw[Yxx];exact hm) cs rfl v (YwQ k1)with hu|hu
     ·have:v= .u:=by cases v<;>first|rfl|cases hu
      subst this;exact .u _
     ·rw[Yc4 (Yd4 hA v hu ht)];exact ht
  |fm hd c ver hole l=>
   obtain⟨x,el,h1,h2,h3,h4,h6⟩:=hob
   by_cases hm:a∈m
   ·refine⟨x,el,h1,by rw[hin (p:=.m a) hm h1];exact h2,h3,h4,fun i e v k1 k2=> ?_⟩
    obtain⟨d,r,g1,g2,g3⟩:=h6 i e v k1 k2
    refine⟨d,r,g1,g2,fun hh=> ?_⟩
    rcases g3 hh with⟨y,el',f1,f2,f3,f4⟩|f
    ·exact .inl ⟨y,el',f1,f2,by rw[hin (p:=.n a i) hm f1];exact f3,f4⟩
    ·exact .inr f
   ·have hx:=(Ybq (Yt6 Fr m pl) H x).1 (hA a x (by rw[ho];rfl) hm h1)
    rw[h2]at hx
    have hrows: ∀g:AV->AV,(∀z,RefIn (Yt6 Fr m pl) z->g z=z)-> ∀(i:Nat) (e:List AV) (v:(sn c hd.A).den),(el.map (·.map g))[i]?=some e->l[i]?=some v->ElR pl (clnH (Yt6 Fr m pl) H) a hd c hole i e v:=fun g hg i e v k1 k2=>by
     rw[YwR,YxE]at k1
     obtain⟨e0,k1,rfl⟩:=k1
     exact YoU hr hm hg (h6 i e0 v k1 k2)
    cases hd with
    |rw A nn=>
     have hx':(clnH (Yt6 Fr m pl) H)[x]?=some (some ((Hd.rw A nn).obj (el.map fun e=>e.map (clA (Yt6 Fr m pl))))):=hx
     exact⟨x,el.map (fun e=>e.map (clA (Yt6 Fr m pl))),h1,hx',h3,by rw[YwY];exact h4,hrows _ (fun z hz=>Yc4 hz)⟩
    |mp o n=>exact⟨x,el.map (·.map (clA0 (Yt6 Fr m pl))),h1,hx.trans (by
     show some (some (⟨3,[[clA _ (.v (.int .i64 n)),.rd 3 (el.map (·.map (clA0 (Yt6 Fr m pl)))),clA _ (.v (.bool false))]]⟩:AObj))=_
     rw[Yc4 (.v _),Yc4 (.v _)];rfl),h3,by rw[YwY];exact h4,hrows _ (fun z hz=>YfF hz)⟩
 refine⟨⟨hobj,hr.inj,hr.own,fun x hx=>⟨(hr.fr x hx).1,?_⟩,hr.nfr,by rw[YfG];exact hr.le⟩,fun x hx=> ?_,fun b x hb hok hp=> ?_⟩
 ·have h3:=(hr.fr x hx).2
  rw[Ycf (fun o ho _ e he c hc=>YiO (fun z hz=>.inl hz) ((hfr x hx).2 o (h3.symm.trans ho) e he c hc))]
  exact h3
 ·have hlv: ∃o,H[x]?=some (some o):=by
   rcases hx with h| ⟨p,_,hp⟩
   ·obtain⟨⟨o,ho⟩,_⟩:=hfr x h;exact⟨o,(hr.fr x h).2.trans ho⟩
   ·exact hr.lt hp
  obtain⟨o,ho⟩:=hlv
  rw[(Ybq _ _ _).1 hx,ho]
  refine⟨⟨_,rfl⟩,fun o' ho' e he c hc=> ?_⟩
  simp only[YxF]at ho'
  injection ho' with ho';injection ho' with ho';subst ho'
  obtain⟨e0,_,rfl⟩:=Yw3.1 he
  obtain⟨c0,_,rfl⟩:=Yw3.1 hc
  exact YoQ _ c0
 ·cases ho:vget X b with
  |none=>rw[ho]at hok;cases hok
  |some o=>
   rw[ho]at hok
   have hob:=hr.obj b o ho
   cases o with
   |sq c l=>obtain⟨x',el,h1,h2,h3,h4⟩:=hob;rw[hp]at h1;injection h1 with h1;subst h1;exact hrow h2 h4
   |sb s=>obtain⟨x',h1,h2⟩:=hob;rw[hp]at h1;injection h1 with h1;subst h1;exact hrow h2 (YaM s).rows
   |st cs=>
    obtain⟨x',e,h1,h2,h3,h4⟩:=hob
    rw[hp]at h1;injection h1 with h1;subst h1
    refine Ycf (fun o ho' _ f hf z hz=> ?_)
    rw[h2]at ho';injection ho' with ho';injection ho' with ho';subst ho'
    simp only[Yxf]at hf;subst hf
    obtain⟨j,hj⟩:=YwW.1 hz
    obtain⟨v,hv⟩:=Yai h4.1 hj
    have hvm:=YwQ hv
    have hnu:isU v=false:=by simpa using Yw1.1 hok v hvm
    rcases YfE hcl ho (by rw[Yxx];exact hb) cs rfl v hvm with hu|hu
    ·rw[hnu]at hu;cases hu
    ·exact Yd4 hA v hu (h4.2 j v z hv hj)
   |fm hd c ver hole l=>
    cases hole with
    |some i=>cases hok
    |none=>
     refine Ycf (fun ob hob' _ e he z hz=> ?_)
     exact YiO (fun y hy=>by obtain⟨i,hi⟩:=hy;exact .inr ⟨.n b i,hb,hi⟩) (YiU hr ho hp hob' e he z hz)
structure SameK(o o':VObj):Prop where
 el:elN o=elN o'
 len:lenO o=lenO o'
 fm:isFm o=isFm o'
 c: ∀hd c v h l,o= .fm hd c v h l-> ∃hd0 v0 h0 l0,o'= .fm hd0 c v0 h0 l0
theorem YfH{β:Type}{r:β}: ∀{Y Z:YtI} {x:Option β},Yua Y Z x=some r->x=some r/\ ∀i o,i<Y.length->vget Z i=some o-> ∃o',vget Y i=some o'/\SameK o o'
 | [],Z,x,h=>by
   have h:x=some r:=by trivial
   simp_all
 |p::Y,[],x,h=>by cases p with
  |none=>trivial
  |some q=>cases q with
   |fm hd _ _ _ _=>cases hd<;>simp[Yua]at h
   |_=>simp[Yua]at h
 |p::Y,none::Z,x,h=>by
  have h:Yua Y Z x=some r:=by cases p with
   |none=>trivial
   |some q=>cases q with
    |fm hd _ _ _ _=>cases hd<;>simpa[Yua]using h
    |_=>simpa[Yua]using h
  obtain⟨h1,h2⟩:=YfH h
  refine⟨h1,fun i o hi hg=> ?_⟩
  cases i with
  |zero=>cases hg
  |succ i=>exact h2 i o (by simp_all) hg
 |p::Y,some o2::Z,x,h=>by
  have go: ∀{q:VObj},p=some q->Yua Y Z x=some r->SameK o2 q->x=some r/\ ∀i o,i< (p::Y).length->vget (some o2::Z) i=some o-> ∃o',vget (p::Y) i=some o'/\SameK o o':=by
   intro q hp e2 hk
   obtain⟨h1,h2⟩:=YfH e2
   refine⟨h1,fun i o hi hg=> ?_⟩
   cases i with
   |zero=>simp only[vget]at hg;injection hg with hg;subst hg;exact⟨q,hp,hk⟩
   |succ i=>exact h2 i o (by simp_all) hg
  cases p with
  |none=>trivial
  |some q=>
   cases q with
   |fm hd c v hole l=>
    cases o2 with
    |fm hd2 c2 v2 hole2 l2=>
     cases hd with
     |rw A nn=>cases hd2 with
      |rw A2 nn2=>
       simp only[Yua]at h
       obtain⟨e0,e1⟩:=Yaa h
       obtain⟨e2,e3⟩:=Yah e1
       have:=Cs.eq_of e0;subst this
       exact go rfl e3 ⟨e2,congrArg some e2,rfl,fun hd0 c0 v0 h0 l0 e=>by injection e with _ e;subst e;exact⟨_,_,_,_,rfl⟩⟩
      |mp _ _=>simp[Yua]at h
     |mp o n=>cases hd2 with
      |rw _ _=>simp[Yua]at h
      |mp o2 n2=>
       simp only[Yua]at h
       obtain⟨e0,e1⟩:=Yaa h
       have:=Cs.eq_of e0;subst this
       exact go rfl e1 ⟨rfl,rfl,rfl,fun hd0 c0 v0 h0 l0 e=>by injection e with _ e;subst e;exact⟨_,_,_,_,rfl⟩⟩
    |_=>cases hd<;>simp[Yua]at h
   |sq c l=>
    cases o2 with
    |sq c2 l2=>
     simp only[Yua]at h
     obtain⟨e1,e2⟩:=Yah h
     exact go rfl e2 ⟨e1,congrArg some e1,rfl,fun _ _ _ _ _ e=>by cases e⟩
    |_=>trivial
   |st cs=>
    cases o2 with
    |st cs2=>
     simp only[Yua]at h
     exact go rfl h ⟨rfl,rfl,rfl,fun _ _ _ _ _ e=>by cases e⟩
    |_=>trivial
   |sb s=>
    cases o2 with
    |sb s2=>
     simp only[Yua]at h
     obtain⟨e1,e2⟩:=Yah h
     exact go rfl e2 ⟨e1,congrArg some e1,rfl,fun _ _ _ _ _ e=>by cases e⟩
    |_=>trivial
theorem Yja{g:Nat}{svs:List SV}{sos:List SO}: ∀{l:List FnE} {e:FnE},Yvw g svs sos l=some e->e∈l/\e.g=g
 | [],e,h=>by cases h
 |a::l,e,h=>by
  simp only[Yvw]at h
  cases hc:(Yxr a.g g&& (SV.eqbs svs a.args.vs&&SO.eqbs sos a.args.os))with
  |true=>
   simp_all
  |false=>
   rw[hc,cond_false]at h
   obtain⟨h1,h2⟩:=Yja h
   simp_all
theorem YfI{g:Nat}{svs:List SV}{sos:List SO}: ∀{l:List FnE} {e:FnE},e∈YuR g svs sos l->e∈l/\e.g=g
 | [],e,h=>by cases h
 |a::l,e,h=>by
  simp only[YuR]at h
  cases hc:(Yxr a.g g&& (SV.eqbs svs a.args.vs&&SO.eqbs sos a.args.os))with
  |true=>
   rw[hc,cond_true]at h
   rcases Yw2.1 h with rfl|h
   ·simp_all
   ·obtain⟨h1,h2⟩:=YfI (List.mem_filter.1 h).1;simp_all
  |false=>
   rw[hc,cond_false]at h
   obtain⟨h1,h2⟩:=YfI h
   simp_all
theorem Yjb{β:Type}{as:List TV}{Xs:YtI}{k:(e:FnE)->e.co.den->Option β}{r:β}: ∀{l:List FnE},tryF as Xs k l=some r-> ∃e∈l,∃x y,e.args.read as Xs=some x/\e.F x=some y/\k e y=some r
 | [],h=>by cases h
 | [e],h=>by
   simp only[tryF]at h
   split at h
   ·rename_i x hx
    cases hy:e.F x with
    |none=>simp_all
    |some y=>simp_all
   trivial
 |e::e2::l,h=>by
  have rest:tryF as Xs k (e2::l)=some r-> ∃e'∈e::e2::l,∃x y,e'.args.read as Xs=some x/\e'.F x=some y/\k e' y=some r:=fun h=>by
   obtain⟨e',h1,h2⟩:=Yjb h
   grind
  simp only[tryF]at h
  split at h
  ·rename_i x hx
   cases hy:e.F x with
   |none=>rw[hy]at h;exact rest h
   |some y=>rw[hy]at h;exact⟨e,Yw6 ..,x,y,hx,hy,h⟩
  simp_all
theorem Ywe(hr:HRel Fr H0 X pl H){a:Nat}{o:VObj}(ho:vget X a=some o): ∃z,pl (.m a)=some z:=by
 have:=hr.obj a o ho
 cases o with
 |sq c l=>obtain⟨x,_,h,_⟩:=this;simp_all
 |fm hd c v h l=>obtain⟨x,_,h,_⟩:=this;simp_all
 |st cs=>obtain⟨x,_,h,_⟩:=this;simp_all
 |sb s=>obtain⟨x,h,_⟩:=this;simp_all
def plB(pl:Pl)(m:List Nat)(n:Nat)(q:Pl):Pl
 | .m b=>match idxV m b 0 with
   |some i=>q (.m i)
   |none=>if b<n then pl (.m b)else q (.m (m.length+(b-n)))
 | .n b i=>match idxV m b 0 with
   |some j=>q (.n j i)
   |none=>if b<n then pl (.n b i)else q (.n (m.length+(b-n)) i)
theorem Yd7{i a:Nat}(hn:m.Nodup)(h:m[i]?=some a):idxV m a 0=some i:=by
 obtain⟨j,hj⟩:=YiG 0 (YwQ h)
 have hs:=(Yb7 hj).2
 have g1:=YwP.1 h
 have g2:=YwP.1 hs
 have:=(List.getElem_inj (h₀:=g1.1) (h₁:=g2.1) hn).1 (by omega)
 simp_all
abbrev mapR(m:List Nat)(n:Nat):Nat->Option Nat:=fun a=>some (YtX m n a)
theorem back{Kp:Nat->Prop}{X2:YtI}{v:TV}(hr:HRel Fr H0 X pl H)(hrK:HRel Kp H (renX X m) (plR pl m) H)(hKf: ∀x,Fr x->Kp x)(hKp: ∀(p:Pos) x,p.of∉m->pl p=some x->Kp x)(hnd:m.Nodup)
  (hlv: ∀a∈m,∃o,vget X a=some o)
  (hkd: ∀i o,i< (renX X m).length->vget X2 i=some o-> ∃o',vget (renX X m) i=some o'/\SameK o o')
  (hal2: ∀i o,vget X2 i=some o-> ∃z,plI (plR pl m) (renX X m).length H.length X2 (.m i)=some z)
  (hlen:(renX X m).length<=X2.length) (hv:wfT X2 v=true) (hX:wfX X2 X2=true):
  TR (Yt4 m (mapR m X.length) X X2) (plB pl m X.length (plI (plR pl m) (renX X m).length H.length X2)) (v.ren (mapR m X.length)) (encT X2 (plI (plR pl m) (renX X m).length H.length X2) v)/\
  HRel Fr H0 (Yt4 m (mapR m X.length) X X2) (plB pl m X.length (plI (plR pl m) (renX X m).length H.length X2)) (Yub Kp H (renX X m).length X2 (plI (plR pl m) (renX X m).length H.length X2))/\
  Ext X pl (Yt4 m (mapR m X.length) X X2) (plB pl m X.length (plI (plR pl m) (renX X m).length H.length X2))/\
  (∀a x,X.length<=a->plB pl m X.length (plI (plR pl m) (renX X m).length H.length X2) (.m a)=some x->H.length<=x):=by
 have hXs:(renX X m).length=m.length:=by simp[renX]
 have hml:m.length<=X2.length:=by rw[<-hXs];exact hlen
 have hat:=fun{p:Pos} {x:Nat}=>YfC (Xs:=renX X m) hrK hlen (p:=p) (x:=x)
 have hkp:=fun{x:Nat}=>Yd3 (Xs:=renX X m) hrK (X2:=X2) (x:=x)
 have hqi:=fun{p q:Pos} {x:Nat}=>Yd2 (Xs:=renX X m) hrK (X2:=X2) (p:=p) (q:=q) (x:=x)
 have hql: ∀{p:Pos} {x},plI (plR pl m) (renX X m).length H.length X2 p=some x-> ∃o,vget X2 p.of=some o:=Yi2
 have hqn: ∀{i k x},plI (plR pl m) (renX X m).length H.length X2 (.n i k)=some x->H.length<=x/\k<memN (vget X2 i):=fun h=>by
  obtain⟨h1,h2,_⟩:=Ybe h;rw[h2];exact⟨by omega,h1⟩
 have hqm: ∀{i k},k<memN (vget X2 i)-> ∃x,plI (plR pl m) (renX X m).length H.length X2 (.n i k)=some x:=fun{i k} h=>⟨H.length+(X2.length-(renX X m).length)+(offN X2 i+k),by simp only[plI];rw[if_pos h]⟩
 have hqs: ∀{i x},plI (plR pl m) (renX X m).length H.length X2 (.m i)=some x->(∃a,m[i]?=some a/\pl (.m a)=some x)\/(m.length<=i/\H.length<=x):=by
  intro i x h
  simp only[plI]at h
  split at h
  ·split at h
   ·simp only[plR]at h
    split at h
    ·exact .inl ⟨_,by assumption,h⟩
    ·cases h
   ·injection h with h;exact .inr ⟨by omega,by omega⟩
  ·cases h
 have hqk: ∀{i o},i<m.length->vget X2 i=some o->plI (plR pl m) (renX X m).length H.length X2 (.m i)=plR pl m (.m i):=by
  intro i o hi ho
  simp only[plI,ho,hXs,if_pos hi]
 have hHl:=Yc2 Kp H (renX X m).length X2 (plI (plR pl m) (renX X m).length H.length X2)
 generalize hH':Yub Kp H (renX X m).length X2 (plI (plR pl m) (renX X m).length H.length X2)=H' at hat hkp hHl⊢
 generalize hq:plI (plR pl m) (renX X m).length H.length X2=q at hat hqi hql hqn hqm hqs hqk hal2⊢
 have hbm: ∀b∈m,b<X.length:=fun b hb=>by obtain⟨o,ho⟩:=hlv b hb;exact Yab ho
 have hml':=YoP (X:=X) (m:=m) (mapR m X.length) X2
 have hf: ∀i,(∃a,m[i]?=some a/\YtX m X.length i=a)\/(m.length<=i/\YtX m X.length i=X.length+(i-m.length)):=by
  intro i
  unfold YtX
  by_cases hi:i<m.length
  ·exact .inl ⟨m[i],YwO hi,by rw[show Yxu i m.length=true by simpa[Nat.blt_eq]using hi,cond_true];simp[List.getD,hi]⟩
  ·exact .inr ⟨by omega,by rw[show Yxu i m.length=false by(cases h:Yxu i m.length with|true=>exact absurd (by simpa[Nat.blt_eq]using h) hi|false=>rfl),cond_false]⟩
 have P1: ∀i,plB pl m X.length q (.m (YtX m X.length i))=q (.m i):=by
  intro i
  rcases hf i with⟨a,h1,h2⟩| ⟨h1,h2⟩
  ·rw[h2];simp only[plB,Yd7 hnd h1]
  ·rw[h2]
   have:X.length+(i-m.length)∉m:=fun h=>by have:=hbm _ h;omega
   simp only[plB,YbM this]
   rw[if_neg (by omega),show m.length+(X.length+(i-m.length)-X.length)=i by omega]
 have P2: ∀i k,plB pl m X.length q (.n (YtX m X.length i) k)=q (.n i k):=by
  intro i k
  rcases hf i with⟨a,h1,h2⟩| ⟨h1,h2⟩
  ·rw[h2];simp only[plB,Yd7 hnd h1]
  ·rw[h2]
   have:X.length+(i-m.length)∉m:=fun h=>by have:=hbm _ h;omega
   simp only[plB,YbM this]
   rw[if_neg (by omega),show m.length+(X.length+(i-m.length)-X.length)=i by omega]
 have V1: ∀i,i<X2.length->vget (Yt4 m (mapR m X.length) X X2) (YtX m X.length i)=(vget X2 i).map fun o=>reB (vget X (YtX m X.length i)) (o.ren (mapR m X.length)):=by
  intro i hi
  rcases hf i with⟨a,h1,h2⟩| ⟨h1,h2⟩
  ·rw[h2];exact YoN _ hnd h1 (hbm a (YwQ h1)) hi
  ·rw[h2,YoO _ (by omega),show m.length+(X.length+(i-m.length)-X.length)=i by omega,Yar (show X.length<=X.length+(i-m.length) by omega)]
   cases vget X2 i with
   |none=>rfl
   |some o=>simp only[YxF,YoL]
 have L1: ∀i,i<X2.length->YtX m X.length i< (Yt4 m (mapR m X.length) X X2).length:=by
  intro i hi
  rw[hml']
  rcases hf i with⟨a,h1,h2⟩| ⟨h1,h2⟩
  ·have:=hbm a (YwQ h1);omega
  ·omega
 have look: ∀{a b:Nat},a<X2.length->mapR m X.length a=some b->b< (Yt4 m (mapR m X.length) X X2).length/\vget (Yt4 m (mapR m X.length) X X2) b=(vget X2 a).map (fun o=>reB (vget X b) (o.ren (mapR m X.length)))/\plB pl m X.length q (.m b)=q (.m a):=by
  intro a b ha hb
  injection hb with hb;subst hb
  exact⟨L1 a ha,V1 a ha,P1 a⟩
 have hgl: ∀(b:Nat) (o:VObj),lenO (reB (vget X b) (o.ren (mapR m X.length)))=lenO o/\elN (reB (vget X b) (o.ren (mapR m X.length)))=elN o:=fun b o=>
  ⟨(Yi5 _ _).1.trans (Yb9 _ _).1,(Yi5 _ _).2.trans (Yb9 _ _).2⟩
 have surj: ∀b,(b∈m\/X.length<=b)-> ∃i,YtX m X.length i=b/\ (b< (Yt4 m (mapR m X.length) X X2).length->i<X2.length):=by
  intro b hb
  by_cases hbm':b∈m
  ·obtain⟨i,hi⟩:=YwW.1 hbm'
   refine⟨i,?_,fun _=> ?_⟩
   ·rcases hf i with⟨a,h1,h2⟩| ⟨h1,h2⟩
    ·rw[hi]at h1;injection h1 with h1;rw[h2,h1]
    ·have:=(YwP.1 hi).1;omega
   ·have:=(YwP.1 hi).1;omega
  ·have hb:=hb.resolve_left hbm'
   refine⟨m.length+(b-X.length),?_,fun h=>by rw[hml']at h;omega⟩
   rcases hf (m.length+(b-X.length))with⟨a,h1,h2⟩| ⟨h1,h2⟩
   ·have:=(YwP.1 h1).1;omega
   ·omega
 have hx:Ext X pl (Yt4 m (mapR m X.length) X X2) (plB pl m X.length q):=by
  refine⟨by rw[hml'];omega,fun a ha=> ?_⟩
  by_cases hm:a∈m
  ·obtain⟨i,hi⟩:=YwW.1 hm
   have hil:=(YwP.1 hi).1
   have hb:YtX m X.length i=a:=by
    rcases hf i with⟨a',h1,h2⟩| ⟨h1,h2⟩
    ·rw[hi]at h1;injection h1 with h1;rw[h2,h1]
    ·omega
   have hv1:=V1 i (by omega)
   have hp1:=P1 i
   rw[hb]at hv1 hp1
   cases ho:vget X2 i with
   |none=>rw[ho]at hv1;exact .inl hv1
   |some o2=>
    rw[ho]at hv1
    obtain⟨o,hoa⟩:=hlv a hm
    have hre:=Yb8 (X:=X) hi
    rw[hoa]at hre
    have hpl:plB pl m X.length q (.m a)=pl (.m a):=by
     rw[hp1,hqk hil ho];simp only[plR,hi]
    obtain⟨o',e2,hk⟩:=hkd i o2 (by omega) ho
    rw[e2]at hre
    injection hre with hre
    refine .inr ⟨o,_,hoa,hv1,?_,?_,hpl,?_,fun hd c ver hole l e=> ?_⟩
    ·rw[(hgl a o2).2,hk.el,hre,(Yb9 _ _).2]
    ·rw[(hgl a o2).1,hk.len,hre,(Yb9 _ _).1]
    ·have e1: ∀p o,isFm (reB p o)=isFm o:=fun p o=>by
      cases p with
      |none=>cases o<;>rfl
      |some p=>cases p<;>cases o<;>rfl
     have e3: ∀r (o:VObj),isFm (o.ren r)=isFm o:=fun r o=>by cases o<;>rfl
     rw[e1,e3,hk.fm,hre,e3]
    ·rw[hoa]at e
     cases o2 with
     |fm hd2 c2 v2 h2 l2=>
      obtain⟨hd0,v0,h0,l0,e0⟩:=hk.c _ _ _ _ _ rfl
      rw[hre]at e0
      cases o with
      |fm hd3 c3 v3 h3 l3=>
       simp only[VObj.ren]at e0 e
       injection e0 with _ e0
       subst e0
       simp only[reB]at e
       injection e with _ e4 e5
       subst e4;subst e5
       exact⟨_,_,_,_,rfl,.inl (by omega)⟩
      |_=>cases e0
     |_=>cases o<;>cases e
  ·have hg:=Yi8 (X:=X) (mapR m X.length) (Y:=X2) hm ha
   cases ho:vget X a with
   |none=>exact .inl (hg.trans ho)
   |some o=>
    refine .inr ⟨o,o,rfl,hg.trans ho,rfl,rfl,?_,rfl,fun hd c ver hole l e=>⟨hd,ver,hole,l,e,.inr ⟨rfl,fun h=>⟨h,rfl,fun i=>⟨rfl,?_⟩⟩⟩⟩⟩
    ·simp only[plB,YbM hm,if_pos ha]
    ·simp only[plB,YbM hm,if_pos ha]
 have hpm: ∀{p:Pos} {x},(p.of∈m\/X.length<=p.of)->plB pl m X.length q p=some x->(∃i,p= .m (YtX m X.length i)/\q (.m i)=some x)\/ ∃i k,p= .n (YtX m X.length i) k/\q (.n i k)=some x:=by
  intro p x hA hp
  cases p with
  |n b k=>
   obtain⟨i,hi,_⟩:=surj b hA
   exact .inr ⟨i,k,by rw[hi],by rw[<-P2 i,hi];exact hp⟩
  |m b=>
   obtain⟨i,hi,_⟩:=surj b hA
   exact .inl ⟨i,by rw[hi],by rw[<-P1 i,hi];exact hp⟩
 refine⟨(Yi4 hal2 v hv).renG (g:=fun b o=>reB (vget X b) (o.ren (mapR m X.length))) hgl look,?_,hx,fun a x ha hp=> ?_⟩
 ·refine hr.build (fun b=>b∈m\/X.length<=b) hx (fun b hb=> ?_) (fun p hb=> ?_) (fun p x hb hp=> ?_) (fun b o hA ho=> ?_) (fun p x hA hp=> ?_) (fun p x hA hp=> ?_) (fun p q x hA hB hp hq=> ?_) (fun x hx=>hkp (hKf x hx)) (by omega)
  ·rw[not_or]at hb
   exact Yi8 _ hb.1 (by omega)
  ·rw[not_or]at hb
   cases p with
   |m b=>simp only[Pos.of]at hb;simp only[plB,YbM hb.1];rw[if_pos (by omega)]
   |n b i=>simp only[Pos.of]at hb;simp only[plB,YbM hb.1];rw[if_pos (by omega)]
  ·rw[not_or]at hb
   exact hkp (hKp p x hb.1 hp)
  ·obtain⟨i,hi,hl⟩:=surj b hA
   have hil:=hl (Yab ho)
   rw[<-hi,V1 i hil,YxE]at ho
   obtain⟨o2,ho2,rfl⟩:=ho
   obtain⟨z,hz⟩:=hal2 i o2 ho2
   have hp:plB pl m X.length q (.m b)=some z:=by rw[<-hi,P1 i];exact hz
   have hH:H'[z]?=some (some (encO X2 q i)):=hat hz
   refine YoK _ ?_
   rcases Ycd hX ho2 with⟨c,l,rfl,h0⟩| ⟨cs,rfl,h0,hw⟩| ⟨s,rfl⟩| ⟨hd,c,v0,l,rfl,h0,hnn⟩
   ·refine⟨z,l.map c.enc,hp,by rw[hH];simp only[encO,ho2],h0,by simp,fun j e v' h1 h2=> ?_⟩
    rw[YwR,h2,YxF]at h1;injection h1 with h1;subst h1
    exact⟨rfl,fun j x x' h1 h2=>by rw[h1]at h2;injection h2 with h2;subst h2;exact .refl _⟩
   ·have hw':=Yc3 hal2 cs hw
    refine⟨z,YuS X2 q cs,hp,by rw[hH];simp only[encO,ho2,Yao,YwY],by simpa[Yao]using h0,?_⟩
    refine⟨by rw[Yao];simpa using hw'.1,fun j c a h1 h2=> ?_⟩
    rw[Yao,YwR,YxE]at h1
    obtain⟨y,h1,rfl⟩:=h1
    exact(hw'.2 j y a h1 h2).renG (g:=fun b o=>reB (vget X b) (o.ren (mapR m X.length))) hgl look
   ·exact⟨z,hp,by rw[hH];simp only[encO,ho2]⟩
   ·refine⟨z,encR q i hd c l,hp,by rw[hH];simp only[encO,ho2],h0,by simp[encR],fun k e v' h1 h2=> ?_⟩
    have hkl:=(YwP.1 h2).1
    unfold encR at h1
    rw[YwR,Yxb hkl,YxF]at h1;injection h1 with h1;subst h1
    have hv':getI (sn c hd.A) l k=v':=by
     have:=YaA (c:=sn c hd.A) hkl
     rw[h2]at this;injection this with this;exact this.symm
    obtain⟨y,hy⟩:=hqm (i:=i) (k:=k) (by rw[ho2];exact hkl)
    refine⟨_,_,rfl,?_,fun _=>.inl ⟨y,(ow c hd.A v').map c.enc,?_,?_,?_,?_⟩⟩
    ·unfold daI;rw[hv']
     exact⟨rfl,fun j x x' h1 h2=>by rw[h1]at h2;injection h2 with h2;subst h2;exact .refl _⟩
    ·rw[<-hi,P2];exact hy
    ·unfold owI;rw[hv',hy];rfl
    ·have h3:H'[y]?=some (some (encP X2 q (.n i k))):=hat hy
     rw[h3];simp only[encP,ho2];unfold owI;rw[hv']
    ·exact⟨by simp,fun j e v'' h1 h2=>by
      rw[YwR,h2,YxF]at h1;injection h1 with h1;subst h1
      exact⟨rfl,fun j x x' h1 h2=>by rw[h1]at h2;injection h2 with h2;subst h2;exact .refl _⟩⟩
  ·rcases hpm hA hp with⟨i,rfl,h2⟩| ⟨i,k,rfl,h2⟩
   ·obtain⟨o,ho⟩:=hql h2
    exact⟨_,by rw[V1 i (Yab ho)];simp only[Pos.of]at ho;rw[ho];rfl⟩
   ·have hk:=(hqn h2).2
    obtain⟨o,ho⟩:=hql h2
    simp only[Pos.of]at ho
    rw[ho]at hk
    cases o with
    |fm hd c v0 h0 l=>
     rcases Ycd hX ho with⟨_,_,e,_⟩| ⟨_,e,_⟩| ⟨_,e⟩| ⟨hd',c',v',l',e,_,_⟩
     ·cases e
     ·cases e
     ·cases e
     ·injection e with _ _ _ e
      subst e
      have hv:=V1 i (Yab ho)
      rw[ho]at hv
      cases hXb:vget X (YtX m X.length i)with
      |none=>rw[hXb]at hv;exact⟨_,_,_,_,_,hv,hk,by simp⟩
      |some ob=>
       rw[hXb]at hv
       cases ob<;>exact⟨_,_,_,_,_,hv,hk,by simp⟩
    |_=>exact absurd hk (Nat.not_lt_zero _)
  ·rcases hpm hA hp with⟨i,rfl,h2⟩| ⟨i,k,rfl,h2⟩
   ·rcases hqs h2 with⟨a,h3,h4⟩| ⟨_,h4⟩
    ·exact .inl ⟨.m a,h4,.inl (YwQ h3)⟩
    ·exact .inr h4
   ·exact .inr (hqn h2).1
  ·rcases hpm hA hp with⟨i,rfl,h2⟩| ⟨i,k,rfl,h2⟩<;>rcases hpm hB hq with⟨j,rfl,h4⟩| ⟨j,k',rfl,h4⟩
   ·have:=hqi h2 h4;injection this with this;rw[this]
   ·have:=hqi h2 h4;cases this
   ·have:=hqi h2 h4;cases this
   ·have:=hqi h2 h4;injection this with this this2;rw[this,this2]
 ·have hna:a∉m:=fun h=>by have:=hbm a h;omega
  simp only[plB,YbM hna]at hp
  rw[if_neg (by omega)]at hp
  rcases hqs hp with⟨a',h3,h4⟩| ⟨_,h4⟩
  ·have:=(YwP.1 h3).1;omega
  ·exact h4
variable{β:Type}{r:β}
theorem Yjc: ∀{d:Nat} {m:List Nat},m.Nodup->(Yt5 X d m).Nodup
 |0,m,h=>h
 |d+1,m,h=>by
  simp only[Yt5]
  cases Yxr (YtK X m (YvM m X 0)).length m.length with
  |true=>exact h
  |false=>exact Yjc (YcV (YbL h))
theorem Yjd: ∀{d:Nat} {m:List Nat},(∀a∈m,∃o,vget X a=some o)-> ∀a∈Yt5 X d m,∃o,vget X a=some o
 |0,m,h=>h
 |d+1,m,h=>by
  simp only[Yt5]
  cases Yxr (YtK X m (YvM m X 0)).length m.length with
  |true=>exact h
  |false=>exact Yjd (Yfq (YcW h))
theorem Yje{T:Tabs}{C:Ctx}(hT:TOK T C){g:Nat}{args:List TV}{as:List AV}{K:TV->YtI->Option β}(hp:T.pf g=false)(h:Yvx T g args X K=some r)(hc:CT X pl args as)(hr:HRel Fr H0 X pl H)(hfr:FrOK Fr H0){KA:AV->Heap->Prop}
  (hk: ∀v X' va H' pl',K v X'=some r->TR X' pl' v va->HRel Fr H0 X' pl' H'->Ext X pl X' pl'->H.length<=H'.length->(∀a x,X.length<=a->pl' (.m a)=some x->H.length<=x)->
   (∀b x,b∉Yt5 X 4 (YtO X 5 (YtK X [] (TV.idss args)))->okO (vget X b)=true->pl (.m b)=some x->hf H' x=hf H x)->
   (∀b x,b∉Yt5 X 4 (YtO X 5 (YtK X [] (TV.idss args)))->pl (.m b)=some x->(∀o,H[x]?=some (some o)-> ∀e∈o.el,∀c∈e,RefIn (Yt6 Fr (Yt5 X 4 (YtO X 5 (YtK X [] (TV.idss args)))) pl) c)->hf H' x=hf H x)->KA va H'):Yvc C g as H KA:=by
 unfold Yvx at h
 have hnd:(Yt5 X 4 (YtO X 5 (YtK X [] (TV.idss args)))).Nodup:=Yjc (YcV (YbL List.nodup_nil))
 have hlv: ∀a∈Yt5 X 4 (YtO X 5 (YtK X [] (TV.idss args))),∃o,vget X a=some o:=Yjd (Yfq (YcW (fun a h=>by cases h)))
 generalize Yt5 X 4 (YtO X 5 (YtK X [] (TV.idss args)))=m at h hnd hlv hk
 obtain⟨e1,h⟩:=Yaa h
 simp at e1
 split at h
 ·rename_i svs sos hs1 hs2
  obtain⟨e,he,x,y,hx,hy,h⟩:=Yjb h
  split at h
  ·rename_i v l hv
   split at h
   ·rename_i X2 hX2
    obtain⟨e2,h⟩:=Yaa h
    simp at e2
    obtain⟨hK,hkd⟩:=YfH h
    obtain⟨hmem,hg⟩:=YfI he
    have hlen:(renX X m).length<=X2.length:=by simpa[renX]using e2.1
    let Kp:Nat->Prop:=Yt6 Fr m pl
    obtain⟨hr,hfK,hun⟩:=YoV hr hfr e1.1
    have hfo:=YoS (Yt6 Fr m pl) H
    have hHl:=YfG (Yt6 Fr m pl) H
    have hsm: ∀x:Nat,(∀o:AObj,H[x]?=some (some o)-> ∀e∈o.el,∀c∈e,RefIn (Yt6 Fr m pl) c)->(clnH (Yt6 Fr m pl) H)[x]?=H[x]?:=fun x h=>Ycf (fun o ho _=>h o ho)
    generalize clnH (Yt6 Fr m pl) H=H1 at hr hfK hun hfo hHl hsm
    have hrs:=Yfs hr hnd
    have hup: ∀{p:Pos} {x},plR pl m p=some x-> ∃q:Pos,q.of∈m/\pl q=some x:=by
     intro p x h
     cases p with
     |m b=>simp only[plR]at h;split at h
           ·rename_i a ha;exact⟨.m a,YwQ ha,h⟩
           ·cases h
     |n b i=>simp only[plR]at h;split at h
             ·rename_i a ha;exact⟨.n a i,YwQ ha,h⟩
             ·cases h
    have hrK:HRel Kp H1 (renX X m) (plR pl m) H1:=by
     refine⟨hrs.obj,hrs.inj,hrs.own,fun x hx=>⟨?_,rfl⟩,fun p x hp hx=> ?_,Yxs _⟩
     ·rcases hx with hx| ⟨p,_,hp⟩
      ·have:=(hr.fr x hx).1;have:=hr.le;omega
      ·exact hr.bd hp
     ·obtain⟨q,h1,h2⟩:=hup hp
      rcases hx with hx| ⟨p',h3,h4⟩
      ·exact hr.nfr _ _ h2 hx
      ·have:=hr.inj _ _ _ h2 h4;subst this;exact h3 h1
    have hcs:CT (renX X m) (plR pl m) (TV.rens (fun a=>idxV m a 0) args) as:=by
     refine⟨by rw[Yao];simpa using hc.1,fun j c a h1 h2=> ?_⟩
     rw[Yao,YwR,YxE]at h1
     obtain⟨z,h1,rfl⟩:=h1
     exact(hc.2 j z a h1 h2).ren
    have hpl0: ∀i o,vget (renX X m) i=some o-> ∃z,plR pl m (.m i)=some z:=fun i o ho=>Ywe hrs ho
    have hpl1: ∀i,i< (renX X m).length-> ∀o,vget X2 i=some o-> ∃z,plR pl m (.m i)=some z:=by
     intro i hi o ho
     obtain⟨o',h2,_⟩:=hkd i o hi ho
     exact hpl0 i _ h2
    have hRI:e.RI as H1 (encT X2 (plI (plR pl m) (renX X m).length H1.length X2) v) (Yub Kp H1 (renX X m).length X2 (plI (plR pl m) (renX X m).length H1.length X2)):=
     ⟨x,y,_,renX X m,plR pl m,Kp,v,l,X2,hy,hx,e1.2,hcs,hrK,hfK,hpl0,hv,hX2,hlen,e2.2.1,e2.2.2,hpl1,rfl,rfl⟩
    refine .inr ⟨by rw[hT.p.pf];exact hp,as,H1,_,_,Yh1 as,hfo,by rw[<-hg];exact hT.fnI e hmem (by rw[hg];exact hp) _ _ _ _ hRI,by rw[Yc2];omega,?_⟩
    have hal2: ∀i o,vget X2 i=some o-> ∃z,plI (plR pl m) (renX X m).length H1.length X2 (.m i)=some z:=by
     intro i o ho
     simp only[plI,ho]
     split
     ·rename_i hi;exact hpl1 i hi o ho
     ·exact⟨_,rfl⟩
    have hme:(renX X m).length<=X2.length:=hlen
    obtain⟨b1,b2,b3,b4⟩:=back hr hrK (fun x h=>.inl h) (fun p x h1 h2=>.inr ⟨p,h1,h2⟩) hnd hlv hkd hal2 hme e2.2.1 e2.2.2
    exact hk _ _ _ _ _ hK b1 b2 b3 (by rw[Yc2];omega) (fun a x h1 h2=>by have:=b4 a x h1 h2;omega) (fun b x hb hok hp=>(Yd3 (Xs:=renX X m) hrK (X2:=X2) (.inr ⟨.m b,hb,hp⟩)).trans (hun b x hb hok hp)) (fun b x hb hp hin=>(Yd3 (Xs:=renX X m) hrK (X2:=X2) (.inr ⟨.m b,hb,hp⟩)).trans (hsm x hin))
   ·cases h
  ·cases h
 ·cases h
end
end Go.Abs
